/-
  No cell of these rows narrows 'for every input' (looked for: loops, veiled, ifaces, maps, wideKeys, modest, calm, conditions, laid).
  DERIVED. THE GIVEN ROWS OF THIS SEAT. 11 by the template 'for every input the law returns true; each argument reads behind the call as it read before'; 0 by the template 'total and deterministic' (their statements: YtofnbflkhgammaaGreatTotals.lean).
  GIVEN WITH THE SEED: the statements are not yours to turn. If you find one false, say at which input.
  Laid BY PROGRAM, IN A SANDBOX (cutbox-rows.mjs): the forced cells as the released guide's own fill.sh prints them over the translation 7fd5dd9ca97353bb… (all of the seat's roots in one cut). By AI agents, Wed Nov 11 2026. No macro, syntax, notation, axiom, sorry.
-/
import Derived.Test.YtofnbflkhgammaaGreatChecked
import GoSem.Claim
import GoSem.ClaimJoined
import GoSem.ClaimMapViews
import Derived.JoinedTies
import Derived.KernelRfl
namespace Go.Proofs.YtofnbflkhgammaaGreat
/- THE CELL 'sum', in the pinned program and in every row, IS THE sha256 OF THE DUMP (.gsa) THAT YtofnbflkhgammaaGreatProg.lean LOADS. Nothing in Lean hashes anything: it is a label: what it is worth is what the hold of that sum in a sandbox is worth. -/
noncomputable def Tryz.pinned : Pinned := { name := "ytofnbflkhgammaagreat", sum := "7fd5dd9ca97353bbe853492bbe91cb2548da07307858e4083d4e8e228c7a7fb6", checked := Tryz.checked }
namespace Rows
def none {H : Type} : Left H := { results := [], args := [] }

/-- 'handofflaw12.StateBack': WHATEVER THE INPUT: true; the input reads as it did. -/
def stateBackSpec : ChangeSpec := { name := "stateBack", fn := fun _ => fun
  | [d1, d2] => { results := [.lit (.bool true)], args := [d1, d2] }
  | _ => none }
def stateBackRow : OpenClaim := { program := "ytofnbflkhgammaagreat", sum := "7fd5dd9ca97353bbe853492bbe91cb2548da07307858e4083d4e8e228c7a7fb6", func := "handoff/handofflaw12.StateBack", spec := "stateBack", unfollowed := true, recurses := true, apart := false }
def StateBackSaid : Prop := stateBackRow.holds Tryz.pinned (OpenSpec.ofChange stateBackSpec)

/-- ITS FALSE NEIGHBOUR: 'it returns false'. Refute it at one input. -/
def stateBackWrong : ChangeSpec := { name := "stateBack", fn := fun _ => fun
  | [d1, d2] => { results := [.lit (.bool false)], args := [d1, d2] }
  | _ => none }
def StateBackWrongFalsely : Prop := stateBackRow.holds Tryz.pinned (OpenSpec.ofChange stateBackWrong)

/-- 'handofflaw12.StateTells': WHATEVER THE INPUT: true; the input reads as it did. -/
def stateTellsSpec : ChangeSpec := { name := "stateTells", fn := fun _ => fun
  | [d1, d2, d3] => { results := [.lit (.bool true)], args := [d1, d2, d3] }
  | _ => none }
def stateTellsRow : OpenClaim := { program := "ytofnbflkhgammaagreat", sum := "7fd5dd9ca97353bbe853492bbe91cb2548da07307858e4083d4e8e228c7a7fb6", func := "handoff/handofflaw12.StateTells", spec := "stateTells", unfollowed := true, recurses := true, apart := false }
def StateTellsSaid : Prop := stateTellsRow.holds Tryz.pinned (OpenSpec.ofChange stateTellsSpec)

/-- ITS FALSE NEIGHBOUR: 'it returns false'. Refute it at one input. -/
def stateTellsWrong : ChangeSpec := { name := "stateTells", fn := fun _ => fun
  | [d1, d2, d3] => { results := [.lit (.bool false)], args := [d1, d2, d3] }
  | _ => none }
def StateTellsWrongFalsely : Prop := stateTellsRow.holds Tryz.pinned (OpenSpec.ofChange stateTellsWrong)

/-- 'handofflaw12.StateCommon': WHATEVER THE INPUT: true; the input reads as it did. -/
def stateCommonSpec : ChangeSpec := { name := "stateCommon", fn := fun _ => fun
  | [d1, d2] => { results := [.lit (.bool true)], args := [d1, d2] }
  | _ => none }
def stateCommonRow : OpenClaim := { program := "ytofnbflkhgammaagreat", sum := "7fd5dd9ca97353bbe853492bbe91cb2548da07307858e4083d4e8e228c7a7fb6", func := "handoff/handofflaw12.StateCommon", spec := "stateCommon", unfollowed := true, recurses := true, apart := false }
def StateCommonSaid : Prop := stateCommonRow.holds Tryz.pinned (OpenSpec.ofChange stateCommonSpec)

/-- ITS FALSE NEIGHBOUR: 'it returns false'. Refute it at one input. -/
def stateCommonWrong : ChangeSpec := { name := "stateCommon", fn := fun _ => fun
  | [d1, d2] => { results := [.lit (.bool false)], args := [d1, d2] }
  | _ => none }
def StateCommonWrongFalsely : Prop := stateCommonRow.holds Tryz.pinned (OpenSpec.ofChange stateCommonWrong)

/-- 'handofflaw15.ShutSteps': WHATEVER THE INPUT: true; the input reads as it did. -/
def shutStepsSpec : ChangeSpec := { name := "shutSteps", fn := fun _ => fun
  | [d1, d2] => { results := [.lit (.bool true)], args := [d1, d2] }
  | _ => none }
def shutStepsRow : OpenClaim := { program := "ytofnbflkhgammaagreat", sum := "7fd5dd9ca97353bbe853492bbe91cb2548da07307858e4083d4e8e228c7a7fb6", func := "handoff/handofflaw15.ShutSteps", spec := "shutSteps", recurses := true, apart := false }
def ShutStepsSaid : Prop := shutStepsRow.holds Tryz.pinned (OpenSpec.ofChange shutStepsSpec)

/-- ITS FALSE NEIGHBOUR: 'it returns false'. Refute it at one input. -/
def shutStepsWrong : ChangeSpec := { name := "shutSteps", fn := fun _ => fun
  | [d1, d2] => { results := [.lit (.bool false)], args := [d1, d2] }
  | _ => none }
def ShutStepsWrongFalsely : Prop := shutStepsRow.holds Tryz.pinned (OpenSpec.ofChange shutStepsWrong)

/-- 'handofflaw15.ShutAll': WHATEVER THE INPUT: true; the input reads as it did. -/
def shutAllSpec : ChangeSpec := { name := "shutAll", fn := fun _ => fun
  | [d1, d2] => { results := [.lit (.bool true)], args := [d1, d2] }
  | _ => none }
def shutAllRow : OpenClaim := { program := "ytofnbflkhgammaagreat", sum := "7fd5dd9ca97353bbe853492bbe91cb2548da07307858e4083d4e8e228c7a7fb6", func := "handoff/handofflaw15.ShutAll", spec := "shutAll", recurses := true, apart := false }
def ShutAllSaid : Prop := shutAllRow.holds Tryz.pinned (OpenSpec.ofChange shutAllSpec)

/-- ITS FALSE NEIGHBOUR: 'it returns false'. Refute it at one input. -/
def shutAllWrong : ChangeSpec := { name := "shutAll", fn := fun _ => fun
  | [d1, d2] => { results := [.lit (.bool false)], args := [d1, d2] }
  | _ => none }
def ShutAllWrongFalsely : Prop := shutAllRow.holds Tryz.pinned (OpenSpec.ofChange shutAllWrong)

/-- 'handofflaw17.OtherBegins': WHATEVER THE INPUT: true; the input reads as it did. -/
def otherBeginsSpec : ChangeSpec := { name := "otherBegins", fn := fun _ => fun
  | [d1, d2] => { results := [.lit (.bool true)], args := [d1, d2] }
  | _ => none }
def otherBeginsRow : OpenClaim := { program := "ytofnbflkhgammaagreat", sum := "7fd5dd9ca97353bbe853492bbe91cb2548da07307858e4083d4e8e228c7a7fb6", func := "handoff/handofflaw17.OtherBegins", spec := "otherBegins", unfollowed := true, recurses := true, apart := false }
def OtherBeginsSaid : Prop := otherBeginsRow.holds Tryz.pinned (OpenSpec.ofChange otherBeginsSpec)

/-- ITS FALSE NEIGHBOUR: 'it returns false'. Refute it at one input. -/
def otherBeginsWrong : ChangeSpec := { name := "otherBegins", fn := fun _ => fun
  | [d1, d2] => { results := [.lit (.bool false)], args := [d1, d2] }
  | _ => none }
def OtherBeginsWrongFalsely : Prop := otherBeginsRow.holds Tryz.pinned (OpenSpec.ofChange otherBeginsWrong)

/-- 'handofflaw13.SendSteps': WHATEVER THE INPUT: true; the input reads as it did. -/
def sendStepsSpec : ChangeSpec := { name := "sendSteps", fn := fun _ => fun
  | [d1, d2] => { results := [.lit (.bool true)], args := [d1, d2] }
  | _ => none }
def sendStepsRow : OpenClaim := { program := "ytofnbflkhgammaagreat", sum := "7fd5dd9ca97353bbe853492bbe91cb2548da07307858e4083d4e8e228c7a7fb6", func := "handoff/handofflaw13.SendSteps", spec := "sendSteps", recurses := true, apart := false }
def SendStepsSaid : Prop := sendStepsRow.holds Tryz.pinned (OpenSpec.ofChange sendStepsSpec)

/-- ITS FALSE NEIGHBOUR: 'it returns false'. Refute it at one input. -/
def sendStepsWrong : ChangeSpec := { name := "sendSteps", fn := fun _ => fun
  | [d1, d2] => { results := [.lit (.bool false)], args := [d1, d2] }
  | _ => none }
def SendStepsWrongFalsely : Prop := sendStepsRow.holds Tryz.pinned (OpenSpec.ofChange sendStepsWrong)

/-- 'handofflaw13.SendTakes': WHATEVER THE INPUT: true; the input reads as it did. -/
def sendTakesSpec : ChangeSpec := { name := "sendTakes", fn := fun _ => fun
  | [d1, d2, d3] => { results := [.lit (.bool true)], args := [d1, d2, d3] }
  | _ => none }
def sendTakesRow : OpenClaim := { program := "ytofnbflkhgammaagreat", sum := "7fd5dd9ca97353bbe853492bbe91cb2548da07307858e4083d4e8e228c7a7fb6", func := "handoff/handofflaw13.SendTakes", spec := "sendTakes", recurses := true, apart := false }
def SendTakesSaid : Prop := sendTakesRow.holds Tryz.pinned (OpenSpec.ofChange sendTakesSpec)

/-- ITS FALSE NEIGHBOUR: 'it returns false'. Refute it at one input. -/
def sendTakesWrong : ChangeSpec := { name := "sendTakes", fn := fun _ => fun
  | [d1, d2, d3] => { results := [.lit (.bool false)], args := [d1, d2, d3] }
  | _ => none }
def SendTakesWrongFalsely : Prop := sendTakesRow.holds Tryz.pinned (OpenSpec.ofChange sendTakesWrong)

/-- 'handofflaw13.SendLooks': WHATEVER THE INPUT: true; the input reads as it did. -/
def sendLooksSpec : ChangeSpec := { name := "sendLooks", fn := fun _ => fun
  | [d1, d2] => { results := [.lit (.bool true)], args := [d1, d2] }
  | _ => none }
def sendLooksRow : OpenClaim := { program := "ytofnbflkhgammaagreat", sum := "7fd5dd9ca97353bbe853492bbe91cb2548da07307858e4083d4e8e228c7a7fb6", func := "handoff/handofflaw13.SendLooks", spec := "sendLooks", recurses := true, apart := false }
def SendLooksSaid : Prop := sendLooksRow.holds Tryz.pinned (OpenSpec.ofChange sendLooksSpec)

/-- ITS FALSE NEIGHBOUR: 'it returns false'. Refute it at one input. -/
def sendLooksWrong : ChangeSpec := { name := "sendLooks", fn := fun _ => fun
  | [d1, d2] => { results := [.lit (.bool false)], args := [d1, d2] }
  | _ => none }
def SendLooksWrongFalsely : Prop := sendLooksRow.holds Tryz.pinned (OpenSpec.ofChange sendLooksWrong)

/-- 'handofflaw14.RecvSteps': WHATEVER THE INPUT: true; the input reads as it did. -/
def recvStepsSpec : ChangeSpec := { name := "recvSteps", fn := fun _ => fun
  | [d1, d2] => { results := [.lit (.bool true)], args := [d1, d2] }
  | _ => none }
def recvStepsRow : OpenClaim := { program := "ytofnbflkhgammaagreat", sum := "7fd5dd9ca97353bbe853492bbe91cb2548da07307858e4083d4e8e228c7a7fb6", func := "handoff/handofflaw14.RecvSteps", spec := "recvSteps", recurses := true, apart := false }
def RecvStepsSaid : Prop := recvStepsRow.holds Tryz.pinned (OpenSpec.ofChange recvStepsSpec)

/-- ITS FALSE NEIGHBOUR: 'it returns false'. Refute it at one input. -/
def recvStepsWrong : ChangeSpec := { name := "recvSteps", fn := fun _ => fun
  | [d1, d2] => { results := [.lit (.bool false)], args := [d1, d2] }
  | _ => none }
def RecvStepsWrongFalsely : Prop := recvStepsRow.holds Tryz.pinned (OpenSpec.ofChange recvStepsWrong)

/-- 'handofflaw14.RecvHands': WHATEVER THE INPUT: true; the input reads as it did. -/
def recvHandsSpec : ChangeSpec := { name := "recvHands", fn := fun _ => fun
  | [d1, d2] => { results := [.lit (.bool true)], args := [d1, d2] }
  | _ => none }
def recvHandsRow : OpenClaim := { program := "ytofnbflkhgammaagreat", sum := "7fd5dd9ca97353bbe853492bbe91cb2548da07307858e4083d4e8e228c7a7fb6", func := "handoff/handofflaw14.RecvHands", spec := "recvHands", recurses := true, apart := false }
def RecvHandsSaid : Prop := recvHandsRow.holds Tryz.pinned (OpenSpec.ofChange recvHandsSpec)

/-- ITS FALSE NEIGHBOUR: 'it returns false'. Refute it at one input. -/
def recvHandsWrong : ChangeSpec := { name := "recvHands", fn := fun _ => fun
  | [d1, d2] => { results := [.lit (.bool false)], args := [d1, d2] }
  | _ => none }
def RecvHandsWrongFalsely : Prop := recvHandsRow.holds Tryz.pinned (OpenSpec.ofChange recvHandsWrong)

/- THE SECOND FORM. 'bulk': how many values and letters a reading holds, each counted each time it is reached (what is shared counts as often as it is met; a slice's spare places count too). A statement '..UptoSaid' is the law's where the arguments, and the package variables that the reading takes, are together of bulk at most 1048576: NARROWER than '..Said'. Prove '..Said' where nothing that the law and all that it calls make is longer than what came in: it says more and counts as full. Else prove '..UptoSaid'. A law counts once. -/
mutual
def uptoBulk {H : Type} : DataW H → Nat
  | .lit (.string bytes) => bytes.length + 1
  | .lit _ => 1
  | .nil => 1
  | .ptr d => uptoBulk d + 1
  | .slice elems spare => uptoBulkAll elems + uptoBulkAll spare + 1
  | .agg parts => uptoBulkAll parts + 1
  | .iface _ d => uptoBulk d + 1
  | .map entries => uptoBulkEntries entries + 1
  | .held _ => 1
def uptoBulkAll {H : Type} : List (DataW H) → Nat
  | [] => 0
  | d :: r => uptoBulk d + uptoBulkAll r
def uptoBulkEntries {H : Type} : List (Lit × DataW H) → Nat
  | [] => 0
  | x :: r => uptoBulkEntry x + uptoBulkEntries r
def uptoBulkEntry {H : Type} : Lit × DataW H → Nat
  | (.string bytes, d) => bytes.length + uptoBulk d + 1
  | (_, d) => uptoBulk d + 1
 end
def uptoSmall : (H : Type) → List (DataW H) → Bool := fun _ ds => decide (uptoBulkAll ds ≤ 1048576)
def OpenSpec.upto (s : _root_.Go.ChangeSpec) : _root_.Go.OpenSpec := { _root_.Go.OpenSpec.ofChange s with cond := some uptoSmall }

/-- 'handofflaw12.StateBack', WHERE WHAT IT READS IS OF BULK AT MOST 1048576: true; the input reads as it did. -/
def stateBackUptoRow : OpenClaim := { program := "ytofnbflkhgammaagreat", sum := "7fd5dd9ca97353bbe853492bbe91cb2548da07307858e4083d4e8e228c7a7fb6", func := "handoff/handofflaw12.StateBack", spec := "stateBack", unfollowed := true, recurses := true, apart := false, narrowed := true }
def StateBackUptoSaid : Prop := stateBackUptoRow.holds Tryz.pinned (OpenSpec.upto stateBackSpec)

/-- 'handofflaw12.StateTells', WHERE WHAT IT READS IS OF BULK AT MOST 1048576: true; the input reads as it did. -/
def stateTellsUptoRow : OpenClaim := { program := "ytofnbflkhgammaagreat", sum := "7fd5dd9ca97353bbe853492bbe91cb2548da07307858e4083d4e8e228c7a7fb6", func := "handoff/handofflaw12.StateTells", spec := "stateTells", unfollowed := true, recurses := true, apart := false, narrowed := true }
def StateTellsUptoSaid : Prop := stateTellsUptoRow.holds Tryz.pinned (OpenSpec.upto stateTellsSpec)

/-- 'handofflaw12.StateCommon', WHERE WHAT IT READS IS OF BULK AT MOST 1048576: true; the input reads as it did. -/
def stateCommonUptoRow : OpenClaim := { program := "ytofnbflkhgammaagreat", sum := "7fd5dd9ca97353bbe853492bbe91cb2548da07307858e4083d4e8e228c7a7fb6", func := "handoff/handofflaw12.StateCommon", spec := "stateCommon", unfollowed := true, recurses := true, apart := false, narrowed := true }
def StateCommonUptoSaid : Prop := stateCommonUptoRow.holds Tryz.pinned (OpenSpec.upto stateCommonSpec)

/-- 'handofflaw15.ShutSteps', WHERE WHAT IT READS IS OF BULK AT MOST 1048576: true; the input reads as it did. -/
def shutStepsUptoRow : OpenClaim := { program := "ytofnbflkhgammaagreat", sum := "7fd5dd9ca97353bbe853492bbe91cb2548da07307858e4083d4e8e228c7a7fb6", func := "handoff/handofflaw15.ShutSteps", spec := "shutSteps", recurses := true, apart := false, narrowed := true }
def ShutStepsUptoSaid : Prop := shutStepsUptoRow.holds Tryz.pinned (OpenSpec.upto shutStepsSpec)

/-- 'handofflaw15.ShutAll', WHERE WHAT IT READS IS OF BULK AT MOST 1048576: true; the input reads as it did. -/
def shutAllUptoRow : OpenClaim := { program := "ytofnbflkhgammaagreat", sum := "7fd5dd9ca97353bbe853492bbe91cb2548da07307858e4083d4e8e228c7a7fb6", func := "handoff/handofflaw15.ShutAll", spec := "shutAll", recurses := true, apart := false, narrowed := true }
def ShutAllUptoSaid : Prop := shutAllUptoRow.holds Tryz.pinned (OpenSpec.upto shutAllSpec)

/-- 'handofflaw17.OtherBegins', WHERE WHAT IT READS IS OF BULK AT MOST 1048576: true; the input reads as it did. -/
def otherBeginsUptoRow : OpenClaim := { program := "ytofnbflkhgammaagreat", sum := "7fd5dd9ca97353bbe853492bbe91cb2548da07307858e4083d4e8e228c7a7fb6", func := "handoff/handofflaw17.OtherBegins", spec := "otherBegins", unfollowed := true, recurses := true, apart := false, narrowed := true }
def OtherBeginsUptoSaid : Prop := otherBeginsUptoRow.holds Tryz.pinned (OpenSpec.upto otherBeginsSpec)

/-- 'handofflaw13.SendSteps', WHERE WHAT IT READS IS OF BULK AT MOST 1048576: true; the input reads as it did. -/
def sendStepsUptoRow : OpenClaim := { program := "ytofnbflkhgammaagreat", sum := "7fd5dd9ca97353bbe853492bbe91cb2548da07307858e4083d4e8e228c7a7fb6", func := "handoff/handofflaw13.SendSteps", spec := "sendSteps", recurses := true, apart := false, narrowed := true }
def SendStepsUptoSaid : Prop := sendStepsUptoRow.holds Tryz.pinned (OpenSpec.upto sendStepsSpec)

/-- 'handofflaw13.SendTakes', WHERE WHAT IT READS IS OF BULK AT MOST 1048576: true; the input reads as it did. -/
def sendTakesUptoRow : OpenClaim := { program := "ytofnbflkhgammaagreat", sum := "7fd5dd9ca97353bbe853492bbe91cb2548da07307858e4083d4e8e228c7a7fb6", func := "handoff/handofflaw13.SendTakes", spec := "sendTakes", recurses := true, apart := false, narrowed := true }
def SendTakesUptoSaid : Prop := sendTakesUptoRow.holds Tryz.pinned (OpenSpec.upto sendTakesSpec)

/-- 'handofflaw13.SendLooks', WHERE WHAT IT READS IS OF BULK AT MOST 1048576: true; the input reads as it did. -/
def sendLooksUptoRow : OpenClaim := { program := "ytofnbflkhgammaagreat", sum := "7fd5dd9ca97353bbe853492bbe91cb2548da07307858e4083d4e8e228c7a7fb6", func := "handoff/handofflaw13.SendLooks", spec := "sendLooks", recurses := true, apart := false, narrowed := true }
def SendLooksUptoSaid : Prop := sendLooksUptoRow.holds Tryz.pinned (OpenSpec.upto sendLooksSpec)

/-- 'handofflaw14.RecvSteps', WHERE WHAT IT READS IS OF BULK AT MOST 1048576: true; the input reads as it did. -/
def recvStepsUptoRow : OpenClaim := { program := "ytofnbflkhgammaagreat", sum := "7fd5dd9ca97353bbe853492bbe91cb2548da07307858e4083d4e8e228c7a7fb6", func := "handoff/handofflaw14.RecvSteps", spec := "recvSteps", recurses := true, apart := false, narrowed := true }
def RecvStepsUptoSaid : Prop := recvStepsUptoRow.holds Tryz.pinned (OpenSpec.upto recvStepsSpec)

/-- 'handofflaw14.RecvHands', WHERE WHAT IT READS IS OF BULK AT MOST 1048576: true; the input reads as it did. -/
def recvHandsUptoRow : OpenClaim := { program := "ytofnbflkhgammaagreat", sum := "7fd5dd9ca97353bbe853492bbe91cb2548da07307858e4083d4e8e228c7a7fb6", func := "handoff/handofflaw14.RecvHands", spec := "recvHands", recurses := true, apart := false, narrowed := true }
def RecvHandsUptoSaid : Prop := recvHandsUptoRow.holds Tryz.pinned (OpenSpec.upto recvHandsSpec)

end Rows
end Go.Proofs.YtofnbflkhgammaaGreat
