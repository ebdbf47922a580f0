/-
  No cell of these rows narrows 'for every input' (looked for: loops, veiled, ifaces, maps, wideKeys, modest, calm, conditions, laid).
  DERIVED. THE GIVEN ROWS OF THIS SEAT. 9 by the template 'for every input the law returns true; each argument reads behind the call as it read before'; 0 by the template 'total and deterministic' (their statements: YtdjhhbpedllnhaaGreatTotals.lean).
  GIVEN WITH THE SEED: the statements are not yours to turn. If you find one false, say at which input.
  Laid BY PROGRAM, IN A SANDBOX (cutbox-rows.mjs): the forced cells as the released guide's own fill.sh prints them over the translation 4847c5bcee6f33f6… (all of the seat's roots in one cut). By AI agents, Wed Nov 11 2026. No macro, syntax, notation, axiom, sorry.
-/
import Derived.Test.YtdjhhbpedllnhaaGreatChecked
import GoSem.Claim
import GoSem.ClaimJoined
import GoSem.ClaimMapViews
import Derived.JoinedTies
import Derived.KernelRfl
namespace Go.Proofs.YtdjhhbpedllnhaaGreat
/- THE CELL 'sum', in the pinned program and in every row, IS THE sha256 OF THE DUMP (.gsa) THAT YtdjhhbpedllnhaaGreatProg.lean LOADS. Nothing in Lean hashes anything: it is a label: what it is worth is what the hold of that sum in a sandbox is worth. -/
noncomputable def Tryz.pinned : Pinned := { name := "ytdjhhbpedllnhaagreat", sum := "4847c5bcee6f33f627f9ac0eea1dd1f520f35a1aa6a5e322b9018665fae2805e", checked := Tryz.checked }
namespace Rows
def none {H : Type} : Left H := { results := [], args := [] }

/-- 'handofflaw12.StateBack': WHATEVER THE INPUT: true; the input reads as it did. -/
def stateBackSpec : ChangeSpec := { name := "stateBack", fn := fun _ => fun
  | [d1, d2] => { results := [.lit (.bool true)], args := [d1, d2] }
  | _ => none }
def stateBackRow : OpenClaim := { program := "ytdjhhbpedllnhaagreat", sum := "4847c5bcee6f33f627f9ac0eea1dd1f520f35a1aa6a5e322b9018665fae2805e", func := "handoff/handofflaw12.StateBack", spec := "stateBack", unfollowed := true, recurses := true, apart := false }
def StateBackSaid : Prop := stateBackRow.holds Tryz.pinned (OpenSpec.ofChange stateBackSpec)

/-- ITS FALSE NEIGHBOUR: 'it returns false'. Refute it at one input. -/
def stateBackWrong : ChangeSpec := { name := "stateBack", fn := fun _ => fun
  | [d1, d2] => { results := [.lit (.bool false)], args := [d1, d2] }
  | _ => none }
def StateBackWrongFalsely : Prop := stateBackRow.holds Tryz.pinned (OpenSpec.ofChange stateBackWrong)

/-- 'handofflaw15.ShutAll': WHATEVER THE INPUT: true; the input reads as it did. -/
def shutAllSpec : ChangeSpec := { name := "shutAll", fn := fun _ => fun
  | [d1, d2] => { results := [.lit (.bool true)], args := [d1, d2] }
  | _ => none }
def shutAllRow : OpenClaim := { program := "ytdjhhbpedllnhaagreat", sum := "4847c5bcee6f33f627f9ac0eea1dd1f520f35a1aa6a5e322b9018665fae2805e", func := "handoff/handofflaw15.ShutAll", spec := "shutAll", recurses := true, apart := false }
def ShutAllSaid : Prop := shutAllRow.holds Tryz.pinned (OpenSpec.ofChange shutAllSpec)

/-- ITS FALSE NEIGHBOUR: 'it returns false'. Refute it at one input. -/
def shutAllWrong : ChangeSpec := { name := "shutAll", fn := fun _ => fun
  | [d1, d2] => { results := [.lit (.bool false)], args := [d1, d2] }
  | _ => none }
def ShutAllWrongFalsely : Prop := shutAllRow.holds Tryz.pinned (OpenSpec.ofChange shutAllWrong)

/-- 'handofflaw17.OtherBegins': WHATEVER THE INPUT: true; the input reads as it did. -/
def otherBeginsSpec : ChangeSpec := { name := "otherBegins", fn := fun _ => fun
  | [d1, d2] => { results := [.lit (.bool true)], args := [d1, d2] }
  | _ => none }
def otherBeginsRow : OpenClaim := { program := "ytdjhhbpedllnhaagreat", sum := "4847c5bcee6f33f627f9ac0eea1dd1f520f35a1aa6a5e322b9018665fae2805e", func := "handoff/handofflaw17.OtherBegins", spec := "otherBegins", unfollowed := true, recurses := true, apart := false }
def OtherBeginsSaid : Prop := otherBeginsRow.holds Tryz.pinned (OpenSpec.ofChange otherBeginsSpec)

/-- ITS FALSE NEIGHBOUR: 'it returns false'. Refute it at one input. -/
def otherBeginsWrong : ChangeSpec := { name := "otherBegins", fn := fun _ => fun
  | [d1, d2] => { results := [.lit (.bool false)], args := [d1, d2] }
  | _ => none }
def OtherBeginsWrongFalsely : Prop := otherBeginsRow.holds Tryz.pinned (OpenSpec.ofChange otherBeginsWrong)

/-- 'handofflaw14.RecvLooks': WHATEVER THE INPUT: true; the input reads as it did. -/
def recvLooksSpec : ChangeSpec := { name := "recvLooks", fn := fun _ => fun
  | [d1, d2] => { results := [.lit (.bool true)], args := [d1, d2] }
  | _ => none }
def recvLooksRow : OpenClaim := { program := "ytdjhhbpedllnhaagreat", sum := "4847c5bcee6f33f627f9ac0eea1dd1f520f35a1aa6a5e322b9018665fae2805e", func := "handoff/handofflaw14.RecvLooks", spec := "recvLooks", recurses := true, apart := false }
def RecvLooksSaid : Prop := recvLooksRow.holds Tryz.pinned (OpenSpec.ofChange recvLooksSpec)

/-- ITS FALSE NEIGHBOUR: 'it returns false'. Refute it at one input. -/
def recvLooksWrong : ChangeSpec := { name := "recvLooks", fn := fun _ => fun
  | [d1, d2] => { results := [.lit (.bool false)], args := [d1, d2] }
  | _ => none }
def RecvLooksWrongFalsely : Prop := recvLooksRow.holds Tryz.pinned (OpenSpec.ofChange recvLooksWrong)

/-- 'handofflaw16.ChooseSteps': WHATEVER THE INPUT: true; the input reads as it did. -/
def chooseStepsSpec : ChangeSpec := { name := "chooseSteps", fn := fun _ => fun
  | [d1, d2] => { results := [.lit (.bool true)], args := [d1, d2] }
  | _ => none }
def chooseStepsRow : OpenClaim := { program := "ytdjhhbpedllnhaagreat", sum := "4847c5bcee6f33f627f9ac0eea1dd1f520f35a1aa6a5e322b9018665fae2805e", func := "handoff/handofflaw16.ChooseSteps", spec := "chooseSteps", unfollowed := true, recurses := true, apart := false }
def ChooseStepsSaid : Prop := chooseStepsRow.holds Tryz.pinned (OpenSpec.ofChange chooseStepsSpec)

/-- ITS FALSE NEIGHBOUR: 'it returns false'. Refute it at one input. -/
def chooseStepsWrong : ChangeSpec := { name := "chooseSteps", fn := fun _ => fun
  | [d1, d2] => { results := [.lit (.bool false)], args := [d1, d2] }
  | _ => none }
def ChooseStepsWrongFalsely : Prop := chooseStepsRow.holds Tryz.pinned (OpenSpec.ofChange chooseStepsWrong)

/-- 'handofflaw16.ChooseLocks': WHATEVER THE INPUT: true; the input reads as it did. -/
def chooseLocksSpec : ChangeSpec := { name := "chooseLocks", fn := fun _ => fun
  | [d1, d2] => { results := [.lit (.bool true)], args := [d1, d2] }
  | _ => none }
def chooseLocksRow : OpenClaim := { program := "ytdjhhbpedllnhaagreat", sum := "4847c5bcee6f33f627f9ac0eea1dd1f520f35a1aa6a5e322b9018665fae2805e", func := "handoff/handofflaw16.ChooseLocks", spec := "chooseLocks", unfollowed := true, recurses := true, apart := false }
def ChooseLocksSaid : Prop := chooseLocksRow.holds Tryz.pinned (OpenSpec.ofChange chooseLocksSpec)

/-- ITS FALSE NEIGHBOUR: 'it returns false'. Refute it at one input. -/
def chooseLocksWrong : ChangeSpec := { name := "chooseLocks", fn := fun _ => fun
  | [d1, d2] => { results := [.lit (.bool false)], args := [d1, d2] }
  | _ => none }
def ChooseLocksWrongFalsely : Prop := chooseLocksRow.holds Tryz.pinned (OpenSpec.ofChange chooseLocksWrong)

/-- 'handofflaw16.ChooseFirst': WHATEVER THE INPUT: true; the input reads as it did. -/
def chooseFirstSpec : ChangeSpec := { name := "chooseFirst", fn := fun _ => fun
  | [d1, d2] => { results := [.lit (.bool true)], args := [d1, d2] }
  | _ => none }
def chooseFirstRow : OpenClaim := { program := "ytdjhhbpedllnhaagreat", sum := "4847c5bcee6f33f627f9ac0eea1dd1f520f35a1aa6a5e322b9018665fae2805e", func := "handoff/handofflaw16.ChooseFirst", spec := "chooseFirst", unfollowed := true, recurses := true, apart := false }
def ChooseFirstSaid : Prop := chooseFirstRow.holds Tryz.pinned (OpenSpec.ofChange chooseFirstSpec)

/-- ITS FALSE NEIGHBOUR: 'it returns false'. Refute it at one input. -/
def chooseFirstWrong : ChangeSpec := { name := "chooseFirst", fn := fun _ => fun
  | [d1, d2] => { results := [.lit (.bool false)], args := [d1, d2] }
  | _ => none }
def ChooseFirstWrongFalsely : Prop := chooseFirstRow.holds Tryz.pinned (OpenSpec.ofChange chooseFirstWrong)

/-- 'handofflaw18.EngineRuns': WHATEVER THE INPUT: true; the input reads as it did. -/
def engineRunsSpec : ChangeSpec := { name := "engineRuns", fn := fun _ => fun
  | [d1, d2] => { results := [.lit (.bool true)], args := [d1, d2] }
  | _ => none }
def engineRunsRow : OpenClaim := { program := "ytdjhhbpedllnhaagreat", sum := "4847c5bcee6f33f627f9ac0eea1dd1f520f35a1aa6a5e322b9018665fae2805e", func := "handoff/handofflaw18.EngineRuns", spec := "engineRuns", unfollowed := true, recurses := true, apart := false }
def EngineRunsSaid : Prop := engineRunsRow.holds Tryz.pinned (OpenSpec.ofChange engineRunsSpec)

/-- ITS FALSE NEIGHBOUR: 'it returns false'. Refute it at one input. -/
def engineRunsWrong : ChangeSpec := { name := "engineRuns", fn := fun _ => fun
  | [d1, d2] => { results := [.lit (.bool false)], args := [d1, d2] }
  | _ => none }
def EngineRunsWrongFalsely : Prop := engineRunsRow.holds Tryz.pinned (OpenSpec.ofChange engineRunsWrong)

/-- 'handofflaw18.EngineOnes': WHATEVER THE INPUT: true; the input reads as it did. -/
def engineOnesSpec : ChangeSpec := { name := "engineOnes", fn := fun _ => fun
  | [d1, d2, d3] => { results := [.lit (.bool true)], args := [d1, d2, d3] }
  | _ => none }
def engineOnesRow : OpenClaim := { program := "ytdjhhbpedllnhaagreat", sum := "4847c5bcee6f33f627f9ac0eea1dd1f520f35a1aa6a5e322b9018665fae2805e", func := "handoff/handofflaw18.EngineOnes", spec := "engineOnes", unfollowed := true, recurses := true, apart := false }
def EngineOnesSaid : Prop := engineOnesRow.holds Tryz.pinned (OpenSpec.ofChange engineOnesSpec)

/-- ITS FALSE NEIGHBOUR: 'it returns false'. Refute it at one input. -/
def engineOnesWrong : ChangeSpec := { name := "engineOnes", fn := fun _ => fun
  | [d1, d2, d3] => { results := [.lit (.bool false)], args := [d1, d2, d3] }
  | _ => none }
def EngineOnesWrongFalsely : Prop := engineOnesRow.holds Tryz.pinned (OpenSpec.ofChange engineOnesWrong)

/- THE SECOND FORM. 'bulk': how many values and letters a reading holds, each counted each time it is reached (what is shared counts as often as it is met; a slice's spare places count too). A statement '..UptoSaid' is the law's where the arguments, and the package variables that the reading takes, are together of bulk at most 1048576: NARROWER than '..Said'. Prove '..Said' where nothing that the law and all that it calls make is longer than what came in: it says more and counts as full. Else prove '..UptoSaid'. A law counts once. -/
mutual
def uptoBulk {H : Type} : DataW H → Nat
  | .lit (.string bytes) => bytes.length + 1
  | .lit _ => 1
  | .nil => 1
  | .ptr d => uptoBulk d + 1
  | .slice elems spare => uptoBulkAll elems + uptoBulkAll spare + 1
  | .agg parts => uptoBulkAll parts + 1
  | .iface _ d => uptoBulk d + 1
  | .map entries => uptoBulkEntries entries + 1
  | .held _ => 1
def uptoBulkAll {H : Type} : List (DataW H) → Nat
  | [] => 0
  | d :: r => uptoBulk d + uptoBulkAll r
def uptoBulkEntries {H : Type} : List (Lit × DataW H) → Nat
  | [] => 0
  | x :: r => uptoBulkEntry x + uptoBulkEntries r
def uptoBulkEntry {H : Type} : Lit × DataW H → Nat
  | (.string bytes, d) => bytes.length + uptoBulk d + 1
  | (_, d) => uptoBulk d + 1
 end
def uptoSmall : (H : Type) → List (DataW H) → Bool := fun _ ds => decide (uptoBulkAll ds ≤ 1048576)
def OpenSpec.upto (s : _root_.Go.ChangeSpec) : _root_.Go.OpenSpec := { _root_.Go.OpenSpec.ofChange s with cond := some uptoSmall }

/-- 'handofflaw12.StateBack', WHERE WHAT IT READS IS OF BULK AT MOST 1048576: true; the input reads as it did. -/
def stateBackUptoRow : OpenClaim := { program := "ytdjhhbpedllnhaagreat", sum := "4847c5bcee6f33f627f9ac0eea1dd1f520f35a1aa6a5e322b9018665fae2805e", func := "handoff/handofflaw12.StateBack", spec := "stateBack", unfollowed := true, recurses := true, apart := false, narrowed := true }
def StateBackUptoSaid : Prop := stateBackUptoRow.holds Tryz.pinned (OpenSpec.upto stateBackSpec)

/-- 'handofflaw15.ShutAll', WHERE WHAT IT READS IS OF BULK AT MOST 1048576: true; the input reads as it did. -/
def shutAllUptoRow : OpenClaim := { program := "ytdjhhbpedllnhaagreat", sum := "4847c5bcee6f33f627f9ac0eea1dd1f520f35a1aa6a5e322b9018665fae2805e", func := "handoff/handofflaw15.ShutAll", spec := "shutAll", recurses := true, apart := false, narrowed := true }
def ShutAllUptoSaid : Prop := shutAllUptoRow.holds Tryz.pinned (OpenSpec.upto shutAllSpec)

/-- 'handofflaw17.OtherBegins', WHERE WHAT IT READS IS OF BULK AT MOST 1048576: true; the input reads as it did. -/
def otherBeginsUptoRow : OpenClaim := { program := "ytdjhhbpedllnhaagreat", sum := "4847c5bcee6f33f627f9ac0eea1dd1f520f35a1aa6a5e322b9018665fae2805e", func := "handoff/handofflaw17.OtherBegins", spec := "otherBegins", unfollowed := true, recurses := true, apart := false, narrowed := true }
def OtherBeginsUptoSaid : Prop := otherBeginsUptoRow.holds Tryz.pinned (OpenSpec.upto otherBeginsSpec)

/-- 'handofflaw14.RecvLooks', WHERE WHAT IT READS IS OF BULK AT MOST 1048576: true; the input reads as it did. -/
def recvLooksUptoRow : OpenClaim := { program := "ytdjhhbpedllnhaagreat", sum := "4847c5bcee6f33f627f9ac0eea1dd1f520f35a1aa6a5e322b9018665fae2805e", func := "handoff/handofflaw14.RecvLooks", spec := "recvLooks", recurses := true, apart := false, narrowed := true }
def RecvLooksUptoSaid : Prop := recvLooksUptoRow.holds Tryz.pinned (OpenSpec.upto recvLooksSpec)

/-- 'handofflaw16.ChooseSteps', WHERE WHAT IT READS IS OF BULK AT MOST 1048576: true; the input reads as it did. -/
def chooseStepsUptoRow : OpenClaim := { program := "ytdjhhbpedllnhaagreat", sum := "4847c5bcee6f33f627f9ac0eea1dd1f520f35a1aa6a5e322b9018665fae2805e", func := "handoff/handofflaw16.ChooseSteps", spec := "chooseSteps", unfollowed := true, recurses := true, apart := false, narrowed := true }
def ChooseStepsUptoSaid : Prop := chooseStepsUptoRow.holds Tryz.pinned (OpenSpec.upto chooseStepsSpec)

/-- 'handofflaw16.ChooseLocks', WHERE WHAT IT READS IS OF BULK AT MOST 1048576: true; the input reads as it did. -/
def chooseLocksUptoRow : OpenClaim := { program := "ytdjhhbpedllnhaagreat", sum := "4847c5bcee6f33f627f9ac0eea1dd1f520f35a1aa6a5e322b9018665fae2805e", func := "handoff/handofflaw16.ChooseLocks", spec := "chooseLocks", unfollowed := true, recurses := true, apart := false, narrowed := true }
def ChooseLocksUptoSaid : Prop := chooseLocksUptoRow.holds Tryz.pinned (OpenSpec.upto chooseLocksSpec)

/-- 'handofflaw16.ChooseFirst', WHERE WHAT IT READS IS OF BULK AT MOST 1048576: true; the input reads as it did. -/
def chooseFirstUptoRow : OpenClaim := { program := "ytdjhhbpedllnhaagreat", sum := "4847c5bcee6f33f627f9ac0eea1dd1f520f35a1aa6a5e322b9018665fae2805e", func := "handoff/handofflaw16.ChooseFirst", spec := "chooseFirst", unfollowed := true, recurses := true, apart := false, narrowed := true }
def ChooseFirstUptoSaid : Prop := chooseFirstUptoRow.holds Tryz.pinned (OpenSpec.upto chooseFirstSpec)

/-- 'handofflaw18.EngineRuns', WHERE WHAT IT READS IS OF BULK AT MOST 1048576: true; the input reads as it did. -/
def engineRunsUptoRow : OpenClaim := { program := "ytdjhhbpedllnhaagreat", sum := "4847c5bcee6f33f627f9ac0eea1dd1f520f35a1aa6a5e322b9018665fae2805e", func := "handoff/handofflaw18.EngineRuns", spec := "engineRuns", unfollowed := true, recurses := true, apart := false, narrowed := true }
def EngineRunsUptoSaid : Prop := engineRunsUptoRow.holds Tryz.pinned (OpenSpec.upto engineRunsSpec)

/-- 'handofflaw18.EngineOnes', WHERE WHAT IT READS IS OF BULK AT MOST 1048576: true; the input reads as it did. -/
def engineOnesUptoRow : OpenClaim := { program := "ytdjhhbpedllnhaagreat", sum := "4847c5bcee6f33f627f9ac0eea1dd1f520f35a1aa6a5e322b9018665fae2805e", func := "handoff/handofflaw18.EngineOnes", spec := "engineOnes", unfollowed := true, recurses := true, apart := false, narrowed := true }
def EngineOnesUptoSaid : Prop := engineOnesUptoRow.holds Tryz.pinned (OpenSpec.upto engineOnesSpec)

end Rows
end Go.Proofs.YtdjhhbpedllnhaaGreat
