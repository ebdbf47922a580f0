/-
  No cell of these rows narrows 'for every input' (looked for: loops, veiled, ifaces, maps, wideKeys, modest, calm, conditions, laid).
  DERIVED. THE GIVEN ROWS OF THIS SEAT. 3 by the template 'for every input the law returns true; each argument reads behind the call as it read before'; 0 by the template 'total and deterministic' (their statements: YtgjpdogjekmemaaGreatTotals.lean).
  GIVEN WITH THE SEED: the statements are not yours to turn. If you find one false, say at which input.
  Laid BY PROGRAM, IN A SANDBOX (cutbox-rows.mjs): the forced cells as the released guide's own fill.sh prints them over the translation 81d658da464f38c2… (all of the seat's roots in one cut). By AI agents, Wed Nov 11 2026. No macro, syntax, notation, axiom, sorry.
-/
import Derived.Test.YtgjpdogjekmemaaGreatChecked
import GoSem.Claim
import GoSem.ClaimJoined
import GoSem.ClaimMapViews
import Derived.JoinedTies
import Derived.KernelRfl
namespace Go.Proofs.YtgjpdogjekmemaaGreat
/- THE CELL 'sum', in the pinned program and in every row, IS THE sha256 OF THE DUMP (.gsa) THAT YtgjpdogjekmemaaGreatProg.lean LOADS. Nothing in Lean hashes anything: it is a label: what it is worth is what the hold of that sum in a sandbox is worth. -/
noncomputable def Tryz.pinned : Pinned := { name := "ytgjpdogjekmemaagreat", sum := "81d658da464f38c2bc196c58c4ad527b190a1d77cc6c8a2aa57cf8fbfbe542f3", checked := Tryz.checked }
namespace Rows
def none {H : Type} : Left H := { results := [], args := [] }

/-- 'handofflaw19.TaleMarks': WHATEVER THE INPUT: true; the input reads as it did. -/
def taleMarksSpec : ChangeSpec := { name := "taleMarks", fn := fun _ => fun
  | [d1, d2] => { results := [.lit (.bool true)], args := [d1, d2] }
  | _ => none }
def taleMarksRow : OpenClaim := { program := "ytgjpdogjekmemaagreat", sum := "81d658da464f38c2bc196c58c4ad527b190a1d77cc6c8a2aa57cf8fbfbe542f3", func := "handoff/handofflaw19.TaleMarks", spec := "taleMarks", unfollowed := true, recurses := true, apart := false }
def TaleMarksSaid : Prop := taleMarksRow.holds Tryz.pinned (OpenSpec.ofChange taleMarksSpec)

/-- ITS FALSE NEIGHBOUR: 'it returns false'. Refute it at one input. -/
def taleMarksWrong : ChangeSpec := { name := "taleMarks", fn := fun _ => fun
  | [d1, d2] => { results := [.lit (.bool false)], args := [d1, d2] }
  | _ => none }
def TaleMarksWrongFalsely : Prop := taleMarksRow.holds Tryz.pinned (OpenSpec.ofChange taleMarksWrong)

/-- 'handofflaw19.TaleSteps': WHATEVER THE INPUT: true; the input reads as it did. -/
def taleStepsSpec : ChangeSpec := { name := "taleSteps", fn := fun _ => fun
  | [d1, d2, d3] => { results := [.lit (.bool true)], args := [d1, d2, d3] }
  | _ => none }
def taleStepsRow : OpenClaim := { program := "ytgjpdogjekmemaagreat", sum := "81d658da464f38c2bc196c58c4ad527b190a1d77cc6c8a2aa57cf8fbfbe542f3", func := "handoff/handofflaw19.TaleSteps", spec := "taleSteps", unfollowed := true, recurses := true, apart := false }
def TaleStepsSaid : Prop := taleStepsRow.holds Tryz.pinned (OpenSpec.ofChange taleStepsSpec)

/-- ITS FALSE NEIGHBOUR: 'it returns false'. Refute it at one input. -/
def taleStepsWrong : ChangeSpec := { name := "taleSteps", fn := fun _ => fun
  | [d1, d2, d3] => { results := [.lit (.bool false)], args := [d1, d2, d3] }
  | _ => none }
def TaleStepsWrongFalsely : Prop := taleStepsRow.holds Tryz.pinned (OpenSpec.ofChange taleStepsWrong)

/-- 'handofflaw12.StateBack': WHATEVER THE INPUT: true; the input reads as it did. -/
def stateBackSpec : ChangeSpec := { name := "stateBack", fn := fun _ => fun
  | [d1, d2] => { results := [.lit (.bool true)], args := [d1, d2] }
  | _ => none }
def stateBackRow : OpenClaim := { program := "ytgjpdogjekmemaagreat", sum := "81d658da464f38c2bc196c58c4ad527b190a1d77cc6c8a2aa57cf8fbfbe542f3", func := "handoff/handofflaw12.StateBack", spec := "stateBack", unfollowed := true, recurses := true, apart := false }
def StateBackSaid : Prop := stateBackRow.holds Tryz.pinned (OpenSpec.ofChange stateBackSpec)

/-- ITS FALSE NEIGHBOUR: 'it returns false'. Refute it at one input. -/
def stateBackWrong : ChangeSpec := { name := "stateBack", fn := fun _ => fun
  | [d1, d2] => { results := [.lit (.bool false)], args := [d1, d2] }
  | _ => none }
def StateBackWrongFalsely : Prop := stateBackRow.holds Tryz.pinned (OpenSpec.ofChange stateBackWrong)

/- THE SECOND FORM. 'bulk': how many values and letters a reading holds, each counted each time it is reached (what is shared counts as often as it is met; a slice's spare places count too). A statement '..UptoSaid' is the law's where the arguments, and the package variables that the reading takes, are together of bulk at most 1048576: NARROWER than '..Said'. Prove '..Said' where nothing that the law and all that it calls make is longer than what came in: it says more and counts as full. Else prove '..UptoSaid'. A law counts once. -/
mutual
def uptoBulk {H : Type} : DataW H → Nat
  | .lit (.string bytes) => bytes.length + 1
  | .lit _ => 1
  | .nil => 1
  | .ptr d => uptoBulk d + 1
  | .slice elems spare => uptoBulkAll elems + uptoBulkAll spare + 1
  | .agg parts => uptoBulkAll parts + 1
  | .iface _ d => uptoBulk d + 1
  | .map entries => uptoBulkEntries entries + 1
  | .held _ => 1
def uptoBulkAll {H : Type} : List (DataW H) → Nat
  | [] => 0
  | d :: r => uptoBulk d + uptoBulkAll r
def uptoBulkEntries {H : Type} : List (Lit × DataW H) → Nat
  | [] => 0
  | x :: r => uptoBulkEntry x + uptoBulkEntries r
def uptoBulkEntry {H : Type} : Lit × DataW H → Nat
  | (.string bytes, d) => bytes.length + uptoBulk d + 1
  | (_, d) => uptoBulk d + 1
 end
def uptoSmall : (H : Type) → List (DataW H) → Bool := fun _ ds => decide (uptoBulkAll ds ≤ 1048576)
def OpenSpec.upto (s : _root_.Go.ChangeSpec) : _root_.Go.OpenSpec := { _root_.Go.OpenSpec.ofChange s with cond := some uptoSmall }

/-- 'handofflaw19.TaleMarks', WHERE WHAT IT READS IS OF BULK AT MOST 1048576: true; the input reads as it did. -/
def taleMarksUptoRow : OpenClaim := { program := "ytgjpdogjekmemaagreat", sum := "81d658da464f38c2bc196c58c4ad527b190a1d77cc6c8a2aa57cf8fbfbe542f3", func := "handoff/handofflaw19.TaleMarks", spec := "taleMarks", unfollowed := true, recurses := true, apart := false, narrowed := true }
def TaleMarksUptoSaid : Prop := taleMarksUptoRow.holds Tryz.pinned (OpenSpec.upto taleMarksSpec)

/-- 'handofflaw19.TaleSteps', WHERE WHAT IT READS IS OF BULK AT MOST 1048576: true; the input reads as it did. -/
def taleStepsUptoRow : OpenClaim := { program := "ytgjpdogjekmemaagreat", sum := "81d658da464f38c2bc196c58c4ad527b190a1d77cc6c8a2aa57cf8fbfbe542f3", func := "handoff/handofflaw19.TaleSteps", spec := "taleSteps", unfollowed := true, recurses := true, apart := false, narrowed := true }
def TaleStepsUptoSaid : Prop := taleStepsUptoRow.holds Tryz.pinned (OpenSpec.upto taleStepsSpec)

/-- 'handofflaw12.StateBack', WHERE WHAT IT READS IS OF BULK AT MOST 1048576: true; the input reads as it did. -/
def stateBackUptoRow : OpenClaim := { program := "ytgjpdogjekmemaagreat", sum := "81d658da464f38c2bc196c58c4ad527b190a1d77cc6c8a2aa57cf8fbfbe542f3", func := "handoff/handofflaw12.StateBack", spec := "stateBack", unfollowed := true, recurses := true, apart := false, narrowed := true }
def StateBackUptoSaid : Prop := stateBackUptoRow.holds Tryz.pinned (OpenSpec.upto stateBackSpec)

end Rows
end Go.Proofs.YtgjpdogjekmemaaGreat
