/-
  No cell of these rows narrows 'for every input' (looked for: loops, veiled, ifaces, maps, wideKeys, modest, calm, conditions, laid).
  DERIVED. THE GIVEN ROWS OF THIS SEAT. 6 by the template 'for every input the law returns true; each argument reads behind the call as it read before'; 0 by the template 'total and deterministic' (their statements: YtopkfhmdgheghaaTotals.lean).
  GIVEN WITH THE SEED: the statements are not yours to turn. If you find one false, say at which input.
  Laid BY PROGRAM, IN A SANDBOX (cutbox-rows.mjs): the forced cells as the released guide's own fill.sh prints them over the translation 8d43492511d62de5… (all of the seat's roots in one cut). By AI agents, Wed Nov 11 2026. No macro, syntax, notation, axiom, sorry.
-/
import Derived.Test.YtopkfhmdgheghaaChecked
import GoSem.Claim
import GoSem.ClaimJoined
import GoSem.ClaimMapViews
import Derived.JoinedTies
import Derived.KernelRfl
namespace Go.Proofs.Ytopkfhmdgheghaa
/- THE CELL 'sum', in the pinned program and in every row, IS THE sha256 OF THE DUMP (.gsa) THAT YtopkfhmdgheghaaProg.lean LOADS. Nothing in Lean hashes anything: it is a label: what it is worth is what the hold of that sum in a sandbox is worth. -/
noncomputable def Try.pinned : Pinned := { name := "ytopkfhmdgheghaa", sum := "8d43492511d62de5b2d5627f1c01d892f0109e6d68fdc5a8101a0ad88d1d1f0b", checked := Try.checked }
namespace Rows
def none {H : Type} : Left H := { results := [], args := [] }

/-- 'handofflaw20.ModelOrder': WHATEVER THE INPUT: true; the input reads as it did. -/
def modelOrderSpec : ChangeSpec := { name := "modelOrder", fn := fun _ => fun
  | [d1, d2, d3] => { results := [.lit (.bool true)], args := [d1, d2, d3] }
  | _ => none }
def modelOrderRow : OpenClaim := { program := "ytopkfhmdgheghaa", sum := "8d43492511d62de5b2d5627f1c01d892f0109e6d68fdc5a8101a0ad88d1d1f0b", func := "handoff/handofflaw20.ModelOrder", spec := "modelOrder", unfollowed := true, recurses := true, apart := false }
def ModelOrderSaid : Prop := modelOrderRow.holds Try.pinned (OpenSpec.ofChange modelOrderSpec)

/-- ITS FALSE NEIGHBOUR: 'it returns false'. Refute it at one input. -/
def modelOrderWrong : ChangeSpec := { name := "modelOrder", fn := fun _ => fun
  | [d1, d2, d3] => { results := [.lit (.bool false)], args := [d1, d2, d3] }
  | _ => none }
def ModelOrderWrongFalsely : Prop := modelOrderRow.holds Try.pinned (OpenSpec.ofChange modelOrderWrong)

/-- 'handofflaw24.ScriptBytes': WHATEVER THE INPUT: true; the input reads as it did. -/
def scriptBytesSpec : ChangeSpec := { name := "scriptBytes", fn := fun _ => fun
  | [d1, d2] => { results := [.lit (.bool true)], args := [d1, d2] }
  | _ => none }
def scriptBytesRow : OpenClaim := { program := "ytopkfhmdgheghaa", sum := "8d43492511d62de5b2d5627f1c01d892f0109e6d68fdc5a8101a0ad88d1d1f0b", func := "handoff/handofflaw24.ScriptBytes", spec := "scriptBytes", unfollowed := true, recurses := true, apart := false }
def ScriptBytesSaid : Prop := scriptBytesRow.holds Try.pinned (OpenSpec.ofChange scriptBytesSpec)

/-- ITS FALSE NEIGHBOUR: 'it returns false'. Refute it at one input. -/
def scriptBytesWrong : ChangeSpec := { name := "scriptBytes", fn := fun _ => fun
  | [d1, d2] => { results := [.lit (.bool false)], args := [d1, d2] }
  | _ => none }
def ScriptBytesWrongFalsely : Prop := scriptBytesRow.holds Try.pinned (OpenSpec.ofChange scriptBytesWrong)

/-- 'handofflaw24.ScriptBack': WHATEVER THE INPUT: true; the input reads as it did. -/
def scriptBackSpec : ChangeSpec := { name := "scriptBack", fn := fun _ => fun
  | [d1, d2] => { results := [.lit (.bool true)], args := [d1, d2] }
  | _ => none }
def scriptBackRow : OpenClaim := { program := "ytopkfhmdgheghaa", sum := "8d43492511d62de5b2d5627f1c01d892f0109e6d68fdc5a8101a0ad88d1d1f0b", func := "handoff/handofflaw24.ScriptBack", spec := "scriptBack", unfollowed := true, recurses := true, apart := false }
def ScriptBackSaid : Prop := scriptBackRow.holds Try.pinned (OpenSpec.ofChange scriptBackSpec)

/-- ITS FALSE NEIGHBOUR: 'it returns false'. Refute it at one input. -/
def scriptBackWrong : ChangeSpec := { name := "scriptBack", fn := fun _ => fun
  | [d1, d2] => { results := [.lit (.bool false)], args := [d1, d2] }
  | _ => none }
def ScriptBackWrongFalsely : Prop := scriptBackRow.holds Try.pinned (OpenSpec.ofChange scriptBackWrong)

/-- 'handofflaw20.ModelWaits': WHATEVER THE INPUT: true; the input reads as it did. -/
def modelWaitsSpec : ChangeSpec := { name := "modelWaits", fn := fun _ => fun
  | [d] => { results := [.lit (.bool true)], args := [d] }
  | _ => none }
def modelWaitsRow : OpenClaim := { program := "ytopkfhmdgheghaa", sum := "8d43492511d62de5b2d5627f1c01d892f0109e6d68fdc5a8101a0ad88d1d1f0b", func := "handoff/handofflaw20.ModelWaits", spec := "modelWaits", unfollowed := true, recurses := true, apart := false }
def ModelWaitsSaid : Prop := modelWaitsRow.holds Try.pinned (OpenSpec.ofChange modelWaitsSpec)

/-- ITS FALSE NEIGHBOUR: 'it returns false'. Refute it at one input. -/
def modelWaitsWrong : ChangeSpec := { name := "modelWaits", fn := fun _ => fun
  | [d] => { results := [.lit (.bool false)], args := [d] }
  | _ => none }
def ModelWaitsWrongFalsely : Prop := modelWaitsRow.holds Try.pinned (OpenSpec.ofChange modelWaitsWrong)

/-- 'handofflaw20.ModelRuns': WHATEVER THE INPUT: true; the input reads as it did. -/
def modelRunsSpec : ChangeSpec := { name := "modelRuns", fn := fun _ => fun
  | [d] => { results := [.lit (.bool true)], args := [d] }
  | _ => none }
def modelRunsRow : OpenClaim := { program := "ytopkfhmdgheghaa", sum := "8d43492511d62de5b2d5627f1c01d892f0109e6d68fdc5a8101a0ad88d1d1f0b", func := "handoff/handofflaw20.ModelRuns", spec := "modelRuns", unfollowed := true, recurses := true, apart := false }
def ModelRunsSaid : Prop := modelRunsRow.holds Try.pinned (OpenSpec.ofChange modelRunsSpec)

/-- ITS FALSE NEIGHBOUR: 'it returns false'. Refute it at one input. -/
def modelRunsWrong : ChangeSpec := { name := "modelRuns", fn := fun _ => fun
  | [d] => { results := [.lit (.bool false)], args := [d] }
  | _ => none }
def ModelRunsWrongFalsely : Prop := modelRunsRow.holds Try.pinned (OpenSpec.ofChange modelRunsWrong)

/-- 'handofflaw19.TaleTells': WHATEVER THE INPUT: true; the input reads as it did. -/
def taleTellsSpec : ChangeSpec := { name := "taleTells", fn := fun _ => fun
  | [d1, d2] => { results := [.lit (.bool true)], args := [d1, d2] }
  | _ => none }
def taleTellsRow : OpenClaim := { program := "ytopkfhmdgheghaa", sum := "8d43492511d62de5b2d5627f1c01d892f0109e6d68fdc5a8101a0ad88d1d1f0b", func := "handoff/handofflaw19.TaleTells", spec := "taleTells", unfollowed := true, recurses := true, apart := false }
def TaleTellsSaid : Prop := taleTellsRow.holds Try.pinned (OpenSpec.ofChange taleTellsSpec)

/-- ITS FALSE NEIGHBOUR: 'it returns false'. Refute it at one input. -/
def taleTellsWrong : ChangeSpec := { name := "taleTells", fn := fun _ => fun
  | [d1, d2] => { results := [.lit (.bool false)], args := [d1, d2] }
  | _ => none }
def TaleTellsWrongFalsely : Prop := taleTellsRow.holds Try.pinned (OpenSpec.ofChange taleTellsWrong)

/- THE SECOND FORM. 'bulk': how many values and letters a reading holds, each counted each time it is reached (what is shared counts as often as it is met; a slice's spare places count too). A statement '..UptoSaid' is the law's where the arguments, and the package variables that the reading takes, are together of bulk at most 1048576: NARROWER than '..Said'. Prove '..Said' where nothing that the law and all that it calls make is longer than what came in: it says more and counts as full. Else prove '..UptoSaid'. A law counts once. -/
mutual
def uptoBulk {H : Type} : DataW H → Nat
  | .lit (.string bytes) => bytes.length + 1
  | .lit _ => 1
  | .nil => 1
  | .ptr d => uptoBulk d + 1
  | .slice elems spare => uptoBulkAll elems + uptoBulkAll spare + 1
  | .agg parts => uptoBulkAll parts + 1
  | .iface _ d => uptoBulk d + 1
  | .map entries => uptoBulkEntries entries + 1
  | .held _ => 1
def uptoBulkAll {H : Type} : List (DataW H) → Nat
  | [] => 0
  | d :: r => uptoBulk d + uptoBulkAll r
def uptoBulkEntries {H : Type} : List (Lit × DataW H) → Nat
  | [] => 0
  | x :: r => uptoBulkEntry x + uptoBulkEntries r
def uptoBulkEntry {H : Type} : Lit × DataW H → Nat
  | (.string bytes, d) => bytes.length + uptoBulk d + 1
  | (_, d) => uptoBulk d + 1
 end
def uptoSmall : (H : Type) → List (DataW H) → Bool := fun _ ds => decide (uptoBulkAll ds ≤ 1048576)
def OpenSpec.upto (s : _root_.Go.ChangeSpec) : _root_.Go.OpenSpec := { _root_.Go.OpenSpec.ofChange s with cond := some uptoSmall }

/-- 'handofflaw20.ModelOrder', WHERE WHAT IT READS IS OF BULK AT MOST 1048576: true; the input reads as it did. -/
def modelOrderUptoRow : OpenClaim := { program := "ytopkfhmdgheghaa", sum := "8d43492511d62de5b2d5627f1c01d892f0109e6d68fdc5a8101a0ad88d1d1f0b", func := "handoff/handofflaw20.ModelOrder", spec := "modelOrder", unfollowed := true, recurses := true, apart := false, narrowed := true }
def ModelOrderUptoSaid : Prop := modelOrderUptoRow.holds Try.pinned (OpenSpec.upto modelOrderSpec)

/-- 'handofflaw24.ScriptBytes', WHERE WHAT IT READS IS OF BULK AT MOST 1048576: true; the input reads as it did. -/
def scriptBytesUptoRow : OpenClaim := { program := "ytopkfhmdgheghaa", sum := "8d43492511d62de5b2d5627f1c01d892f0109e6d68fdc5a8101a0ad88d1d1f0b", func := "handoff/handofflaw24.ScriptBytes", spec := "scriptBytes", unfollowed := true, recurses := true, apart := false, narrowed := true }
def ScriptBytesUptoSaid : Prop := scriptBytesUptoRow.holds Try.pinned (OpenSpec.upto scriptBytesSpec)

/-- 'handofflaw24.ScriptBack', WHERE WHAT IT READS IS OF BULK AT MOST 1048576: true; the input reads as it did. -/
def scriptBackUptoRow : OpenClaim := { program := "ytopkfhmdgheghaa", sum := "8d43492511d62de5b2d5627f1c01d892f0109e6d68fdc5a8101a0ad88d1d1f0b", func := "handoff/handofflaw24.ScriptBack", spec := "scriptBack", unfollowed := true, recurses := true, apart := false, narrowed := true }
def ScriptBackUptoSaid : Prop := scriptBackUptoRow.holds Try.pinned (OpenSpec.upto scriptBackSpec)

/-- 'handofflaw20.ModelWaits', WHERE WHAT IT READS IS OF BULK AT MOST 1048576: true; the input reads as it did. -/
def modelWaitsUptoRow : OpenClaim := { program := "ytopkfhmdgheghaa", sum := "8d43492511d62de5b2d5627f1c01d892f0109e6d68fdc5a8101a0ad88d1d1f0b", func := "handoff/handofflaw20.ModelWaits", spec := "modelWaits", unfollowed := true, recurses := true, apart := false, narrowed := true }
def ModelWaitsUptoSaid : Prop := modelWaitsUptoRow.holds Try.pinned (OpenSpec.upto modelWaitsSpec)

/-- 'handofflaw20.ModelRuns', WHERE WHAT IT READS IS OF BULK AT MOST 1048576: true; the input reads as it did. -/
def modelRunsUptoRow : OpenClaim := { program := "ytopkfhmdgheghaa", sum := "8d43492511d62de5b2d5627f1c01d892f0109e6d68fdc5a8101a0ad88d1d1f0b", func := "handoff/handofflaw20.ModelRuns", spec := "modelRuns", unfollowed := true, recurses := true, apart := false, narrowed := true }
def ModelRunsUptoSaid : Prop := modelRunsUptoRow.holds Try.pinned (OpenSpec.upto modelRunsSpec)

/-- 'handofflaw19.TaleTells', WHERE WHAT IT READS IS OF BULK AT MOST 1048576: true; the input reads as it did. -/
def taleTellsUptoRow : OpenClaim := { program := "ytopkfhmdgheghaa", sum := "8d43492511d62de5b2d5627f1c01d892f0109e6d68fdc5a8101a0ad88d1d1f0b", func := "handoff/handofflaw19.TaleTells", spec := "taleTells", unfollowed := true, recurses := true, apart := false, narrowed := true }
def TaleTellsUptoSaid : Prop := taleTellsUptoRow.holds Try.pinned (OpenSpec.upto taleTellsSpec)

end Rows
end Go.Proofs.Ytopkfhmdgheghaa
