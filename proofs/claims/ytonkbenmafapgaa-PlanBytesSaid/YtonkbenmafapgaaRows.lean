/-
  No cell of these rows narrows 'for every input' (looked for: loops, veiled, ifaces, maps, wideKeys, modest, calm, conditions, laid).
  DERIVED. THE GIVEN ROWS OF THIS SEAT. 11 by the template 'for every input the law returns true; each argument reads behind the call as it read before'; 0 by the template 'total and deterministic' (their statements: YtonkbenmafapgaaTotals.lean).
  GIVEN WITH THE SEED: the statements are not yours to turn. If you find one false, say at which input.
  Laid BY PROGRAM, IN A SANDBOX (cutbox-rows.mjs): the forced cells as the released guide's own fill.sh prints them over the translation 7ce9806ddcee19c0… (all of the seat's roots in one cut). By AI agents, Wed Nov 11 2026. No macro, syntax, notation, axiom, sorry.
-/
import Derived.Test.YtonkbenmafapgaaChecked
import GoSem.Claim
import GoSem.ClaimJoined
import GoSem.ClaimMapViews
import Derived.JoinedTies
import Derived.KernelRfl
namespace Go.Proofs.Ytonkbenmafapgaa
/- THE CELL 'sum', in the pinned program and in every row, IS THE sha256 OF THE DUMP (.gsa) THAT YtonkbenmafapgaaProg.lean LOADS. Nothing in Lean hashes anything: it is a label: what it is worth is what the hold of that sum in a sandbox is worth. -/
noncomputable def Try.pinned : Pinned := { name := "ytonkbenmafapgaa", sum := "7ce9806ddcee19c0f9e3f38e1eaa56e0be23606b6fe9023927d882c8a9e5e885", checked := Try.checked }
namespace Rows
def none {H : Type} : Left H := { results := [], args := [] }

/-- 'handofflaw05.PoolAll': WHATEVER THE INPUT: true; the input reads as it did. -/
def poolAllSpec : ChangeSpec := { name := "poolAll", fn := fun _ => fun
  | [d1, d2, d3] => { results := [.lit (.bool true)], args := [d1, d2, d3] }
  | _ => none }
def poolAllRow : OpenClaim := { program := "ytonkbenmafapgaa", sum := "7ce9806ddcee19c0f9e3f38e1eaa56e0be23606b6fe9023927d882c8a9e5e885", func := "handoff/handofflaw05.PoolAll", spec := "poolAll", apart := false }
def PoolAllSaid : Prop := poolAllRow.holds Try.pinned (OpenSpec.ofChange poolAllSpec)

/-- ITS FALSE NEIGHBOUR: 'it returns false'. Refute it at one input. -/
def poolAllWrong : ChangeSpec := { name := "poolAll", fn := fun _ => fun
  | [d1, d2, d3] => { results := [.lit (.bool false)], args := [d1, d2, d3] }
  | _ => none }
def PoolAllWrongFalsely : Prop := poolAllRow.holds Try.pinned (OpenSpec.ofChange poolAllWrong)

/-- 'handofflaw05.PoolRuns': WHATEVER THE INPUT: true; the input reads as it did. -/
def poolRunsSpec : ChangeSpec := { name := "poolRuns", fn := fun _ => fun
  | [d1, d2] => { results := [.lit (.bool true)], args := [d1, d2] }
  | _ => none }
def poolRunsRow : OpenClaim := { program := "ytonkbenmafapgaa", sum := "7ce9806ddcee19c0f9e3f38e1eaa56e0be23606b6fe9023927d882c8a9e5e885", func := "handoff/handofflaw05.PoolRuns", spec := "poolRuns", apart := false }
def PoolRunsSaid : Prop := poolRunsRow.holds Try.pinned (OpenSpec.ofChange poolRunsSpec)

/-- ITS FALSE NEIGHBOUR: 'it returns false'. Refute it at one input. -/
def poolRunsWrong : ChangeSpec := { name := "poolRuns", fn := fun _ => fun
  | [d1, d2] => { results := [.lit (.bool false)], args := [d1, d2] }
  | _ => none }
def PoolRunsWrongFalsely : Prop := poolRunsRow.holds Try.pinned (OpenSpec.ofChange poolRunsWrong)

/-- 'handofflaw05.PoolOnce': WHATEVER THE INPUT: true; the input reads as it did. -/
def poolOnceSpec : ChangeSpec := { name := "poolOnce", fn := fun _ => fun
  | [d1, d2] => { results := [.lit (.bool true)], args := [d1, d2] }
  | _ => none }
def poolOnceRow : OpenClaim := { program := "ytonkbenmafapgaa", sum := "7ce9806ddcee19c0f9e3f38e1eaa56e0be23606b6fe9023927d882c8a9e5e885", func := "handoff/handofflaw05.PoolOnce", spec := "poolOnce", apart := false }
def PoolOnceSaid : Prop := poolOnceRow.holds Try.pinned (OpenSpec.ofChange poolOnceSpec)

/-- ITS FALSE NEIGHBOUR: 'it returns false'. Refute it at one input. -/
def poolOnceWrong : ChangeSpec := { name := "poolOnce", fn := fun _ => fun
  | [d1, d2] => { results := [.lit (.bool false)], args := [d1, d2] }
  | _ => none }
def PoolOnceWrongFalsely : Prop := poolOnceRow.holds Try.pinned (OpenSpec.ofChange poolOnceWrong)

/-- 'handofflaw06.QueueNew': WHATEVER THE INPUT: true; the input reads as it did. -/
def queueNewSpec : ChangeSpec := { name := "queueNew", fn := fun _ => fun
  | [d1, d2] => { results := [.lit (.bool true)], args := [d1, d2] }
  | _ => none }
def queueNewRow : OpenClaim := { program := "ytonkbenmafapgaa", sum := "7ce9806ddcee19c0f9e3f38e1eaa56e0be23606b6fe9023927d882c8a9e5e885", func := "handoff/handofflaw06.QueueNew", spec := "queueNew", apart := false }
def QueueNewSaid : Prop := queueNewRow.holds Try.pinned (OpenSpec.ofChange queueNewSpec)

/-- ITS FALSE NEIGHBOUR: 'it returns false'. Refute it at one input. -/
def queueNewWrong : ChangeSpec := { name := "queueNew", fn := fun _ => fun
  | [d1, d2] => { results := [.lit (.bool false)], args := [d1, d2] }
  | _ => none }
def QueueNewWrongFalsely : Prop := queueNewRow.holds Try.pinned (OpenSpec.ofChange queueNewWrong)

/-- 'handofflaw06.QueueRuns': WHATEVER THE INPUT: true; the input reads as it did. -/
def queueRunsSpec : ChangeSpec := { name := "queueRuns", fn := fun _ => fun
  | [d1, d2, d3] => { results := [.lit (.bool true)], args := [d1, d2, d3] }
  | _ => none }
def queueRunsRow : OpenClaim := { program := "ytonkbenmafapgaa", sum := "7ce9806ddcee19c0f9e3f38e1eaa56e0be23606b6fe9023927d882c8a9e5e885", func := "handoff/handofflaw06.QueueRuns", spec := "queueRuns", apart := false }
def QueueRunsSaid : Prop := queueRunsRow.holds Try.pinned (OpenSpec.ofChange queueRunsSpec)

/-- ITS FALSE NEIGHBOUR: 'it returns false'. Refute it at one input. -/
def queueRunsWrong : ChangeSpec := { name := "queueRuns", fn := fun _ => fun
  | [d1, d2, d3] => { results := [.lit (.bool false)], args := [d1, d2, d3] }
  | _ => none }
def QueueRunsWrongFalsely : Prop := queueRunsRow.holds Try.pinned (OpenSpec.ofChange queueRunsWrong)

/-- 'handofflaw06.QueueRows': WHATEVER THE INPUT: true; the input reads as it did. -/
def queueRowsSpec : ChangeSpec := { name := "queueRows", fn := fun _ => fun
  | [d1, d2] => { results := [.lit (.bool true)], args := [d1, d2] }
  | _ => none }
def queueRowsRow : OpenClaim := { program := "ytonkbenmafapgaa", sum := "7ce9806ddcee19c0f9e3f38e1eaa56e0be23606b6fe9023927d882c8a9e5e885", func := "handoff/handofflaw06.QueueRows", spec := "queueRows", apart := false }
def QueueRowsSaid : Prop := queueRowsRow.holds Try.pinned (OpenSpec.ofChange queueRowsSpec)

/-- ITS FALSE NEIGHBOUR: 'it returns false'. Refute it at one input. -/
def queueRowsWrong : ChangeSpec := { name := "queueRows", fn := fun _ => fun
  | [d1, d2] => { results := [.lit (.bool false)], args := [d1, d2] }
  | _ => none }
def QueueRowsWrongFalsely : Prop := queueRowsRow.holds Try.pinned (OpenSpec.ofChange queueRowsWrong)

/-- 'handofflaw10.PlanChecks': WHATEVER THE INPUT: true; the input reads as it did. -/
def planChecksSpec : ChangeSpec := { name := "planChecks", fn := fun _ => fun
  | [d1, d2] => { results := [.lit (.bool true)], args := [d1, d2] }
  | _ => none }
def planChecksRow : OpenClaim := { program := "ytonkbenmafapgaa", sum := "7ce9806ddcee19c0f9e3f38e1eaa56e0be23606b6fe9023927d882c8a9e5e885", func := "handoff/handofflaw10.PlanChecks", spec := "planChecks", unfollowed := true, recurses := true, apart := false }
def PlanChecksSaid : Prop := planChecksRow.holds Try.pinned (OpenSpec.ofChange planChecksSpec)

/-- ITS FALSE NEIGHBOUR: 'it returns false'. Refute it at one input. -/
def planChecksWrong : ChangeSpec := { name := "planChecks", fn := fun _ => fun
  | [d1, d2] => { results := [.lit (.bool false)], args := [d1, d2] }
  | _ => none }
def PlanChecksWrongFalsely : Prop := planChecksRow.holds Try.pinned (OpenSpec.ofChange planChecksWrong)

/-- 'handofflaw05.PoolNew': WHATEVER THE INPUT: true; the input reads as it did. -/
def poolNewSpec : ChangeSpec := { name := "poolNew", fn := fun _ => fun
  | [d1, d2] => { results := [.lit (.bool true)], args := [d1, d2] }
  | _ => none }
def poolNewRow : OpenClaim := { program := "ytonkbenmafapgaa", sum := "7ce9806ddcee19c0f9e3f38e1eaa56e0be23606b6fe9023927d882c8a9e5e885", func := "handoff/handofflaw05.PoolNew", spec := "poolNew", apart := false }
def PoolNewSaid : Prop := poolNewRow.holds Try.pinned (OpenSpec.ofChange poolNewSpec)

/-- ITS FALSE NEIGHBOUR: 'it returns false'. Refute it at one input. -/
def poolNewWrong : ChangeSpec := { name := "poolNew", fn := fun _ => fun
  | [d1, d2] => { results := [.lit (.bool false)], args := [d1, d2] }
  | _ => none }
def PoolNewWrongFalsely : Prop := poolNewRow.holds Try.pinned (OpenSpec.ofChange poolNewWrong)

/-- 'handofflaw10.PlanNames': WHATEVER THE INPUT: true; the input reads as it did. -/
def planNamesSpec : ChangeSpec := { name := "planNames", fn := fun _ => fun
  | [] => { results := [.lit (.bool true)], args := [] }
  | _ => none }
def planNamesRow : OpenClaim := { program := "ytonkbenmafapgaa", sum := "7ce9806ddcee19c0f9e3f38e1eaa56e0be23606b6fe9023927d882c8a9e5e885", func := "handoff/handofflaw10.PlanNames", spec := "planNames", unfollowed := true, recurses := true, apart := false }
def PlanNamesSaid : Prop := planNamesRow.holds Try.pinned (OpenSpec.ofChange planNamesSpec)

/-- ITS FALSE NEIGHBOUR: 'it returns false'. Refute it at one input. -/
def planNamesWrong : ChangeSpec := { name := "planNames", fn := fun _ => fun
  | [] => { results := [.lit (.bool false)], args := [] }
  | _ => none }
def PlanNamesWrongFalsely : Prop := planNamesRow.holds Try.pinned (OpenSpec.ofChange planNamesWrong)

/-- 'handofflaw10.PlanBytes': WHATEVER THE INPUT: true; the input reads as it did. -/
def planBytesSpec : ChangeSpec := { name := "planBytes", fn := fun _ => fun
  | [d1, d2] => { results := [.lit (.bool true)], args := [d1, d2] }
  | _ => none }
def planBytesRow : OpenClaim := { program := "ytonkbenmafapgaa", sum := "7ce9806ddcee19c0f9e3f38e1eaa56e0be23606b6fe9023927d882c8a9e5e885", func := "handoff/handofflaw10.PlanBytes", spec := "planBytes", unfollowed := true, recurses := true, apart := false }
def PlanBytesSaid : Prop := planBytesRow.holds Try.pinned (OpenSpec.ofChange planBytesSpec)

/-- ITS FALSE NEIGHBOUR: 'it returns false'. Refute it at one input. -/
def planBytesWrong : ChangeSpec := { name := "planBytes", fn := fun _ => fun
  | [d1, d2] => { results := [.lit (.bool false)], args := [d1, d2] }
  | _ => none }
def PlanBytesWrongFalsely : Prop := planBytesRow.holds Try.pinned (OpenSpec.ofChange planBytesWrong)

/-- 'handofflaw10.PlanBack': WHATEVER THE INPUT: true; the input reads as it did. -/
def planBackSpec : ChangeSpec := { name := "planBack", fn := fun _ => fun
  | [d1, d2] => { results := [.lit (.bool true)], args := [d1, d2] }
  | _ => none }
def planBackRow : OpenClaim := { program := "ytonkbenmafapgaa", sum := "7ce9806ddcee19c0f9e3f38e1eaa56e0be23606b6fe9023927d882c8a9e5e885", func := "handoff/handofflaw10.PlanBack", spec := "planBack", unfollowed := true, recurses := true, apart := false }
def PlanBackSaid : Prop := planBackRow.holds Try.pinned (OpenSpec.ofChange planBackSpec)

/-- ITS FALSE NEIGHBOUR: 'it returns false'. Refute it at one input. -/
def planBackWrong : ChangeSpec := { name := "planBack", fn := fun _ => fun
  | [d1, d2] => { results := [.lit (.bool false)], args := [d1, d2] }
  | _ => none }
def PlanBackWrongFalsely : Prop := planBackRow.holds Try.pinned (OpenSpec.ofChange planBackWrong)

/- THE SECOND FORM. 'bulk': how many values and letters a reading holds, each counted each time it is reached (what is shared counts as often as it is met; a slice's spare places count too). A statement '..UptoSaid' is the law's where the arguments, and the package variables that the reading takes, are together of bulk at most 1048576: NARROWER than '..Said'. Prove '..Said' where nothing that the law and all that it calls make is longer than what came in: it says more and counts as full. Else prove '..UptoSaid'. A law counts once. -/
mutual
def uptoBulk {H : Type} : DataW H → Nat
  | .lit (.string bytes) => bytes.length + 1
  | .lit _ => 1
  | .nil => 1
  | .ptr d => uptoBulk d + 1
  | .slice elems spare => uptoBulkAll elems + uptoBulkAll spare + 1
  | .agg parts => uptoBulkAll parts + 1
  | .iface _ d => uptoBulk d + 1
  | .map entries => uptoBulkEntries entries + 1
  | .held _ => 1
def uptoBulkAll {H : Type} : List (DataW H) → Nat
  | [] => 0
  | d :: r => uptoBulk d + uptoBulkAll r
def uptoBulkEntries {H : Type} : List (Lit × DataW H) → Nat
  | [] => 0
  | x :: r => uptoBulkEntry x + uptoBulkEntries r
def uptoBulkEntry {H : Type} : Lit × DataW H → Nat
  | (.string bytes, d) => bytes.length + uptoBulk d + 1
  | (_, d) => uptoBulk d + 1
 end
def uptoSmall : (H : Type) → List (DataW H) → Bool := fun _ ds => decide (uptoBulkAll ds ≤ 1048576)
def OpenSpec.upto (s : _root_.Go.ChangeSpec) : _root_.Go.OpenSpec := { _root_.Go.OpenSpec.ofChange s with cond := some uptoSmall }

/-- 'handofflaw05.PoolAll', WHERE WHAT IT READS IS OF BULK AT MOST 1048576: true; the input reads as it did. -/
def poolAllUptoRow : OpenClaim := { program := "ytonkbenmafapgaa", sum := "7ce9806ddcee19c0f9e3f38e1eaa56e0be23606b6fe9023927d882c8a9e5e885", func := "handoff/handofflaw05.PoolAll", spec := "poolAll", apart := false, narrowed := true }
def PoolAllUptoSaid : Prop := poolAllUptoRow.holds Try.pinned (OpenSpec.upto poolAllSpec)

/-- 'handofflaw05.PoolRuns', WHERE WHAT IT READS IS OF BULK AT MOST 1048576: true; the input reads as it did. -/
def poolRunsUptoRow : OpenClaim := { program := "ytonkbenmafapgaa", sum := "7ce9806ddcee19c0f9e3f38e1eaa56e0be23606b6fe9023927d882c8a9e5e885", func := "handoff/handofflaw05.PoolRuns", spec := "poolRuns", apart := false, narrowed := true }
def PoolRunsUptoSaid : Prop := poolRunsUptoRow.holds Try.pinned (OpenSpec.upto poolRunsSpec)

/-- 'handofflaw05.PoolOnce', WHERE WHAT IT READS IS OF BULK AT MOST 1048576: true; the input reads as it did. -/
def poolOnceUptoRow : OpenClaim := { program := "ytonkbenmafapgaa", sum := "7ce9806ddcee19c0f9e3f38e1eaa56e0be23606b6fe9023927d882c8a9e5e885", func := "handoff/handofflaw05.PoolOnce", spec := "poolOnce", apart := false, narrowed := true }
def PoolOnceUptoSaid : Prop := poolOnceUptoRow.holds Try.pinned (OpenSpec.upto poolOnceSpec)

/-- 'handofflaw06.QueueNew', WHERE WHAT IT READS IS OF BULK AT MOST 1048576: true; the input reads as it did. -/
def queueNewUptoRow : OpenClaim := { program := "ytonkbenmafapgaa", sum := "7ce9806ddcee19c0f9e3f38e1eaa56e0be23606b6fe9023927d882c8a9e5e885", func := "handoff/handofflaw06.QueueNew", spec := "queueNew", apart := false, narrowed := true }
def QueueNewUptoSaid : Prop := queueNewUptoRow.holds Try.pinned (OpenSpec.upto queueNewSpec)

/-- 'handofflaw06.QueueRuns', WHERE WHAT IT READS IS OF BULK AT MOST 1048576: true; the input reads as it did. -/
def queueRunsUptoRow : OpenClaim := { program := "ytonkbenmafapgaa", sum := "7ce9806ddcee19c0f9e3f38e1eaa56e0be23606b6fe9023927d882c8a9e5e885", func := "handoff/handofflaw06.QueueRuns", spec := "queueRuns", apart := false, narrowed := true }
def QueueRunsUptoSaid : Prop := queueRunsUptoRow.holds Try.pinned (OpenSpec.upto queueRunsSpec)

/-- 'handofflaw06.QueueRows', WHERE WHAT IT READS IS OF BULK AT MOST 1048576: true; the input reads as it did. -/
def queueRowsUptoRow : OpenClaim := { program := "ytonkbenmafapgaa", sum := "7ce9806ddcee19c0f9e3f38e1eaa56e0be23606b6fe9023927d882c8a9e5e885", func := "handoff/handofflaw06.QueueRows", spec := "queueRows", apart := false, narrowed := true }
def QueueRowsUptoSaid : Prop := queueRowsUptoRow.holds Try.pinned (OpenSpec.upto queueRowsSpec)

/-- 'handofflaw10.PlanChecks', WHERE WHAT IT READS IS OF BULK AT MOST 1048576: true; the input reads as it did. -/
def planChecksUptoRow : OpenClaim := { program := "ytonkbenmafapgaa", sum := "7ce9806ddcee19c0f9e3f38e1eaa56e0be23606b6fe9023927d882c8a9e5e885", func := "handoff/handofflaw10.PlanChecks", spec := "planChecks", unfollowed := true, recurses := true, apart := false, narrowed := true }
def PlanChecksUptoSaid : Prop := planChecksUptoRow.holds Try.pinned (OpenSpec.upto planChecksSpec)

/-- 'handofflaw05.PoolNew', WHERE WHAT IT READS IS OF BULK AT MOST 1048576: true; the input reads as it did. -/
def poolNewUptoRow : OpenClaim := { program := "ytonkbenmafapgaa", sum := "7ce9806ddcee19c0f9e3f38e1eaa56e0be23606b6fe9023927d882c8a9e5e885", func := "handoff/handofflaw05.PoolNew", spec := "poolNew", apart := false, narrowed := true }
def PoolNewUptoSaid : Prop := poolNewUptoRow.holds Try.pinned (OpenSpec.upto poolNewSpec)

/-- 'handofflaw10.PlanNames', WHERE WHAT IT READS IS OF BULK AT MOST 1048576: true; the input reads as it did. -/
def planNamesUptoRow : OpenClaim := { program := "ytonkbenmafapgaa", sum := "7ce9806ddcee19c0f9e3f38e1eaa56e0be23606b6fe9023927d882c8a9e5e885", func := "handoff/handofflaw10.PlanNames", spec := "planNames", unfollowed := true, recurses := true, apart := false, narrowed := true }
def PlanNamesUptoSaid : Prop := planNamesUptoRow.holds Try.pinned (OpenSpec.upto planNamesSpec)

/-- 'handofflaw10.PlanBytes', WHERE WHAT IT READS IS OF BULK AT MOST 1048576: true; the input reads as it did. -/
def planBytesUptoRow : OpenClaim := { program := "ytonkbenmafapgaa", sum := "7ce9806ddcee19c0f9e3f38e1eaa56e0be23606b6fe9023927d882c8a9e5e885", func := "handoff/handofflaw10.PlanBytes", spec := "planBytes", unfollowed := true, recurses := true, apart := false, narrowed := true }
def PlanBytesUptoSaid : Prop := planBytesUptoRow.holds Try.pinned (OpenSpec.upto planBytesSpec)

/-- 'handofflaw10.PlanBack', WHERE WHAT IT READS IS OF BULK AT MOST 1048576: true; the input reads as it did. -/
def planBackUptoRow : OpenClaim := { program := "ytonkbenmafapgaa", sum := "7ce9806ddcee19c0f9e3f38e1eaa56e0be23606b6fe9023927d882c8a9e5e885", func := "handoff/handofflaw10.PlanBack", spec := "planBack", unfollowed := true, recurses := true, apart := false, narrowed := true }
def PlanBackUptoSaid : Prop := planBackUptoRow.holds Try.pinned (OpenSpec.upto planBackSpec)

end Rows
end Go.Proofs.Ytonkbenmafapgaa
