/-
  No cell of these rows narrows 'for every input' (looked for: loops, veiled, ifaces, maps, wideKeys, modest, calm, conditions, laid).
  DERIVED. THE GIVEN ROWS OF THIS SEAT. 7 by the template 'for every input the law returns true; each argument reads behind the call as it read before'; 0 by the template 'total and deterministic' (their statements: YtgpcmifbkbgbjaaTotals.lean).
  GIVEN WITH THE SEED: the statements are not yours to turn. If you find one false, say at which input.
  Laid BY PROGRAM, IN A SANDBOX (cutbox-rows.mjs): the forced cells as the released guide's own fill.sh prints them over the translation bda8a5658902f8cf… (all of the seat's roots in one cut). By AI agents, Wed Nov 11 2026. No macro, syntax, notation, axiom, sorry.
-/
import Derived.Test.YtgpcmifbkbgbjaaChecked
import GoSem.Claim
import GoSem.ClaimJoined
import GoSem.ClaimMapViews
import Derived.JoinedTies
import Derived.KernelRfl
namespace Go.Proofs.Ytgpcmifbkbgbjaa
/- THE CELL 'sum', in the pinned program and in every row, IS THE sha256 OF THE DUMP (.gsa) THAT YtgpcmifbkbgbjaaProg.lean LOADS. Nothing in Lean hashes anything: it is a label: what it is worth is what the hold of that sum in a sandbox is worth. -/
noncomputable def Try.pinned : Pinned := { name := "ytgpcmifbkbgbjaa", sum := "bda8a5658902f8cf380b0c310af34a88e04e630cc8513e0a32db1fb4c3e0c9ee", checked := Try.checked }
namespace Rows
def none {H : Type} : Left H := { results := [], args := [] }

/-- 'handofflaw07.LatchOne': WHATEVER THE INPUT: true; the input reads as it did. -/
def latchOneSpec : ChangeSpec := { name := "latchOne", fn := fun _ => fun
  | [d] => { results := [.lit (.bool true)], args := [d] }
  | _ => none }
def latchOneRow : OpenClaim := { program := "ytgpcmifbkbgbjaa", sum := "bda8a5658902f8cf380b0c310af34a88e04e630cc8513e0a32db1fb4c3e0c9ee", func := "handoff/handofflaw07.LatchOne", spec := "latchOne", apart := false }
def LatchOneSaid : Prop := latchOneRow.holds Try.pinned (OpenSpec.ofChange latchOneSpec)

/-- ITS FALSE NEIGHBOUR: 'it returns false'. Refute it at one input. -/
def latchOneWrong : ChangeSpec := { name := "latchOne", fn := fun _ => fun
  | [d] => { results := [.lit (.bool false)], args := [d] }
  | _ => none }
def LatchOneWrongFalsely : Prop := latchOneRow.holds Try.pinned (OpenSpec.ofChange latchOneWrong)

/-- 'handofflaw04.RingNew': WHATEVER THE INPUT: true; the input reads as it did. -/
def ringNewSpec : ChangeSpec := { name := "ringNew", fn := fun _ => fun
  | [d1, d2] => { results := [.lit (.bool true)], args := [d1, d2] }
  | _ => none }
def ringNewRow : OpenClaim := { program := "ytgpcmifbkbgbjaa", sum := "bda8a5658902f8cf380b0c310af34a88e04e630cc8513e0a32db1fb4c3e0c9ee", func := "handoff/handofflaw04.RingNew", spec := "ringNew", apart := false }
def RingNewSaid : Prop := ringNewRow.holds Try.pinned (OpenSpec.ofChange ringNewSpec)

/-- ITS FALSE NEIGHBOUR: 'it returns false'. Refute it at one input. -/
def ringNewWrong : ChangeSpec := { name := "ringNew", fn := fun _ => fun
  | [d1, d2] => { results := [.lit (.bool false)], args := [d1, d2] }
  | _ => none }
def RingNewWrongFalsely : Prop := ringNewRow.holds Try.pinned (OpenSpec.ofChange ringNewWrong)

/-- 'handofflaw07.LatchRuns': WHATEVER THE INPUT: true; the input reads as it did. -/
def latchRunsSpec : ChangeSpec := { name := "latchRuns", fn := fun _ => fun
  | [d1, d2] => { results := [.lit (.bool true)], args := [d1, d2] }
  | _ => none }
def latchRunsRow : OpenClaim := { program := "ytgpcmifbkbgbjaa", sum := "bda8a5658902f8cf380b0c310af34a88e04e630cc8513e0a32db1fb4c3e0c9ee", func := "handoff/handofflaw07.LatchRuns", spec := "latchRuns", apart := false }
def LatchRunsSaid : Prop := latchRunsRow.holds Try.pinned (OpenSpec.ofChange latchRunsSpec)

/-- ITS FALSE NEIGHBOUR: 'it returns false'. Refute it at one input. -/
def latchRunsWrong : ChangeSpec := { name := "latchRuns", fn := fun _ => fun
  | [d1, d2] => { results := [.lit (.bool false)], args := [d1, d2] }
  | _ => none }
def LatchRunsWrongFalsely : Prop := latchRunsRow.holds Try.pinned (OpenSpec.ofChange latchRunsWrong)

/-- 'handofflaw04.RingRuns': WHATEVER THE INPUT: true; the input reads as it did. -/
def ringRunsSpec : ChangeSpec := { name := "ringRuns", fn := fun _ => fun
  | [d1, d2, d3] => { results := [.lit (.bool true)], args := [d1, d2, d3] }
  | _ => none }
def ringRunsRow : OpenClaim := { program := "ytgpcmifbkbgbjaa", sum := "bda8a5658902f8cf380b0c310af34a88e04e630cc8513e0a32db1fb4c3e0c9ee", func := "handoff/handofflaw04.RingRuns", spec := "ringRuns", apart := false }
def RingRunsSaid : Prop := ringRunsRow.holds Try.pinned (OpenSpec.ofChange ringRunsSpec)

/-- ITS FALSE NEIGHBOUR: 'it returns false'. Refute it at one input. -/
def ringRunsWrong : ChangeSpec := { name := "ringRuns", fn := fun _ => fun
  | [d1, d2, d3] => { results := [.lit (.bool false)], args := [d1, d2, d3] }
  | _ => none }
def RingRunsWrongFalsely : Prop := ringRunsRow.holds Try.pinned (OpenSpec.ofChange ringRunsWrong)

/-- 'handofflaw04.RingRows': WHATEVER THE INPUT: true; the input reads as it did. -/
def ringRowsSpec : ChangeSpec := { name := "ringRows", fn := fun _ => fun
  | [d1, d2, d3] => { results := [.lit (.bool true)], args := [d1, d2, d3] }
  | _ => none }
def ringRowsRow : OpenClaim := { program := "ytgpcmifbkbgbjaa", sum := "bda8a5658902f8cf380b0c310af34a88e04e630cc8513e0a32db1fb4c3e0c9ee", func := "handoff/handofflaw04.RingRows", spec := "ringRows", apart := false }
def RingRowsSaid : Prop := ringRowsRow.holds Try.pinned (OpenSpec.ofChange ringRowsSpec)

/-- ITS FALSE NEIGHBOUR: 'it returns false'. Refute it at one input. -/
def ringRowsWrong : ChangeSpec := { name := "ringRows", fn := fun _ => fun
  | [d1, d2, d3] => { results := [.lit (.bool false)], args := [d1, d2, d3] }
  | _ => none }
def RingRowsWrongFalsely : Prop := ringRowsRow.holds Try.pinned (OpenSpec.ofChange ringRowsWrong)

/-- 'handofflaw08.BenchWakes': WHATEVER THE INPUT: true; the input reads as it did. -/
def benchWakesSpec : ChangeSpec := { name := "benchWakes", fn := fun _ => fun
  | [d] => { results := [.lit (.bool true)], args := [d] }
  | _ => none }
def benchWakesRow : OpenClaim := { program := "ytgpcmifbkbgbjaa", sum := "bda8a5658902f8cf380b0c310af34a88e04e630cc8513e0a32db1fb4c3e0c9ee", func := "handoff/handofflaw08.BenchWakes", spec := "benchWakes", apart := false }
def BenchWakesSaid : Prop := benchWakesRow.holds Try.pinned (OpenSpec.ofChange benchWakesSpec)

/-- ITS FALSE NEIGHBOUR: 'it returns false'. Refute it at one input. -/
def benchWakesWrong : ChangeSpec := { name := "benchWakes", fn := fun _ => fun
  | [d] => { results := [.lit (.bool false)], args := [d] }
  | _ => none }
def BenchWakesWrongFalsely : Prop := benchWakesRow.holds Try.pinned (OpenSpec.ofChange benchWakesWrong)

/-- 'handofflaw08.BenchRuns': WHATEVER THE INPUT: true; the input reads as it did. -/
def benchRunsSpec : ChangeSpec := { name := "benchRuns", fn := fun _ => fun
  | [d1, d2] => { results := [.lit (.bool true)], args := [d1, d2] }
  | _ => none }
def benchRunsRow : OpenClaim := { program := "ytgpcmifbkbgbjaa", sum := "bda8a5658902f8cf380b0c310af34a88e04e630cc8513e0a32db1fb4c3e0c9ee", func := "handoff/handofflaw08.BenchRuns", spec := "benchRuns", apart := false }
def BenchRunsSaid : Prop := benchRunsRow.holds Try.pinned (OpenSpec.ofChange benchRunsSpec)

/-- ITS FALSE NEIGHBOUR: 'it returns false'. Refute it at one input. -/
def benchRunsWrong : ChangeSpec := { name := "benchRuns", fn := fun _ => fun
  | [d1, d2] => { results := [.lit (.bool false)], args := [d1, d2] }
  | _ => none }
def BenchRunsWrongFalsely : Prop := benchRunsRow.holds Try.pinned (OpenSpec.ofChange benchRunsWrong)

/- THE SECOND FORM. 'bulk': how many values and letters a reading holds, each counted each time it is reached (what is shared counts as often as it is met; a slice's spare places count too). A statement '..UptoSaid' is the law's where the arguments, and the package variables that the reading takes, are together of bulk at most 1048576: NARROWER than '..Said'. Prove '..Said' where nothing that the law and all that it calls make is longer than what came in: it says more and counts as full. Else prove '..UptoSaid'. A law counts once. -/
mutual
def uptoBulk {H : Type} : DataW H → Nat
  | .lit (.string bytes) => bytes.length + 1
  | .lit _ => 1
  | .nil => 1
  | .ptr d => uptoBulk d + 1
  | .slice elems spare => uptoBulkAll elems + uptoBulkAll spare + 1
  | .agg parts => uptoBulkAll parts + 1
  | .iface _ d => uptoBulk d + 1
  | .map entries => uptoBulkEntries entries + 1
  | .held _ => 1
def uptoBulkAll {H : Type} : List (DataW H) → Nat
  | [] => 0
  | d :: r => uptoBulk d + uptoBulkAll r
def uptoBulkEntries {H : Type} : List (Lit × DataW H) → Nat
  | [] => 0
  | x :: r => uptoBulkEntry x + uptoBulkEntries r
def uptoBulkEntry {H : Type} : Lit × DataW H → Nat
  | (.string bytes, d) => bytes.length + uptoBulk d + 1
  | (_, d) => uptoBulk d + 1
 end
def uptoSmall : (H : Type) → List (DataW H) → Bool := fun _ ds => decide (uptoBulkAll ds ≤ 1048576)
def OpenSpec.upto (s : _root_.Go.ChangeSpec) : _root_.Go.OpenSpec := { _root_.Go.OpenSpec.ofChange s with cond := some uptoSmall }

/-- 'handofflaw07.LatchOne', WHERE WHAT IT READS IS OF BULK AT MOST 1048576: true; the input reads as it did. -/
def latchOneUptoRow : OpenClaim := { program := "ytgpcmifbkbgbjaa", sum := "bda8a5658902f8cf380b0c310af34a88e04e630cc8513e0a32db1fb4c3e0c9ee", func := "handoff/handofflaw07.LatchOne", spec := "latchOne", apart := false, narrowed := true }
def LatchOneUptoSaid : Prop := latchOneUptoRow.holds Try.pinned (OpenSpec.upto latchOneSpec)

/-- 'handofflaw04.RingNew', WHERE WHAT IT READS IS OF BULK AT MOST 1048576: true; the input reads as it did. -/
def ringNewUptoRow : OpenClaim := { program := "ytgpcmifbkbgbjaa", sum := "bda8a5658902f8cf380b0c310af34a88e04e630cc8513e0a32db1fb4c3e0c9ee", func := "handoff/handofflaw04.RingNew", spec := "ringNew", apart := false, narrowed := true }
def RingNewUptoSaid : Prop := ringNewUptoRow.holds Try.pinned (OpenSpec.upto ringNewSpec)

/-- 'handofflaw07.LatchRuns', WHERE WHAT IT READS IS OF BULK AT MOST 1048576: true; the input reads as it did. -/
def latchRunsUptoRow : OpenClaim := { program := "ytgpcmifbkbgbjaa", sum := "bda8a5658902f8cf380b0c310af34a88e04e630cc8513e0a32db1fb4c3e0c9ee", func := "handoff/handofflaw07.LatchRuns", spec := "latchRuns", apart := false, narrowed := true }
def LatchRunsUptoSaid : Prop := latchRunsUptoRow.holds Try.pinned (OpenSpec.upto latchRunsSpec)

/-- 'handofflaw04.RingRuns', WHERE WHAT IT READS IS OF BULK AT MOST 1048576: true; the input reads as it did. -/
def ringRunsUptoRow : OpenClaim := { program := "ytgpcmifbkbgbjaa", sum := "bda8a5658902f8cf380b0c310af34a88e04e630cc8513e0a32db1fb4c3e0c9ee", func := "handoff/handofflaw04.RingRuns", spec := "ringRuns", apart := false, narrowed := true }
def RingRunsUptoSaid : Prop := ringRunsUptoRow.holds Try.pinned (OpenSpec.upto ringRunsSpec)

/-- 'handofflaw04.RingRows', WHERE WHAT IT READS IS OF BULK AT MOST 1048576: true; the input reads as it did. -/
def ringRowsUptoRow : OpenClaim := { program := "ytgpcmifbkbgbjaa", sum := "bda8a5658902f8cf380b0c310af34a88e04e630cc8513e0a32db1fb4c3e0c9ee", func := "handoff/handofflaw04.RingRows", spec := "ringRows", apart := false, narrowed := true }
def RingRowsUptoSaid : Prop := ringRowsUptoRow.holds Try.pinned (OpenSpec.upto ringRowsSpec)

/-- 'handofflaw08.BenchWakes', WHERE WHAT IT READS IS OF BULK AT MOST 1048576: true; the input reads as it did. -/
def benchWakesUptoRow : OpenClaim := { program := "ytgpcmifbkbgbjaa", sum := "bda8a5658902f8cf380b0c310af34a88e04e630cc8513e0a32db1fb4c3e0c9ee", func := "handoff/handofflaw08.BenchWakes", spec := "benchWakes", apart := false, narrowed := true }
def BenchWakesUptoSaid : Prop := benchWakesUptoRow.holds Try.pinned (OpenSpec.upto benchWakesSpec)

/-- 'handofflaw08.BenchRuns', WHERE WHAT IT READS IS OF BULK AT MOST 1048576: true; the input reads as it did. -/
def benchRunsUptoRow : OpenClaim := { program := "ytgpcmifbkbgbjaa", sum := "bda8a5658902f8cf380b0c310af34a88e04e630cc8513e0a32db1fb4c3e0c9ee", func := "handoff/handofflaw08.BenchRuns", spec := "benchRuns", apart := false, narrowed := true }
def BenchRunsUptoSaid : Prop := benchRunsUptoRow.holds Try.pinned (OpenSpec.upto benchRunsSpec)

end Rows
end Go.Proofs.Ytgpcmifbkbgbjaa
