/-
  The document's RightOp: its contract.
  Conditions: none.
-/
import Derived.Test.YtgjpdogjekmemaaDoorPlanVa
import Derived.Test.YtgjpdogjekmemaaDoorPlanV1
import Derived.Test.YtgjpdogjekmemaaDoorPlanVV
import Derived.Test.YtgjpdogjekmemaaDoorPlanV9
import Derived.Test.YtgjpdogjekmemaaDoorPlanVC
namespace Go.Proofs.YtgjpdogjekmemaaDoor
open Go.RowKit
set_option linter.unusedVariables false
set_option linter.unusedSimpArgs false
set_option linter.unnecessarySimpa false
set_option maxRecDepth 100000 in
set_option maxHeartbeats 3200000 in
theorem ref10_rightOp (w : World) (o : Pn.Op) (va : Value) (SA : List Nat) (ha : GV caseE 3 w va o.cases SA) :
    Calls Tryd.prog 25 #[.agg #[.int .i64 o.kind, .int .i64 o.ch, .int .i64 o.n, .int .i64 o.v, va, .bool o.els]] w fun e w' => e = .returned (.bool (Pn.rightOp o)) ∧ Keeps [] w w' := by
  by_cases hb : 1 ≤ o.kind ∧ o.kind ≤ 9 ∧ 0 ≤ o.ch ∧ o.ch ≤ 8 ∧ 0 ≤ o.n ∧ o.n ≤ 4 ∧ 0 ≤ o.v ∧ o.v ≤ 255 ∧ o.cases.length ≤ 6
  · by_cases hk : o.kind = 1
    · exact ref10_rightOp_1 w o va SA ha hb hk
    by_cases hv : o.kind = 2 ∨ o.kind = 4
    · exact ref10_rightOp_V w o va SA ha hb hv hk
    by_cases hk9 : o.kind = 9
    · exact ref10_rightOp_9 w o va SA ha hb hk9
    · exact ref10_rightOp_C w o va SA ha hb hk hv hk9
  · exact ref10_rightOp_no w o va SA ha hb
end Go.Proofs.YtgjpdogjekmemaaDoor
