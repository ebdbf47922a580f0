/-
  The document's RightOp: its contract.
  Conditions: none.
-/
import Derived.Test.YtgjpdogjekmemaaDoorPlanR
namespace Go.Proofs.YtgjpdogjekmemaaDoor
open Go.RowKit
set_option linter.unusedVariables false
set_option linter.unusedSimpArgs false
set_option linter.unnecessarySimpa false
namespace Pn
theorem ref_case {o : Op} {j : Nat} {c : Cs} (h : o.cases[j]? = some c) (hc : rightCs c = false) : rightOp o = false := right_case h (by rw [okCs_right]; exact hc)
end Pn

set_option maxRecDepth 100000 in
set_option maxHeartbeats 3200000 in
theorem ref10_rightOp_no (w : World) (o : Pn.Op) (va : Value) (SA : List Nat) (ha : GV caseE 3 w va o.cases SA) (hb : ¬ (1 ≤ o.kind ∧ o.kind ≤ 9 ∧ 0 ≤ o.ch ∧ o.ch ≤ 8 ∧ 0 ≤ o.n ∧ o.n ≤ 4 ∧ 0 ≤ o.v ∧ o.v ≤ 255 ∧ o.cases.length ≤ 6)) :
    Calls Tryd.prog 25 #[.agg #[.int .i64 o.kind, .int .i64 o.ch, .int .i64 o.n, .int .i64 o.v, va, .bool o.els]] w fun e w' => e = .returned (.bool (Pn.rightOp o)) ∧ Keeps [] w w' := by
  have hla := ha.le
  unfold maxLen at hla
  obtain ⟨ao, cap, rfl⟩ := ha.shape
  have HA := Lib.hid ha
  obtain ⟨q, hq0⟩ : ∃ q, Pn.rightOp o = q := ⟨_, rfl⟩
  rw [hq0]
  have HQ := Lib.hid hq0
  have KA : Hid (Keeps [] w (w.alloc (.cells #[.int .i64 o.kind, .int .i64 o.ch, .int .i64 o.n, .int .i64 o.v, .slice ao o.cases.length cap, .bool o.els] 25))) := Lib.hid ((Keeps.refl [] w).alloc _)
  clear ha hq0
  have HN : Hid (false = q) := Lib.hid (by
    rw [← HQ.out, eq_comm]; unfold Pn.rightOp; rw [decide_eq_false_iff_not]; rintro ⟨h1, h2, h3, h4, h5, h6, h7, h8, h9, _⟩; exact hb ⟨h1, h2, h3, h4, h5, h6, h7, h8, h9⟩)
  have HB := Lib.hid hb
  clear hb
  go_enter Tryd.func25, Tryd.ntmps25
  go_upto_if 48 with fail
  all_goals
    go_wp2_with fail
    all_goals
      first
        | (exfalso; have h := HB.out; omega)
        | (go_ret; exact ⟨ret_bool HN.out, (Keeps.refl [] w).alloc _⟩)
end Go.Proofs.YtgjpdogjekmemaaDoor
