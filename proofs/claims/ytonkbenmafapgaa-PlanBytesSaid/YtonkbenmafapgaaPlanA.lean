/-
  The chapter's example of plan.
  Conditions: none.
-/
import Derived.Test.YtonkbenmafapgaaPlanF
import Derived.Test.YtonkbenmafapgaaPlanS
import Derived.Test.YtonkbenmafapgaaKinds
namespace Go.Proofs.Ytonkbenmafapgaa
open Go.RowKit
set_option linter.unusedVariables false
set_option linter.unusedSimpArgs false
set_option linter.unnecessarySimpa false

theorem plan_alive_dec : Pn.dec [0, 1, 1, 3, 200] = ([[⟨2, 3, 0, 200, [], false⟩]], 5) := by rfl

set_option maxHeartbeats 800000 in
theorem plan_alive (w : World) : Calls Try.prog 45 #[] w fun e w' => e = .returned (.bool true) ∧ Keeps [] w w' := by
  have HL : Hid (GV (numE .u8) 1 (w.alloc (.cells #[.int .u8 0, .int .u8 1, .int .u8 1, .int .u8 3, .int .u8 200] 5)) (.slice (some ⟨w.heap.size, 0, none⟩) 5 5) [0, 1, 1, 3, 200] [w.heap.size]) := Lib.hid (GV.lit w [0, 1, 1, 3, 200] .u8 5 _ rfl (by simp) (by simp [Lit.wf, IntKind.min, IntKind.max, IntKind.signed, IntKind.bits]))
  go_enter Try.func45, Try.ntmps45
  go_wp2_with fail
  refine (plan_decode _ _ _ _ HL.out).mono ?_
  rw [plan_alive_dec]
  rintro e w1 ⟨v, S, rfl, g1, s1, k1⟩
  obtain ⟨ao, cap, rfl⟩ := g1.shape
  obtain ⟨g, off, _, U, rfl, _, _, c0, ⟨v2, hv2, g2⟩, _⟩ := g1.one (k := 0) rfl
  cases hv2
  obtain ⟨ao2, cap2, rfl⟩ := g2.shape
  obtain ⟨g3, off3, vc, U3, rfl, _, _, ⟨a0, a1, a2, a3, a4, a5⟩, hu, _⟩ := g2.op (k := 0) rfl
  obtain ⟨ac, cc, rfl⟩ := hu.shape
  have HU := Lib.hid hu
  have K1 := Lib.hid (((Keeps.refl [] w).alloc _).then k1)
  clear g1 g2 hu k1 s1
  simp only [List.length_nil, List.length_cons, Nat.add_zero, Nat.zero_mul, Nat.zero_add] at *
  go_wp2_with fail
  refine (plan_sameOp _ ⟨2, 3, 0, 200, [], false⟩ ⟨2, 3, 0, 200, [], false⟩ _ _ _ [] HU.out (GV.nil _ _ _)).mono ?_
  rintro e w2 ⟨rfl, k2⟩
  rw [decide_eq_true rfl]
  have K2 := Lib.hid (K1.out.then k2)
  clear k2
  go_wp2_with fail
  go_ret
  exact ⟨rfl, K2.out⟩
end Go.Proofs.Ytonkbenmafapgaa
