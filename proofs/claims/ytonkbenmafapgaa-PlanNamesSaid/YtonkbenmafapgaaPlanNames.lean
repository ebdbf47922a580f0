/-
  The law PlanNames: its walk.
  Conditions: none.
-/
import Derived.Test.YtonkbenmafapgaaPlanA
import Derived.Test.YtonkbenmafapgaaPlanZ
namespace Go.Proofs.Ytonkbenmafapgaa
open Go.RowKit
set_option linter.unusedVariables false
set_option linter.unusedSimpArgs false
set_option linter.unnecessarySimpa false

set_option maxHeartbeats 800000 in
theorem planNames_walk (w : World) : Calls Try.prog 11 #[] w fun e w' => e = .returned (.bool true) ∧ Keeps [] w w' := by
  go_enter Try.func11, Try.ntmps11
  go_wp2_with fail
  refine (plan_encode _ _ [] [] (GV.nil _ _ _)).mono ?_
  rintro e w1 (⟨h, _⟩ | ⟨_, rfl, k1⟩)
  · cases h
  have K1 := Lib.hid k1
  clear k1
  go_wp2_with fail
  refine (plan_alive _).mono ?_
  rintro e w2 ⟨rfl, k2⟩
  have K2 := Lib.hid (K1.out.then k2)
  clear k2
  go_wp2_with fail
  go_ret
  exact ⟨rfl, K2.out⟩
end Go.Proofs.Ytonkbenmafapgaa
