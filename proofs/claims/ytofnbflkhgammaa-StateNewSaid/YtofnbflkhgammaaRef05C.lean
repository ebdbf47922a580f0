/-
  Contracts of handoffref05: Can.
  Conditions: none.
-/
import Derived.Test.YtofnbflkhgammaaCan
namespace Go.Proofs.Ytofnbflkhgammaa
open Go.RowKit
set_option linter.unusedVariables false
set_option linter.unusedSimpArgs false
set_option linter.unnecessarySimpa false

theorem ref05_can (w : World) (size takers most : Int) :
    Calls Try.prog 18 #[.int .i64 size, .int .i64 takers, .int .i64 most] w fun e w' => e = .returned (.bool (Po.fits size takers most)) ∧ w = w' := by
  have hcase : size < 0 ∨ (0 ≤ size ∧ 64 < size) ∨ (0 ≤ size ∧ size ≤ 64 ∧ takers < 0) ∨ (0 ≤ size ∧ size ≤ 64 ∧ 0 ≤ takers ∧ 8 < takers) ∨ (0 ≤ size ∧ size ≤ 64 ∧ 0 ≤ takers ∧ takers ≤ 8 ∧ most < 1) ∨ (0 ≤ size ∧ size ≤ 64 ∧ 0 ≤ takers ∧ takers ≤ 8 ∧ 1 ≤ most ∧ 16 < most) ∨ (0 ≤ size ∧ size ≤ 64 ∧ 0 ≤ takers ∧ takers ≤ 8 ∧ 1 ≤ most ∧ most ≤ 16) := by omega
  obtain ⟨c, hc⟩ : ∃ c, c = Po.fits size takers most := ⟨_, rfl⟩
  have HC := Lib.hid hc
  rw [← hc]
  clear hc
  rcases hcase with h1 | ⟨h1, h2⟩ | ⟨h1, h2, h3⟩ | ⟨h1, h2, h3, h4⟩ | ⟨h1, h2, h3, h4, h5⟩ | ⟨h1, h2, h3, h4, h5, h6⟩ | ⟨h1, h2, h3, h4, h5, h6⟩
  all_goals go_enter Try.func18, Try.ntmps18
  all_goals go_wp2_with fail
  all_goals go_ret
  all_goals exact ⟨ret_bool (by rw [HC.out, Bool.eq_iff_iff]; simp [Po.fits]; omega), rfl⟩

end Go.Proofs.Ytofnbflkhgammaa
