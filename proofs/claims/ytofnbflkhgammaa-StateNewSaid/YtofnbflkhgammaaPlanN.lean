/-
  The small functions of plan and of its document: contracts.
  Conditions: none.
-/
import Derived.Test.YtofnbflkhgammaaPlanE
namespace Go.Proofs.Ytofnbflkhgammaa
open Go.RowKit
set_option linter.unusedVariables false
set_option linter.unusedSimpArgs false
set_option linter.unnecessarySimpa false

theorem plan_hasCh (w : World) (k : Int) : Calls Try.prog 45 #[.int .i64 k] w fun e w' => e = .returned (.bool (Pn.hasCh k)) ∧ w = w' := by
  go_enter Try.func45, Try.ntmps45
  go_wp2_with fail
  all_goals
    go_ret
    exact ⟨ret_bool (by simp [Pn.hasCh, *] <;> omega), rfl⟩
theorem plan_hasV (w : World) (k : Int) : Calls Try.prog 46 #[.int .i64 k] w fun e w' => e = .returned (.bool (Pn.hasV k)) ∧ w = w' := by
  go_enter Try.func46, Try.ntmps46
  go_wp2_with fail
  all_goals
    go_ret
    exact ⟨ret_bool (by simp [Pn.hasV, *]), rfl⟩
theorem ref10_hasCh (w : World) (k : Int) : Calls Try.prog 47 #[.int .i64 k] w fun e w' => e = .returned (.bool (Pn.hasCh k)) ∧ w = w' := by
  go_enter Try.func47, Try.ntmps47
  go_wp2_with fail
  all_goals
    go_ret
    exact ⟨ret_bool (by simp [Pn.hasCh, *] <;> omega), rfl⟩
theorem ref10_hasV (w : World) (k : Int) : Calls Try.prog 48 #[.int .i64 k] w fun e w' => e = .returned (.bool (Pn.hasV k)) ∧ w = w' := by
  go_enter Try.func48, Try.ntmps48
  go_wp2_with fail
  all_goals
    go_ret
    exact ⟨ret_bool (by simp [Pn.hasV, *]), rfl⟩
/-- within -/
def Pn.within (has : Bool) (n most : Int) : Bool := if has then decide (0 ≤ n) && decide (n ≤ most) else n == 0
theorem plan_within (w : World) (b : Bool) (n most : Int) : Calls Try.prog 44 #[.bool b, .int .i64 n, .int .i64 most] w fun e w' => e = .returned (.bool (Pn.within b n most)) ∧ w = w' := by
  cases b with
  | true =>
    go_enter Try.func44, Try.ntmps44
    go_wp2_with fail
    all_goals
      go_ret
      exact ⟨ret_bool (by simp [Pn.within, *] <;> omega), rfl⟩
  | false =>
    go_enter Try.func44, Try.ntmps44
    go_wp2_with fail
    all_goals
      go_ret
      exact ⟨ret_bool (by simp [Pn.within, *] <;> omega), rfl⟩

theorem Pn.byte_get {l : List Int} {i : Nat} (h : i < l.length) : l.getD i 0 = Pn.byte l i := rfl
theorem Pn.byte_out {l : List Int} {i : Nat} (h : l.length ≤ i) : Pn.byte l i = 0 := by simp [Pn.byte, List.getD, List.getElem?_eq_none h]

end Go.Proofs.Ytofnbflkhgammaa
