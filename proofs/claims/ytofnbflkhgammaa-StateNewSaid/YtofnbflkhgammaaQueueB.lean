/-
  Contracts of package queue: Push.
  Conditions: Qu.Inv.
-/
import Derived.Test.YtofnbflkhgammaaQueue
namespace Go.Proofs.Ytofnbflkhgammaa
open Go.RowKit
set_option linter.unusedVariables false
set_option linter.unusedSimpArgs false
set_option linter.unnecessarySimpa false
attribute [local go_sem ↓] Go.wp_at_zero Go.wp_at_succ

theorem List.set_getElem?_self' {α : Type} {l : List α} {k : Nat} {x : α} (h : l[k]? = some x) : l.set k x = l := by
  obtain ⟨hk, rfl⟩ := List.getElem?_eq_some_iff.1 h
  simp
namespace Qu
theorem headD_app {l m : List Int} {d : Int} (h : l ≠ []) : (l ++ m).headD d = l.headD d := by
  cases l with
  | nil => exact absurd rfl h
  | cons a r => rfl
def push (n : Nat) (R : List (List Int)) (k x : Int) : List (List Int) × Bool :=
  if line R k && decide (0 ≤ x) && decide (x < n) && (loc R x).isNone then (R.set k.toNat (row R k ++ [x]), true) else (R, false)
theorem push_inv' {n : Nat} {R : List (List Int)} (v : Inv n R) (k x : Int) : Inv n (push n R k x).1 := by
  unfold push
  split
  · rename_i h
    simp only [Bool.and_eq_true, decide_eq_true_eq, Option.isNone_iff_eq_none] at h
    obtain ⟨⟨⟨hk, h0⟩, h1⟩, h2⟩ := h
    obtain ⟨j, rfl, hj⟩ := line_nat hk
    rw [row_nat hj]
    exact push_inv v hj h0 h1 h2
  · exact v
end Qu

def QPost (r : List (List Int) × Bool) (p : Value) (n : Nat) (S : List Nat) (w : World) (e : Ending) (w' : World) : Prop :=
  e = .returned (.bool r.2) ∧ Keeps S w w' ∧ Qq w' p n r.1 S

end Go.Proofs.Ytofnbflkhgammaa
