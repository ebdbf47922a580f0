/-
  pool.New: the error, or a pool; what stood there stays.
  Conditions: none.
-/
import Derived.Test.YtopkfhmdgheghaaRow
import Derived.Test.YtopkfhmdgheghaaCan
import Derived.Deep.OwnRows
namespace Go.Proofs.Ytopkfhmdgheghaa
open Go.RowKit
set_option linter.unusedVariables false
set_option linter.unusedSimpArgs false
set_option linter.unnecessarySimpa false

theorem pool_fits (w : World) (size takers most : Int) :
    Calls Try.prog 80 #[.int .i64 size, .int .i64 takers, .int .i64 most] w fun e w' => e = .returned (.bool (Po.fits size takers most)) ∧ w = w' := by
  have hcase : size < 0 ∨ (0 ≤ size ∧ 64 < size) ∨ (0 ≤ size ∧ size ≤ 64 ∧ takers < 0) ∨ (0 ≤ size ∧ size ≤ 64 ∧ 0 ≤ takers ∧ 8 < takers) ∨ (0 ≤ size ∧ size ≤ 64 ∧ 0 ≤ takers ∧ takers ≤ 8 ∧ most < 1) ∨ (0 ≤ size ∧ size ≤ 64 ∧ 0 ≤ takers ∧ takers ≤ 8 ∧ 1 ≤ most ∧ 16 < most) ∨ (0 ≤ size ∧ size ≤ 64 ∧ 0 ≤ takers ∧ takers ≤ 8 ∧ 1 ≤ most ∧ most ≤ 16) := by omega
  obtain ⟨c, hc⟩ : ∃ c, c = Po.fits size takers most := ⟨_, rfl⟩
  have HC := Lib.hid hc
  rw [← hc]
  clear hc
  rcases hcase with h1 | ⟨h1, h2⟩ | ⟨h1, h2, h3⟩ | ⟨h1, h2, h3, h4⟩ | ⟨h1, h2, h3, h4, h5⟩ | ⟨h1, h2, h3, h4, h5, h6⟩ | ⟨h1, h2, h3, h4, h5, h6⟩
  all_goals go_enter Try.func80, Try.ntmps80
  all_goals go_wp2_with fail
  all_goals go_ret
  all_goals exact ⟨ret_bool (by rw [HC.out, Bool.eq_iff_iff]; simp [Po.fits]; omega), rfl⟩

theorem made_rep (z : Value) (n : Nat) : madeCells #[z] n = (List.replicate n z).toArray := by
  apply Array.toList_inj.1; rw [toList_madeCells_one]

def PWPost (ok : Bool) (w : World) (e : Ending) (w' : World) : Prop :=
  ∃ p, e = .returned (.tuple #[p, .int .i64 (if ok = true then 0 else 1)]) ∧ Keeps [] w w'
set_option maxHeartbeats 800000 in
theorem pool_made (w : World) (size takers most : Nat) (h1 : size ≤ 64) (h2 : takers ≤ 8) (h3 : 1 ≤ most) (h4 : most ≤ 16) :
    Calls Try.prog 49 #[.int .i64 size, .int .i64 takers, .int .i64 most] w (PWPost true w) := by
  have mk1 : ∀ w : World, (Instr.makeSlice 155 (.int .i64 (takers : Int)) (.int .i64 (takers : Int))).run Try.prog w = .ok (.slice (some ⟨w.heap.size, 0, none⟩) takers takers) (w.alloc (.cells (List.replicate takers (.slice none 0 0)).toArray 40)) := fun w => by
    rw [← made_rep]
    exact run_make_row' 155 40 (.slice none 0 0) 24 Try.underlying155 (by kernel_rfl) rfl .i64 .i64 takers (by omega) (by omega) w
  have mk2 : ∀ w : World, (Instr.makeSlice 23 (.int .i64 (size : Int)) (.int .i64 (size : Int))).run Try.prog w = .ok (.slice (some ⟨w.heap.size, 0, none⟩) size size) (w.alloc (.cells (List.replicate size (.bool false)).toArray 4)) := fun w => by
    rw [← made_rep]
    exact run_make_row' 23 4 (.bool false) 1 Try.underlying23 (by kernel_rfl) rfl .i64 .i64 size (by omega) (by omega) w
  have hf : Po.fits size takers most = true := by simp [Po.fits]; omega
  go_enter Try.func49, Try.ntmps49
  go_wp2_with fail
  refine (pool_fits _ _ _ _).mono ?_
  rintro e w1 ⟨rfl, rfl⟩
  rw [hf]
  go_wp2_with fail
  go_region
  all_goals go_wp2_with fail
  all_goals go_ret2
  all_goals exact ⟨_, rfl, ((((Keeps.refl [] w).alloc _).alloc _).alloc _).drew⟩
theorem pool_tried (w : World) (size takers most : Int) :
    Calls Try.prog 49 #[.int .i64 size, .int .i64 takers, .int .i64 most] w (PWPost (Po.fits size takers most) w) := by
  cases hf : Po.fits size takers most with
  | true =>
    obtain ⟨a1, a2, a3, a4, a5, a6⟩ := Po.fits_le hf
    obtain ⟨s, rfl⟩ : ∃ s : Nat, size = s := ⟨size.toNat, by omega⟩
    obtain ⟨t, rfl⟩ : ∃ s : Nat, takers = s := ⟨takers.toNat, by omega⟩
    obtain ⟨m, rfl⟩ : ∃ s : Nat, most = s := ⟨most.toNat, by omega⟩
    exact pool_made w s t m (by omega) (by omega) (by omega) (by omega)
  | false =>
    go_enter Try.func49, Try.ntmps49
    go_wp2_with fail
    refine (pool_fits _ _ _ _).mono ?_
    rintro e w1 ⟨rfl, rfl⟩
    rw [hf]
    go_wp2_with fail
    go_ret2
    exact ⟨_, rfl, Keeps.refl _ _⟩
end Go.Proofs.Ytopkfhmdgheghaa
