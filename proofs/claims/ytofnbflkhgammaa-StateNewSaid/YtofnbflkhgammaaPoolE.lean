/-
  Contracts of package pool, the fifth part: fits, New.
  Conditions: none.
-/
import Derived.Test.YtofnbflkhgammaaPoolD
import Derived.Test.YtofnbflkhgammaaCan
import Derived.Deep.OwnRows
namespace Go.Proofs.Ytofnbflkhgammaa
open Go.RowKit
set_option linter.unusedVariables false
set_option linter.unusedSimpArgs false
set_option linter.unnecessarySimpa false

namespace Po
def new (size takers : Nat) : St := ⟨List.replicate takers [], [], 0, List.replicate size false⟩
theorem new_flat (n : Nat) : (List.replicate n ([] : List Int)).flatten = [] := by
  induction n with
  | zero => rfl
  | succ n ih => rw [List.replicate_succ, List.flatten_cons, ih]; rfl
theorem new_inv (size takers most : Nat) (h1 : size ≤ 64) (h2 : 1 ≤ most) (h3 : most ≤ 16) : Inv size most (new size takers) := by
  have hc : ∀ a, cnt (new size takers) a = 0 := fun a => by unfold cnt new; simp [new_flat]
  refine ⟨h2, h3, h1, by simp [new], Nat.zero_le _, fun a => by rw [hc]; omega, fun a h => by rw [hc] at h; omega, fun x hx => ?_, fun c h => ?_⟩
  · rw [hc]; simp [new, List.getD, hx]
  · simp [new] at h; rw [h.2]; simp
end Po

theorem pool_fits (w : World) (size takers most : Int) :
    Calls Try.prog 37 #[.int .i64 size, .int .i64 takers, .int .i64 most] w fun e w' => e = .returned (.bool (Po.fits size takers most)) ∧ w = w' := by
  have hcase : size < 0 ∨ (0 ≤ size ∧ 64 < size) ∨ (0 ≤ size ∧ size ≤ 64 ∧ takers < 0) ∨ (0 ≤ size ∧ size ≤ 64 ∧ 0 ≤ takers ∧ 8 < takers) ∨ (0 ≤ size ∧ size ≤ 64 ∧ 0 ≤ takers ∧ takers ≤ 8 ∧ most < 1) ∨ (0 ≤ size ∧ size ≤ 64 ∧ 0 ≤ takers ∧ takers ≤ 8 ∧ 1 ≤ most ∧ 16 < most) ∨ (0 ≤ size ∧ size ≤ 64 ∧ 0 ≤ takers ∧ takers ≤ 8 ∧ 1 ≤ most ∧ most ≤ 16) := by omega
  obtain ⟨c, hc⟩ : ∃ c, c = Po.fits size takers most := ⟨_, rfl⟩
  have HC := Lib.hid hc
  rw [← hc]
  clear hc
  rcases hcase with h1 | ⟨h1, h2⟩ | ⟨h1, h2, h3⟩ | ⟨h1, h2, h3, h4⟩ | ⟨h1, h2, h3, h4, h5⟩ | ⟨h1, h2, h3, h4, h5, h6⟩ | ⟨h1, h2, h3, h4, h5, h6⟩
  all_goals go_enter Try.func37, Try.ntmps37
  all_goals go_wp2_with fail
  all_goals go_ret
  all_goals exact ⟨ret_bool (by rw [HC.out, Bool.eq_iff_iff]; simp [Po.fits]; omega), rfl⟩

theorem NR.made {w : World} {v : Value} {es e : TypeId} {n : Nat} {T : List Nat} (h : Row w v es 1 n (List.replicate n (.slice none 0 0)) T) : NR w v es e (List.replicate n []) T (List.replicate n []) := by
  refine ⟨List.replicate n (.slice none 0 0), by simpa using h, by simp, ?_, ?_, ?_⟩
  · intro k x U l a b c
    obtain ⟨_, rfl⟩ := List.getElem?_eq_some_iff.1 a
    obtain ⟨_, rfl⟩ := List.getElem?_eq_some_iff.1 b
    obtain ⟨_, rfl⟩ := List.getElem?_eq_some_iff.1 c
    simp only [List.getElem_replicate]
    exact IR.nil w e
  · intro U hU x hx
    rw [(List.mem_replicate.1 hU).2] at hx; cases hx
  · intro i j A B _ hA hB x hx
    obtain ⟨_, rfl⟩ := List.getElem?_eq_some_iff.1 hA
    simp at hx

theorem made_rep (z : Value) (n : Nat) : madeCells #[z] n = (List.replicate n z).toArray := by
  apply Array.toList_inj.1; rw [toList_madeCells_one]

def PNewPost (size takers most : Nat) (w : World) (e : Ending) (w' : World) : Prop :=
  ∃ p S, e = .returned (.tuple #[p, .int .i64 0]) ∧ Keeps [] w w' ∧ PS w' p size most (Po.new size takers) S ∧ ∀ k ∈ S, w.heap.size ≤ k

theorem pnew_fin {w W : World} {b g h : Nat} {size takers most : Nat} (hw : Keeps [] w W) (hb : Blk W b [.int .i64 size, .int .i64 most, .slice (some ⟨g, 0, none⟩) takers takers, .slice none 0 0, .int .i64 ((0 : Nat) : Int), .slice (some ⟨h, 0, none⟩) size size] 96)
    (hg : Row W (.slice (some ⟨g, 0, none⟩) takers takers) 38 1 takers (List.replicate takers (.slice none 0 0)) [g])
    (hh : Row W (.slice (some ⟨h, 0, none⟩) size size) 4 1 size (List.replicate size (.bool false)) [h])
    (h1 : b ≠ g) (h2 : b ≠ h) (h3 : g ≠ h) (k1 : w.heap.size ≤ b) (k2 : w.heap.size ≤ g) (k3 : w.heap.size ≤ h) :
    PNewPost size takers most w (.returned (.tuple #[.pointer (some ⟨b, 0, none⟩), .int .i64 0])) W := by
  have hfl : (List.replicate takers ([] : List Nat)).flatten = [] := by
    clear hb hg
    induction takers with
    | zero => rfl
    | succ n ih => rw [List.replicate_succ, List.flatten_cons, ih]; rfl
  refine ⟨_, b :: ([g] ++ (List.replicate takers ([] : List Nat)).flatten ++ [] ++ [h]), rfl, hw, ⟨b, .slice (some ⟨g, 0, none⟩) takers takers, .slice none 0 0, .slice (some ⟨h, 0, none⟩) size size, [g], List.replicate takers [], [], [h], rfl, hb, NR.made hg, IR.nil _ _, ?_, ?_, rfl⟩, ?_⟩
  · unfold BR Po.new
    simpa using hh
  · simp only [Apart, hfl, List.pairwise_cons, List.mem_cons, List.not_mem_nil, or_false, forall_eq_or_imp, forall_eq, List.Pairwise.nil, and_true, List.mem_singleton]
    simp [h1, h2, h3]
  · rw [hfl]; intro k hk; simp at hk; rcases hk with rfl | rfl | rfl <;> assumption

theorem row_rep (w : World) (z : Value) (n : Nat) (e : TypeId) (b : Nat) (hn : n ≤ 1000) (hb : b = w.heap.size) : Row (w.alloc (.cells (Array.replicate n z) e)) (.slice (some ⟨b, 0, none⟩) n n) e 1 n (List.replicate n z) [b] := by
  subst hb
  have := Row.lit w (List.replicate n z) e 1 n (by simp) (by simp [maxLen]; omega)
  simpa using this
theorem blk_new (w : World) (cs : List Value) (e : TypeId) (b : Nat) (hb : b = w.heap.size) : Blk (w.alloc (.cells cs.toArray e)) b cs e := by subst hb; exact Blk.new w cs e

set_option maxHeartbeats 800000 in
theorem pool_new (w : World) (size takers most : Nat) (h1 : size ≤ 64) (h2 : takers ≤ 8) (h3 : 1 ≤ most) (h4 : most ≤ 16) :
    Calls Try.prog 10 #[.int .i64 size, .int .i64 takers, .int .i64 most] w (PNewPost size takers most w) := by
  have mk1 : ∀ w : World, (Instr.makeSlice 37 (.int .i64 (takers : Int)) (.int .i64 (takers : Int))).run Try.prog w = .ok (.slice (some ⟨w.heap.size, 0, none⟩) takers takers) (w.alloc (.cells (List.replicate takers (.slice none 0 0)).toArray 38)) := fun w => by
    rw [← made_rep]
    exact run_make_row' 37 38 (.slice none 0 0) 24 Try.underlying37 (by kernel_rfl) rfl .i64 .i64 takers (by omega) (by omega) w
  have mk2 : ∀ w : World, (Instr.makeSlice 65 (.int .i64 (size : Int)) (.int .i64 (size : Int))).run Try.prog w = .ok (.slice (some ⟨w.heap.size, 0, none⟩) size size) (w.alloc (.cells (List.replicate size (.bool false)).toArray 4)) := fun w => by
    rw [← made_rep]
    exact run_make_row' 65 4 (.bool false) 1 Try.underlying65 (by kernel_rfl) rfl .i64 .i64 size (by omega) (by omega) w
  have hf : Po.fits size takers most = true := by simp [Po.fits]; omega
  go_enter Try.func10, Try.ntmps10
  go_wp2_with fail
  refine (pool_fits _ _ _ _).mono ?_
  rintro e w1 ⟨rfl, rfl⟩
  rw [hf]
  go_wp2_with fail
  go_region
  all_goals go_wp2_with fail
  all_goals go_ret2
  · refine pnew_fin (b := w.heap.size + 1 + 1) (g := w.heap.size) (h := w.heap.size + 1) (((((Keeps.refl [] w).alloc _).alloc _).alloc _).drew) ?_ ?_ ?_ (by omega) (by omega) (by omega) (by omega) (by omega) (by omega)
    · exact (blk_new _ _ _ _ (by simp)).drew
    · exact Row.then (Row.alloc (Row.alloc (row_rep w _ _ _ _ (by omega) rfl) _) _) (Keeps.refl [] _).drew
    · exact Row.then (Row.alloc (row_rep _ _ _ _ _ (by omega) (by simp)) _) (Keeps.refl [] _).drew
  · refine pnew_fin (b := w.heap.size + 1 + 1) (h := w.heap.size) (g := w.heap.size + 1) (((((Keeps.refl [] w).alloc _).alloc _).alloc _).drew) ?_ ?_ ?_ (by omega) (by omega) (by omega) (by omega) (by omega) (by omega)
    · exact (blk_new _ _ _ _ (by simp)).drew
    · exact Row.then (Row.alloc (row_rep _ _ _ _ _ (by omega) (by simp)) _) (Keeps.refl [] _).drew
    · exact Row.then (Row.alloc (Row.alloc (row_rep w _ _ _ _ (by omega) rfl) _) _) (Keeps.refl [] _).drew

def PNoPost (w : World) (e : Ending) (w' : World) : Prop := e = .returned (.tuple #[.pointer none, .int .i64 1]) ∧ w = w'
theorem pool_new_no (w : World) (size takers most : Int) (h : Po.fits size takers most = false) :
    Calls Try.prog 10 #[.int .i64 size, .int .i64 takers, .int .i64 most] w (PNoPost w) := by
  go_enter Try.func10, Try.ntmps10
  go_wp2_with fail
  refine (pool_fits _ _ _ _).mono ?_
  rintro e w1 ⟨rfl, rfl⟩
  rw [h]
  go_wp2_with fail
  go_ret2
  exact ⟨rfl, rfl⟩
end Go.Proofs.Ytofnbflkhgammaa
