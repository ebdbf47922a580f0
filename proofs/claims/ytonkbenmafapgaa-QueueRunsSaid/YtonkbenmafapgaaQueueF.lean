/-
  The chapter's example of queue; handoffref06.Can and Without; the law QueueNew: its walk.
  Conditions: none.
-/
import Derived.Test.YtonkbenmafapgaaQueueE
namespace Go.Proofs.Ytonkbenmafapgaa
open Go.RowKit
set_option linter.unusedVariables false
set_option linter.unusedSimpArgs false
set_option linter.unnecessarySimpa false

theorem Fresh.keeps {w w1 w2 : World} {S : List Nat} (h : Fresh w w1 S) (k : Keeps S w1 w2) : Fresh w w2 S := h.step k (fun x hx => .inl hx)

set_option maxRecDepth 100000 in
set_option maxHeartbeats 1600000 in
theorem queue_alive (w : World) : Calls Try.prog 28 #[] w fun e w' => e = .returned (.bool true) ∧ Keeps [] w w' := by
  have E1 : Hid (Qu.push 9 (List.replicate 2 []) 1 4 = ([[], [4]], true)) := Lib.hid rfl
  have E2 : Hid (Qu.push 9 [[], [4]] 1 2 = ([[], [4, 2]], true)) := Lib.hid rfl
  have E3 : Hid (Qu.push 9 [[], [4, 2]] 1 7 = ([[], [4, 2, 7]], true)) := Lib.hid rfl
  have E4 : Hid (Qu.drop [[], [4, 2, 7]] 2 = ([[], [4, 7]], true)) := Lib.hid rfl
  have E5 : Hid (Qu.row [[], [4, 7]] 1 = [4, 7]) := Lib.hid rfl
  go_enter Try.func28, Try.ntmps28
  go_wp2_with fail
  refine (queue_new _ 9 2 (by omega) (by omega)).mono ?_
  rintro e w1 ⟨p, S, rfl, f1, h1⟩
  obtain ⟨b, rfl⟩ := h1.shape
  have F1 := Lib.hid f1
  have H1 := Lib.hid h1
  clear f1 h1
  go_wp2_with fail
  refine (queue_push _ _ _ _ _ 1 4 H1.out).mono ?_
  rw [E1.out]
  rintro e w2 ⟨rfl, k2, h2⟩
  have F2 := Lib.hid (F1.out.keeps k2)
  have H2 := Lib.hid h2
  clear k2 h2
  go_wp2_with fail
  refine (queue_push _ _ _ _ _ 1 2 H2.out).mono ?_
  rw [E2.out]
  rintro e w3 ⟨rfl, k3, h3⟩
  have F3 := Lib.hid (F2.out.keeps k3)
  have H3 := Lib.hid h3
  clear k3 h3
  go_wp2_with fail
  refine (queue_push _ _ _ _ _ 1 7 H3.out).mono ?_
  rw [E3.out]
  rintro e w4 ⟨rfl, k4, h4⟩
  have F4 := Lib.hid (F3.out.keeps k4)
  have H4 := Lib.hid h4
  clear k4 h4
  go_wp2_with fail
  refine (queue_drop _ _ _ _ _ 2 H4.out).mono ?_
  rw [E4.out]
  rintro e w5 ⟨rfl, k5, h5⟩
  have F5 := Lib.hid (F4.out.keeps k5)
  have H5 := Lib.hid h5
  clear k5 h5
  go_wp2_with fail
  refine (queue_list _ _ _ _ _ 1 H5.out).mono ?_
  rintro e w6 ⟨v6, S6, rfl, k6, i6, _⟩
  have K6 := Lib.hid k6
  have I6 := Lib.hid i6
  clear k6 i6
  go_wp2_with fail
  refine (same02 _ _ _ (Qu.row [[], [4, 7]] 1) [4, 7] _ _ (I6.out.alloc _) (IV.lit w6 [4, 7] 3 _ rfl (by simp))).mono ?_
  rintro e w7 ⟨rfl, m7, rfl⟩
  rw [show decide (Qu.row [[], [4, 7]] 1 = [4, 7]) = true from rfl]
  go_wp2_with fail
  go_ret
  exact ⟨rfl, ((F5.out.1.then K6.out).alloc _).drewN _⟩

theorem ref06_can (w : World) (n m : Int) :
    Calls Try.prog 30 #[.int .i64 n, .int .i64 m] w fun e w' => e = .returned (.bool (Qu.can n m)) ∧ w = w' := by
  have hcase : n < 0 ∨ (0 ≤ n ∧ 64 < n) ∨ (0 ≤ n ∧ n ≤ 64 ∧ m < 0) ∨ (0 ≤ n ∧ n ≤ 64 ∧ 0 ≤ m ∧ 64 < m) ∨ (0 ≤ n ∧ n ≤ 64 ∧ 0 ≤ m ∧ m ≤ 64) := by omega
  obtain ⟨c, hc⟩ : ∃ c, c = Qu.can n m := ⟨_, rfl⟩
  have HC := Lib.hid hc
  rw [← hc]
  clear hc
  rcases hcase with h1 | ⟨h1, h2⟩ | ⟨h1, h2, h3⟩ | ⟨h1, h2, h3, h4⟩ | ⟨h1, h2, h3, h4⟩
  all_goals go_enter Try.func30, Try.ntmps30
  all_goals go_wp2_with fail
  all_goals go_ret
  all_goals exact ⟨ret_bool (by rw [HC.out, Bool.eq_iff_iff]; simp [Qu.can]; omega), rfl⟩

theorem Qu.new_row (m : Nat) (k : Int) : Qu.row (List.replicate m []) k = [] := by
  unfold Qu.row
  split
  · rename_i h
    obtain ⟨j, rfl, hj⟩ := Qu.line_nat h
    simp at hj
    simp [List.getD, hj]
  · rfl

set_option maxHeartbeats 1600000 in
theorem queueNew_walk (w : World) (n : Int) (wn : (Lit.int .i64 n).wf = true) (m : Int) (wm : (Lit.int .i64 m).wf = true) :
    Calls Try.prog 6 #[.int .i64 n, .int .i64 m] w fun e w' => e = .returned (.bool true) ∧ Keeps [] w w' := by
  clear wn wm
  cases hc : Qu.can n m with
  | true =>
    have h2 := hc
    simp only [Qu.can, decide_eq_true_eq] at h2
    obtain ⟨a, rfl⟩ := Int.eq_ofNat_of_zero_le h2.1
    obtain ⟨b, rfl⟩ := Int.eq_ofNat_of_zero_le h2.2.2.1
    have ha : a ≤ 64 := by omega
    have hb : b ≤ 64 := by omega
    clear h2
    go_enter Try.func6, Try.ntmps6
    go_wp2_with fail
    refine (queue_alive _).mono ?_
    rintro e w1 ⟨rfl, k1⟩
    have K1 := Lib.hid k1
    clear k1
    go_wp2_with fail
    refine (queue_new _ a b ha hb).mono ?_
    rintro e w2 ⟨p, S, rfl, f2, h2⟩
    obtain ⟨bp, rfl⟩ := h2.shape
    have F2 := Lib.hid f2
    have H2 := Lib.hid h2
    clear f2 h2
    go_wp2_with fail
    refine (ref06_can _ _ _).mono ?_
    rintro e w3 ⟨rfl, rfl⟩
    rw [hc]
    go_wp2_with fail
    refine (queue_len _ _ _ _ _ 0 H2.out).mono ?_
    rintro e w3 ⟨rfl, rfl⟩
    rw [Qu.new_row]
    go_wp2_with fail
    refine (queue_list _ _ _ _ _ 0 H2.out).mono ?_
    rw [Qu.new_row]
    rintro e w3 ⟨v3, S3, rfl, k3, i3, _⟩
    obtain ⟨ao, cap, rfl⟩ := i3.shape
    have K3 := Lib.hid k3
    clear k3 i3
    go_wp2_with fail
    go_ret
    exact ⟨rfl, (K1.out.then F2.out.1).then K3.out⟩
  | false =>
    go_enter Try.func6, Try.ntmps6
    go_wp2_with fail
    refine (queue_alive _).mono ?_
    rintro e w1 ⟨rfl, k1⟩
    have K1 := Lib.hid k1
    clear k1
    go_wp2_with fail
    refine (queue_new_no _ _ _ hc).mono ?_
    rintro e w2 ⟨rfl, rfl⟩
    go_wp2_with fail
    refine (ref06_can _ _ _).mono ?_
    rintro e w3 ⟨rfl, rfl⟩
    rw [hc]
    go_wp2_with fail
    go_ret
    exact ⟨rfl, K1.out⟩
end Go.Proofs.Ytonkbenmafapgaa
