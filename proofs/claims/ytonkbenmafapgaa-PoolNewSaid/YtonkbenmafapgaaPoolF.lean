/-
  The contract of handoffref02.Same; the chapter's example of pool.
  Conditions: none.
-/
import Derived.Test.YtonkbenmafapgaaPoolE
namespace Go.Proofs.Ytonkbenmafapgaa
open Go.RowKit
set_option linter.unusedVariables false
set_option linter.unusedSimpArgs false
set_option linter.unnecessarySimpa false

set_option maxHeartbeats 400000 in
theorem same02 (w : World) (v1 v2 : Value) (l1 l2 : List Int) (S1 S2 : List Nat) (h1 : IV w v1 l1 S1) (h2 : IV w v2 l2 S2) :
    Calls Try.prog 43 #[v1, v2] w fun e w' => e = .returned (.bool (decide (l1 = l2))) ∧ ∃ m, w' = w.drewN m := by
  have hm1 := h1.le
  have hm2 := h2.le
  unfold maxLen at hm1 hm2
  obtain ⟨ao1, cap1, rfl⟩ := h1.shape
  obtain ⟨ao2, cap2, rfl⟩ := h2.shape
  by_cases hl : l1.length = l2.length
  · have HL := Lib.hid hl
    have H1 := Lib.hid h1
    have H2 := Lib.hid h2
    have hq : ((l1.length : Int) != (l2.length : Int)) = false := by simp [hl]
    clear hl h1 h2
    go_enter Try.func43, Try.ntmps43
    go_wp2_with fail
    go_loopw [13] (fun i wr => ∃ k m : Nat, k ≤ l1.length ∧ i = .int .i64 k ∧ wr = w.drewN m ∧ ∀ j, j < k → l1.getD j 0 = l2.getD j 0) (fun i _ => l1.length - (intOf i).toNat)
    case atStart => exact ⟨0, 0, Nat.zero_le _, rfl, rfl, fun j hj => by omega⟩
    case round =>
      obtain ⟨k, m, hk, rfl, rfl, hsame⟩ := hrel
      have HS := Lib.hid hsame
      clear hsame
      by_cases hlt : k < l1.length
      · have hlt2 : k < l2.length := by have := HL.out; omega
        obtain ⟨g1, off1, rfl, _, _, hc1⟩ := H1.out.cells (by omega)
        obtain ⟨g2, off2, rfl, _, _, hc2⟩ := H2.out.cells (by omega)
        have c1 := hc1 k hlt
        have c2 := hc2 k hlt2
        clear hc1 hc2
        cases hx : (l1.getD k 0 != l2.getD k 0) with
        | true =>
          have hne : decide (l1 = l2) = false := by
            rw [decide_eq_false_iff_not]; intro e; subst e; simp at hx
          have HN := Lib.hid hne
          clear hne
          generalize l1.getD k 0 = x1 at *
          generalize l2.getD k 0 = x2 at *
          go_wp2_with fail
          go_quiet (fail)
          go_wp2
          go_ret
          exact ⟨ret_bool HN.out.symm, _, (by first | rfl | exact drewN2 _ _ _)⟩
        | false =>
          have heq : l1.getD k 0 = l2.getD k 0 := by simpa using hx
          have HE := Lib.hid heq
          clear heq
          obtain ⟨x1, X1⟩ : ∃ x, Hid (l1.getD k 0 = x) := ⟨_, rfl⟩
          obtain ⟨x2, X2⟩ : ∃ x, Hid (l2.getD k 0 = x) := ⟨_, rfl⟩
          rw [X1.out] at c1 hx
          rw [X2.out] at c2 hx
          go_wp2_with fail
          go_quiet (fail)
          go_wp2
          go_roundw
          case rel => exact ⟨k + 1, _, by omega, by go_num, (by first | rfl | exact drewN2 _ _ _), fun j hj => by
            by_cases e : j = k
            · subst e; exact HE.out
            · exact HS.out j (by omega)⟩
          case measure => simp [intOf]; omega
      · have heq : decide (l1 = l2) = true := by
          rw [decide_eq_true_iff]; exact same_iff l1 l2 HL.out (fun j hj => HS.out j (by omega))
        have HE := Lib.hid heq
        clear heq
        go_wp2
        go_ret
        exact ⟨ret_bool HE.out.symm, _, rfl⟩
  · have hne : decide (l1 = l2) = false := by
      rw [decide_eq_false_iff_not]; intro e; exact hl (by rw [e])
    rw [hne]
    have hq : ((l1.length : Int) != (l2.length : Int)) = true := by simp; omega
    clear hl h1 h2 hne
    go_enter Try.func43, Try.ntmps43
    go_wp2
    go_ret
    exact ⟨rfl, 0, rfl⟩



theorem PS.shape {w : World} {p : Value} {size most : Nat} {s : Po.St} {S : List Nat} (h : PS w p size most s S) : ∃ b, p = .pointer (some ⟨b, 0, none⟩) := Pl.shape h
theorem PS.lt {w : World} {p : Value} {size most : Nat} {s : Po.St} {S : List Nat} (h : PS w p size most s S) : ∀ k ∈ S, k < w.heap.size := Pl.lt h
theorem PS.keep {w w' : World} {p : Value} {size most : Nat} {s : Po.St} {S T : List Nat} (h : PS w p size most s S) (k : Keeps T w w') (hn : ∀ x ∈ S, x ∉ T) : PS w' p size most s S := Pl.keep h k hn
theorem PS.then {w w' : World} {p : Value} {size most : Nat} {s : Po.St} {S : List Nat} (h : PS w p size most s S) (k : Keeps [] w w') : PS w' p size most s S := Pl.then h k
theorem IV.lit (w : World) (l : List Int) (e : TypeId) (b : Nat) (hb : b = w.heap.size) (hl : l.length ≤ 1000) : IV (w.alloc (.cells (l.map (Value.int .i64)).toArray e)) (.slice (some ⟨b, 0, none⟩) l.length l.length) l [b] := by
  subst hb; exact Row.view (Row.lit w (l.map (Value.int .i64)) e 1 l.length (by simp) (by simp [maxLen]; omega))

/-- what is new since w, and the blocks S of it -/
def Fresh (w w' : World) (S : List Nat) : Prop := Keeps [] w w' ∧ ∀ k ∈ S, w.heap.size ≤ k
theorem Fresh.step {w w1 w2 : World} {S S' : List Nat} (h : Fresh w w1 S) (k : Keeps S w1 w2) (s : ∀ x ∈ S', x ∈ S ∨ w1.heap.size ≤ x) : Fresh w w2 S' :=
  ⟨h.1.trans k (fun x hx => .inr (h.2 x hx)), fun x hx => by
    rcases s x hx with h1 | h1
    · exact h.2 x h1
    · have := h.1.size; omega⟩
theorem Fresh.then {w w1 w2 : World} {S : List Nat} (h : Fresh w w1 S) (k : Keeps [] w1 w2) : Fresh w w2 S := ⟨h.1.then k, h.2⟩

set_option maxRecDepth 100000 in
set_option maxHeartbeats 1600000 in
theorem pool_alive (w : World) : Calls Try.prog 14 #[] w fun e w' => e = .returned (.bool true) ∧ Keeps [] w w' := by
  have i0 := Po.new_inv 1 2 2 (by omega) (by omega) (by omega)
  have e1 : Po.take 1 2 (Po.new 1 2) 0 = (⟨[[], []], [], 1, [false]⟩, 0, true) := rfl
  have i1 : Po.Inv 1 2 ⟨[[], []], [], 1, [false]⟩ := by have := i0.take 0; rw [e1] at this; exact this
  have e2 : Po.take 1 2 ⟨[[], []], [], 1, [false]⟩ 1 = (⟨[[], []], [], 1, [false]⟩, 0, false) := rfl
  have e3 : Po.give 2 ⟨[[], []], [], 1, [false]⟩ 1 0 = (⟨[[], [0]], [], 1, [true]⟩, true) := rfl
  have i3 : Po.Inv 1 2 ⟨[[], [0]], [], 1, [true]⟩ := by have := i1.give 1 0; rw [e3] at this; exact this
  have e4 : Po.take 1 2 ⟨[[], [0]], [], 1, [true]⟩ 0 = (⟨[[], [0]], [], 1, [true]⟩, 0, false) := rfl
  have I0 := Lib.hid i0
  have I1 := Lib.hid i1
  have I3 := Lib.hid i3
  have E1 := Lib.hid e1
  have E2 := Lib.hid e2
  have E3 := Lib.hid e3
  have E4 := Lib.hid e4
  clear i0 i1 i3 e1 e2 e3 e4
  go_enter Try.func14, Try.ntmps14
  go_wp2_with fail
  refine (pool_new _ 1 2 2 (by omega) (by omega) (by omega) (by omega)).mono ?_
  rintro e w1 ⟨p, S, rfl, k1, h1, s1⟩
  obtain ⟨b, rfl⟩ := h1.shape
  have H1 := Lib.hid h1
  have F1 : Hid (Fresh w w1 S) := Lib.hid ⟨k1, s1⟩
  clear k1 h1 s1
  go_wp2_with fail
  refine (pool_take _ _ 1 2 _ _ 0 H1.out I0.out).mono ?_
  rw [E1.out]
  rintro e w2 ⟨rfl, S2, h2, k2, s2⟩
  have H2 := Lib.hid h2
  have F2 := Lib.hid (F1.out.step k2 s2)
  clear h2 k2 s2
  go_wp2_with fail
  refine (pool_take _ _ 1 2 _ _ 1 H2.out I1.out).mono ?_
  rw [E2.out]
  rintro e w3 ⟨rfl, S3, h3, k3, s3⟩
  have H3 := Lib.hid h3
  have F3 := Lib.hid (F2.out.step k3 s3)
  clear h3 k3 s3
  go_wp2_with fail
  refine (pool_give _ _ 1 2 _ _ 1 0 H3.out I1.out).mono ?_
  rw [E3.out]
  rintro e w4 ⟨rfl, S4, h4, k4, s4⟩
  have H4 := Lib.hid h4
  have F4 := Lib.hid (F3.out.step k4 s4)
  clear h4 k4 s4
  go_wp2_with fail
  refine (pool_take _ _ 1 2 _ _ 0 H4.out I3.out).mono ?_
  rw [E4.out]
  rintro e w5 ⟨rfl, S5, h5, k5, s5⟩
  have H5 := Lib.hid h5
  have F5 := Lib.hid (F4.out.step k5 s5)
  clear h5 k5 s5
  go_wp2_with fail
  refine (pool_cache _ _ 1 2 1 _ _ _ _ 1 H5.out (by intro l hl; simp at hl; rcases hl with rfl | rfl <;> simp)).mono ?_
  rintro e w6 ⟨v6, S6, rfl, k6, i6, s6⟩
  have K6 := Lib.hid k6
  have I6 := Lib.hid i6
  clear k6 i6 s6
  go_wp2_with fail
  refine (same02 _ _ _ (Po.cache [[], [0]] 1) [0] _ _ (I6.out.alloc _) (IV.lit w6 [0] 3 _ rfl (by simp))).mono ?_
  rintro e w7 ⟨rfl, m7, rfl⟩
  rw [show decide (Po.cache [[], [0]] 1 = [0]) = true from rfl]
  go_wp2_with fail
  go_ret
  exact ⟨rfl, ((F5.out.1.then K6.out).alloc _).drewN _⟩
end Go.Proofs.Ytonkbenmafapgaa
