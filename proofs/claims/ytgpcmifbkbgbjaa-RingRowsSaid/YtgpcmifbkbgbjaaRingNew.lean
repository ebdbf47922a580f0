/-
  The law RingNew: its walk.
  Conditions: none.
-/
import Derived.Test.YtgpcmifbkbgbjaaRef04
namespace Go.Proofs.Ytgpcmifbkbgbjaa
open Go.RowKit
set_option linter.unusedVariables false
set_option linter.unusedSimpArgs false
set_option linter.unnecessarySimpa false

theorem OfPost.yes {room : Int} {l : List Int} {w w' : World} {e : Ending} (h : OfPost room l w e w') (hok : 0 ≤ room ∧ room ≤ 64 ∧ (l.length : Int) ≤ room) :
    ∃ p S, e = .returned (.tuple #[p, .int .i64 0]) ∧ Keeps [] w w' ∧ Rg w' p room.toNat l S ∧ ∀ k ∈ S, w.heap.size ≤ k := by
  unfold OfPost at h; rwa [if_pos hok] at h
theorem OfPost.no {room : Int} {l : List Int} {w w' : World} {e : Ending} (h : OfPost room l w e w') (hok : ¬ (0 ≤ room ∧ room ≤ 64 ∧ (l.length : Int) ≤ room)) :
    e = .returned (.tuple #[.pointer none, .int .i64 1]) ∧ w' = w := by
  unfold OfPost at h; rwa [if_neg hok] at h

set_option maxHeartbeats 800000 in
theorem ring_alive (w : World) : Calls Try.prog 16 #[] w fun e w' => e = .returned (.bool true) ∧ Keeps [] w w' := by
  go_enter Try.func16, Try.ntmps16
  go_wp2_with fail
  refine (ring_new _ _).mono ?_
  intro e w1 h1
  obtain ⟨p, S, rfl, k1, r1, s1⟩ := h1.yes (by decide)
  obtain ⟨b, rfl⟩ := r1.shape
  go_wp2_with fail
  refine (ring_put _ _ _ _ _ 5 r1).mono ?_
  rintro e w2 ⟨rfl, k2, r2⟩
  have e1 : Rn.putL (2 : Int).toNat [] 5 = [5] := rfl
  have e2 : decide (([] : List Int).length < (2 : Int).toNat) = true := rfl
  rw [e1] at r2
  rw [e2]
  clear e1 e2
  go_wp2_with fail
  refine (ring_put _ _ _ _ _ 6 r2).mono ?_
  rintro e w3 ⟨rfl, k3, r3⟩
  have e1 : Rn.putL (2 : Int).toNat [5] 6 = [5, 6] := rfl
  have e2 : decide (([5] : List Int).length < (2 : Int).toNat) = true := rfl
  rw [e1] at r3
  rw [e2]
  clear e1 e2
  go_wp2_with fail
  refine (ring_pass _ _ _ _ _ 7 r3).mono ?_
  rintro e w4 ⟨rfl, k4, r4⟩
  have e1 : Rn.passL (2 : Int).toNat [5, 6] 7 = [6, 7] := rfl
  have e2 : Rn.passX (2 : Int).toNat [5, 6] = 5 := rfl
  have e3 : Rn.passOk (2 : Int).toNat [5, 6] = true := rfl
  rw [e1] at r4
  rw [e2, e3]
  clear e1 e2 e3
  have HK4 := Lib.hid (k1.trans (k2.trans (k3.trans k4 (fun x h => .inl h)) (fun x h => .inl h)) (fun x h => .inr (s1 x h)))
  have R4 := Lib.hid r4
  clear k1 k2 k3 k4 r1 r2 r3 r4 s1
  go_wp2_with fail
  refine (ring_all _ _ _ _ _ R4.out).mono ?_
  rintro e w5 ⟨v5, S5, rfl, k5, i5, s5⟩
  have HK5 := Lib.hid (HK4.out.then k5)
  have I5 := Lib.hid i5
  clear k5 i5 s5
  go_wp2_with fail
  have hv : IV (w5.alloc (.cells #[.int .i64 6, .int .i64 7] 2)) (.slice (some ⟨w5.heap.size, 0, none⟩) 2 2) [6, 7] [w5.heap.size] :=
    Row.view (Row.lit w5 [.int .i64 6, .int .i64 7] 2 1 2 rfl (by simp [maxLen]))
  refine (same04 _ _ _ _ _ _ _ (I5.out.alloc _) hv).mono ?_
  rintro e w6 ⟨rfl, m6, rfl⟩
  have HK6 := Lib.hid ((HK5.out.alloc (.cells #[.int .i64 6, .int .i64 7] 2)).drewN m6)
  clear hv
  go_wp2_with fail
  go_ret
  exact ⟨rfl, HK6.out⟩

theorem IV.of_flat {w : World} {v : Value} {n : Nat} {xs : List Value} {S : List Nat} (hv : View w v 1 n xs S) (hx : ∀ k, k < n → ∀ (f : Nat) (q : Option IntKind), ([some .i64] : List (Option IntKind))[f]? = some q → ckOk q (xs.getD (k * 1 + f) undef)) :
    ∃ l : List Int, l.length = n ∧ IV w v l S := by
  have hl := hv.len
  refine ⟨(List.range n).map fun k => num (xs.getD k undef), by simp, ?_⟩
  unfold IV
  have e : ((List.range n).map fun k => num (xs.getD k undef)).map (Value.int .i64) = xs := by
    apply List.ext_getElem
    · simp; omega
    · intro i h1 h2
      simp only [List.getElem_map, List.getElem_range]
      have := (ck_int (hx i (by omega) 0 _ rfl)).1
      rw [Nat.mul_one, Nat.add_zero] at this
      rw [← this]
      simp [List.getD, h2]
  rw [e]
  simpa using hv

set_option maxRecDepth 100000 in
set_option maxHeartbeats 1600000 in
theorem ringNew_walk (w : World) (room : Int) (wn : (Lit.int .i64 room).wf = true) (v : Value) (n : Nat) (xs : List Value) (S : List Nat) (hv : View w v 1 n xs S) (hx : ∀ k, k < n → ∀ (f : Nat) (q : Option IntKind), ([some .i64] : List (Option IntKind))[f]? = some q → ckOk q (xs.getD (k * 1 + f) undef)) :
    Calls Try.prog 4 #[.int .i64 room, v] w fun e w' => e = .returned (.bool true) ∧ Keeps [] w w' := by
  obtain ⟨l, rfl, hi⟩ := IV.of_flat hv hx
  clear hv hx wn
  have hm := hi.le
  unfold maxLen at hm
  obtain ⟨ao, cap, rfl⟩ := hi.shape
  have HI := Lib.hid hi
  clear hi
  cases hq : decide (100 < (l.length : Int)) with
  | true =>
    go_enter Try.func4, Try.ntmps4
    go_wp2_with fail
    refine (ring_alive _).mono ?_
    rintro e w1 ⟨rfl, k1⟩
    have HK := Lib.hid k1
    clear k1
    go_wp2_with fail
    go_ret
    exact ⟨rfl, HK.out⟩
  | false =>
    by_cases hok : 0 ≤ room ∧ room ≤ 64
    · obtain ⟨N, rfl⟩ := Int.eq_ofNat_of_zero_le hok.1
      have hN : N ≤ 64 := by omega
      have hz : decide (0 ≤ (N : Int) ∧ (N : Int) ≤ 64 ∧ (0 : Int) ≤ (N : Int)) = true := by simp; omega
      have HZ := Lib.hid hz
      clear hz hok
      by_cases hln : l.length ≤ N
      · have HLN := Lib.hid hln
        clear hln
        go_enter Try.func4, Try.ntmps4
        go_wp2_with fail
        refine (ring_alive _).mono ?_
        rintro e w1 ⟨rfl, k1⟩
        have HK := Lib.hid k1
        clear k1
        go_wp2_with fail
        refine (ring_new _ _).mono ?_
        intro e w2 h2
        obtain ⟨p, S2, rfl, k2, r2, s2⟩ := h2.yes ⟨by omega, by omega, by simp⟩
        obtain ⟨b, rfl⟩ := r2.shape
        rw [Int.toNat_natCast] at r2
        have HK2 := Lib.hid (HK.out.then k2)
        have R2 := Lib.hid r2
        clear k2 r2 s2 h2
        go_wp2_with fail
        refine (ring_of _ _ _ l _ (HI.out.then HK2.out)).mono ?_
        intro e w3 h3
        obtain ⟨p, S3, rfl, k3, r3, s3⟩ := h3.yes ⟨by omega, by omega, by have := HLN.out; omega⟩
        obtain ⟨b3, rfl⟩ := r3.shape
        rw [Int.toNat_natCast] at r3
        have HK3 := Lib.hid (HK2.out.then k3)
        have R3 := Lib.hid r3
        have R2' := Lib.hid (R2.out.then k3)
        clear k3 r3 s3 h3
        go_wp2_with fail
        refine (ref04_right _ _ _).mono ?_
        rintro e w4 ⟨rfl, rfl⟩
        rw [HZ.out]
        go_wp2_with fail
        refine (ref04_right _ _ _).mono ?_
        rintro e w4 ⟨rfl, rfl⟩
        rw [HZ.out]
        go_wp2_with fail
        refine (ring_room _ _ _ _ _ R2'.out).mono ?_
        rintro e w4 ⟨rfl, rfl⟩
        go_wp2_with fail
        refine (ring_len _ _ _ _ _ R2'.out).mono ?_
        rintro e w4 ⟨rfl, rfl⟩
        go_wp2_with fail
        refine (ring_full _ _ _ _ _ R2'.out).mono ?_
        rintro e w4 ⟨rfl, m4, rfl⟩
        have eq0 : (!decide (0 = N) == ((N : Int) == 0)) = false := by
          cases N <;> simp <;> omega
        go_wp2_with fail
        refine (ref04_right _ _ _).mono ?_
        rintro e w5 ⟨rfl, rfl⟩
        rw [show decide (0 ≤ (N : Int) ∧ (N : Int) ≤ 64 ∧ (l.length : Int) ≤ (N : Int)) = true by simp; have := HLN.out; omega]
        have R3' := Lib.hid (R3.out.drewN m4)
        have HK4 := Lib.hid (HK3.out.drewN m4)
        have HI4 := Lib.hid (HI.out.then HK4.out)
        clear eq0 R2' R2 R3
        generalize w3.drewN m4 = w4 at *
        go_wp2_with fail
        refine (ring_all _ _ _ _ _ R3'.out).mono ?_
        rintro e w5 ⟨v5, S5, rfl, k5, i5, s5⟩
        have HK5 := Lib.hid (HK4.out.then k5)
        have I5 := Lib.hid i5
        have HI5 := Lib.hid (HI4.out.then k5)
        have R5 := Lib.hid (R3'.out.then k5)
        clear k5 i5 s5
        go_wp2_with fail
        refine (same04 _ _ _ _ _ _ _ I5.out HI5.out).mono ?_
        rintro e w6 ⟨rfl, m6, rfl⟩
        rw [show decide (l = l) = true by simp]
        have HK6 := Lib.hid (HK5.out.drewN m6)
        have R6 := Lib.hid (R5.out.drewN m6)
        generalize w5.drewN m6 = w6 at *
        go_wp2_with fail
        refine (ring_room _ _ _ _ _ R6.out).mono ?_
        rintro e w7 ⟨rfl, rfl⟩
        go_wp2_with fail
        go_ret
        exact ⟨ret_bool (by simp), HK6.out⟩
      · have HLN := Lib.hid hln
        clear hln
        go_enter Try.func4, Try.ntmps4
        go_wp2_with fail
        refine (ring_alive _).mono ?_
        rintro e w1 ⟨rfl, k1⟩
        have HK := Lib.hid k1
        clear k1
        go_wp2_with fail
        refine (ring_new _ _).mono ?_
        intro e w2 h2
        obtain ⟨p, S2, rfl, k2, r2, s2⟩ := h2.yes ⟨by omega, by omega, by simp⟩
        obtain ⟨b, rfl⟩ := r2.shape
        rw [Int.toNat_natCast] at r2
        have HK2 := Lib.hid (HK.out.then k2)
        have R2 := Lib.hid r2
        clear k2 r2 s2 h2
        go_wp2_with fail
        refine (ring_of _ _ _ l _ (HI.out.then HK2.out)).mono ?_
        intro e w3 h3
        obtain ⟨rfl, rfl⟩ := h3.no (by intro h; have := HLN.out; omega)
        clear h3
        go_wp2_with fail
        refine (ref04_right _ _ _).mono ?_
        rintro e w4 ⟨rfl, rfl⟩
        rw [HZ.out]
        go_wp2_with fail
        refine (ref04_right _ _ _).mono ?_
        rintro e w4 ⟨rfl, rfl⟩
        rw [HZ.out]
        go_wp2_with fail
        refine (ring_room _ _ _ _ _ R2.out).mono ?_
        rintro e w4 ⟨rfl, rfl⟩
        go_wp2_with fail
        refine (ring_len _ _ _ _ _ R2.out).mono ?_
        rintro e w4 ⟨rfl, rfl⟩
        go_wp2_with fail
        refine (ring_full _ _ _ _ _ R2.out).mono ?_
        rintro e w4 ⟨rfl, m4, rfl⟩
        have eq0 : (!decide (0 = N) == ((N : Int) == 0)) = false := by
          cases N <;> simp <;> omega
        go_wp2_with fail
        refine (ref04_right _ _ _).mono ?_
        rintro e w5 ⟨rfl, rfl⟩
        rw [show decide (0 ≤ (N : Int) ∧ (N : Int) ≤ 64 ∧ (l.length : Int) ≤ (N : Int)) = false by simp; have := HLN.out; omega]
        have HK4 := Lib.hid (HK2.out.drewN m4)
        clear eq0 R2
        go_wp2_with fail
        go_ret
        exact ⟨rfl, HK4.out⟩
    · have hz : decide (0 ≤ room ∧ room ≤ 64 ∧ (0 : Int) ≤ room) = false := by simp; omega
      have HZ := Lib.hid hz
      have HOK := Lib.hid hok
      clear hz hok
      go_enter Try.func4, Try.ntmps4
      go_wp2_with fail
      refine (ring_alive _).mono ?_
      rintro e w1 ⟨rfl, k1⟩
      have HK := Lib.hid k1
      clear k1
      go_wp2_with fail
      refine (ring_new _ _).mono ?_
      intro e w2 h2
      obtain ⟨rfl, rfl⟩ := h2.no (by intro h; exact HOK.out ⟨h.1, h.2.1⟩)
      clear h2
      go_wp2_with fail
      refine (ring_of _ _ _ l _ (HI.out.then HK.out)).mono ?_
      intro e w3 h3
      obtain ⟨rfl, rfl⟩ := h3.no (by intro h; exact HOK.out ⟨h.1, h.2.1⟩)
      clear h3
      go_wp2_with fail
      refine (ref04_right _ _ _).mono ?_
      rintro e w4 ⟨rfl, rfl⟩
      rw [HZ.out]
      go_wp2_with fail
      refine (ref04_right _ _ _).mono ?_
      rintro e w4 ⟨rfl, rfl⟩
      rw [HZ.out]
      go_wp2_with fail
      refine (ref04_right _ _ _).mono ?_
      rintro e w4 ⟨rfl, rfl⟩
      rw [show decide (0 ≤ room ∧ room ≤ 64 ∧ (l.length : Int) ≤ room) = false by
        rw [decide_eq_false_iff_not]; intro h; exact HOK.out ⟨h.1, h.2.1⟩]
      go_wp2_with fail
      go_ret
      exact ⟨rfl, HK.out⟩

end Go.Proofs.Ytgpcmifbkbgbjaa
