/-
  The law LatchOne: its walk.
  Conditions: none.
-/
import Derived.Test.YtgpcmifbkbgbjaaLatchB
import Derived.Test.YtgpcmifbkbgbjaaFlat
namespace Go.Proofs.Ytgpcmifbkbgbjaa
open Go.RowKit
set_option linter.unusedVariables false
set_option linter.unusedSimpArgs false
set_option linter.unnecessarySimpa false

set_option maxHeartbeats 400000 in
theorem latch_alive (w : World) : Calls Try.prog 10 #[] w fun e w' => e = .returned (.bool true) ∧ Keeps [] w w' := by
  go_enter Try.func10, Try.ntmps10
  go_wp2_with fail
  refine (latch_new _ _).mono ?_
  rintro e w1 ⟨p, S, rfl, k1, h1, hs1⟩
  obtain ⟨b, rfl⟩ := h1.shape
  have e1 : Lt.newL 1 = [-1] := rfl
  rw [e1] at h1
  clear e1
  go_wp2_with fail
  refine (latch_try _ _ _ _ 0 3 h1).mono ?_
  rintro e w2 ⟨rfl, h2, k2⟩
  have e1 : Lt.tryL [-1] 0 3 = [3] := rfl
  have e2 : Lt.tryOk [-1] 0 3 = true := rfl
  rw [e1] at h2
  rw [e2]
  clear e1 e2
  go_wp2_with fail
  refine (latch_try _ _ _ _ 0 3 h2).mono ?_
  rintro e w3 ⟨rfl, h3, k3⟩
  have e1 : Lt.tryL [3] 0 3 = [3] := rfl
  have e2 : Lt.tryOk [3] 0 3 = false := rfl
  rw [e1] at h3
  rw [e2]
  clear e1 e2
  go_wp2_with fail
  refine (latch_free _ _ _ _ 0 3 h3).mono ?_
  rintro e w4 ⟨rfl, h4, k4⟩
  have e2 : Lt.freeOk [3] 0 3 = true := rfl
  rw [e2]
  clear e2
  have hk : Keeps [] w w4 := k1.trans (k2.trans (k3.trans k4 (fun x h => .inl h)) (fun x h => .inl h)) (fun x h => .inr (hs1 x h))
  clear k1 k2 k3 k4 h1 h2 h3 h4
  go_wp2
  go_ret
  exact ⟨rfl, hk⟩


namespace Lt
theorem has_iff (l : List Int) (i : Int) : has l i = true ↔ 0 ≤ i ∧ i < l.length := by simp [has]
theorem tryL_len (l : List Int) (i who : Int) : (tryL l i who).length = l.length := by unfold tryL; split <;> simp
theorem freeL_len (l : List Int) (i who : Int) : (freeL l i who).length = l.length := by unfold freeL; split <;> simp
theorem owner_set (l : List Int) (i v : Int) (h : has l i = true) : owner (l.set i.toNat v) i = v := by
  have h' := (has_iff l i).1 h
  have h2 : has (l.set i.toNat v) i = true := by rw [has_iff]; simpa using h'
  have h3 : i.toNat < l.length := by omega
  simp [owner, h2, List.getD, h3]
theorem tryOk_was (l : List Int) (i who : Int) (h : tryOk l i who = true) : owner l i = -1 := by
  simp only [tryOk, Bool.and_eq_true, beq_iff_eq] at h
  simp only [owner, h.1.1, if_true]; exact h.2
theorem tryOk_now (l : List Int) (i who : Int) (h : tryOk l i who = true) : owner (tryL l i who) i = who := by
  have h' := h
  simp only [tryOk, Bool.and_eq_true] at h'
  rw [tryL, if_pos h]; exact owner_set l i who h'.1.1
theorem tryL_no (l : List Int) (i who : Int) (h : tryOk l i who = false) : tryL l i who = l := by simp [tryL, h]
theorem freeOk_was (l : List Int) (i who : Int) (h : freeOk l i who = true) : owner l i = who := by
  simp only [freeOk, Bool.and_eq_true, beq_iff_eq] at h
  simp only [owner, h.1.1, if_true]; exact h.2
theorem freeOk_now (l : List Int) (i who : Int) (h : freeOk l i who = true) : owner (freeL l i who) i = -1 := by
  have h' := h
  simp only [freeOk, Bool.and_eq_true] at h'
  rw [freeL, if_pos h]; exact owner_set l i (-1) h'.1.1
theorem freeL_no (l : List Int) (i who : Int) (h : freeOk l i who = false) : freeL l i who = l := by simp [freeL, h]

/-- how many locks those below m have -/
def many (l : List Int) : Nat → Nat
  | 0 => 0
  | m + 1 => many l m + (held l m).length
theorem heldFrom_cons_len (who : Int) (x : Int) (r : List Int) (k : Nat) : (heldFrom who k (x :: r)).length = (if 0 ≤ who ∧ x = who then 1 else 0) + (heldFrom who (k + 1) r).length := by
  simp only [heldFrom, List.length_append]; split <;> simp
theorem heldFrom_len_k (who : Int) : ∀ (l : List Int) (j k : Nat), (heldFrom who j l).length = (heldFrom who k l).length
  | [], _, _ => rfl
  | x :: r, j, k => by rw [heldFrom_cons_len, heldFrom_cons_len, heldFrom_len_k who r (j + 1) (k + 1)]
theorem many_cons (x : Int) (r : List Int) : ∀ m : Nat, many (x :: r) m = many r m + (if 0 ≤ x ∧ x < m then 1 else 0)
  | 0 => by simp only [many]; split <;> omega
  | m + 1 => by
    have h1 : (held (x :: r) m).length = (if 0 ≤ (m : Int) ∧ x = m then 1 else 0) + (held r m).length := by
      unfold held; rw [heldFrom_cons_len, heldFrom_len_k _ r 1 0]
    simp only [many, many_cons x r m, h1]
    split <;> split <;> split <;> omega
theorem many_le : ∀ (l : List Int) (m : Nat), many l m ≤ l.length
  | [], m => by
    have : ∀ m, many [] m = 0 := by intro m; induction m with
      | zero => rfl
      | succ m ih => simp [many, ih, held, heldFrom]
    simp [this]
  | x :: r, m => by rw [many_cons]; have := many_le r m; simp only [List.length_cons]; split <;> omega
end Lt

set_option maxRecDepth 100000 in
set_option maxHeartbeats 1600000 in
theorem latchOne_walk (w : World) (v : Value) (n : Nat) (xs : List Value) (S : List Nat) (hv : View w v 3 n xs S) (hx : ∀ k, k < n → ∀ (f : Nat) (q : Option IntKind), ([some .i64, some .i64, some .i64] : List (Option IntKind))[f]? = some q → ckOk q (xs.getD (k * 3 + f) undef)) :
    Calls Try.prog 3 #[v] w fun e w' => e = .returned (.bool true) ∧ Keeps [] w w' := by
  have hm := hv.le
  unfold maxLen at hm
  obtain ⟨ao, cap, rfl⟩ := hv.shape
  by_cases hn : 100 < (n : Int)
  · go_enter Try.func3, Try.ntmps3
    go_wp2_with fail
    refine (latch_alive _).mono ?_
    rintro e w1 ⟨rfl, k1⟩
    go_wp2_with fail
    refine (latch_new _ _).mono ?_
    rintro e w2 ⟨p, S2, rfl, k2, h2, hs2⟩
    obtain ⟨b, rfl⟩ := h2.shape
    have hk := k1.then k2
    clear k1 k2 h2 hs2 hv hx
    go_wp2
    go_ret
    exact ⟨rfl, hk⟩
  · go_enter Try.func3, Try.ntmps3
    have HX := Lib.hid hx
    have HV := Lib.hid hv
    have hq : decide (100 < (n : Int)) = false := by simpa using hn
    clear hx hv
    go_wp2_with fail
    refine (latch_alive _).mono ?_
    rintro e w1 ⟨rfl, k1⟩
    go_wp2_with fail
    refine (latch_new _ _).mono ?_
    rintro e w2 ⟨p, S2, rfl, k2, h2, hs2⟩
    obtain ⟨b, rfl⟩ := h2.shape
    have HK := Lib.hid (k1.then k2)
    have H2 := Lib.hid h2
    have HS2 : Hid (∀ k ∈ S2, w.heap.size ≤ k) := Lib.hid (fun k hk => Nat.le_trans k1.size (hs2 k hk))
    clear k1 k2 h2 hs2
    go_wp2_with fail
    go_loopw [26] (fun i wr => ∃ (k : Nat) (l : List Int) (S2 : List Nat), k ≤ n ∧ i = .int .i64 k ∧ Keeps [] w wr ∧ Lat wr (.pointer (some ⟨b, 0, none⟩)) l S2 ∧ l.length = 6 ∧ ∀ x ∈ S2, w.heap.size ≤ x)
      (fun i _ => n - (intOf i).toNat)
    case atStart => exact ⟨0, _, S2, Nat.zero_le _, rfl, HK.out, H2.out, rfl, HS2.out⟩
    case round =>
      obtain ⟨k, l, S3, hk, rfl, hke, hlat, hl6, hS3⟩ := hrel
      by_cases hlt : k < n
      · obtain ⟨g, off, rfl, rfl, hg, hc⟩ := HV.out.cell (by omega)
        have hlen := HV.out.len
        have c0 := View.at0 hlen hc hg hke (by simp) hlt (by decide)
        have c1 := View.at hlen hc hg hke (by simp) hlt (f := 1) (by decide)
        have c2 := View.at hlen hc hg hke (by simp) hlt (f := 2) (by decide)
        rw [show xs.getD (k * 3) undef = .int .i64 (num (xs.getD (k * 3) undef)) from (ck_int (HX.out k hlt 0 _ rfl)).1] at c0
        rw [(ck_int (HX.out k hlt 1 _ rfl)).1] at c1
        rw [(ck_int (HX.out k hlt 2 _ rfl)).1] at c2
        generalize num (xs.getD (k * 3) undef) = a0 at *
        generalize num (xs.getD (k * 3 + 1) undef) = a1 at *
        generalize num (xs.getD (k * 3 + 2) undef) = a2 at *
        clear hc hlen
        have HKe := Lib.hid hke
        have HL := Lib.hid hlat
        have H6 := Lib.hid hl6
        have HS3 := Lib.hid hS3
        clear hke hlat hl6 hS3
        cases hz : (a0 == 0) with
        | true =>
          go_wp2_with fail
          refine (latch_owner _ _ _ _ _ (HL.out.alloc _)).mono ?_
          rintro e w3 ⟨rfl, rfl⟩
          go_wp2_with fail
          refine (latch_try _ _ _ _ _ _ (HL.out.alloc _)).mono ?_
          rintro e w3 ⟨rfl, h3, k3⟩
          have hb3 := (Blk.new wr [.int .i64 a0, .int .i64 a1, .int .i64 a2] 27).keep k3 (fun hm => by have := HL.out.lt _ hm; omega)
          have d1 : w3.cell? ⟨wr.heap.size, 1, none⟩ = some (.int .i64 a1) := hb3.cell 1
          have d2 : w3.cell? ⟨wr.heap.size, 2, none⟩ = some (.int .i64 a2) := hb3.cell 2
          have H3 := Lib.hid h3
          have K3 := Lib.hid (HKe.out.trans (((Keeps.refl S3 wr).alloc _).trans k3 (fun x h => .inl h)) (fun x h => .inr (HS3.out x h)))
          clear hb3 h3 k3 c0 c1 c2
          cases hok : Lt.tryOk l a1 a2 with
          | true =>
            have q1 : (Lt.owner l a1 != -1) = false := by rw [Lt.tryOk_was l a1 a2 hok]; rfl
            have q2 : (Lt.owner (Lt.tryL l a1 a2) a1 != a2) = false := by rw [Lt.tryOk_now l a1 a2 hok]; simp
            go_wp2_with fail
            go_quiet ((go_at_call 12; exact quiet_own (latch_owner _ _ _ _ _ (H3.out.drewN _))))
            go_wp2
            go_roundw
            case rel => exact ⟨k + 1, _, S3, by omega, by go_num, K3.out.drewN _, H3.out.drewN _, by rw [Lt.tryL_len]; exact H6.out, HS3.out⟩
            case measure => simp [intOf]; omega
          | false =>
            have q2 : (Lt.owner (Lt.tryL l a1 a2) a1 != Lt.owner l a1) = false := by rw [Lt.tryL_no l a1 a2 hok]; simp
            go_wp2_with fail
            go_quiet ((go_at_call 12; exact quiet_own (latch_owner _ _ _ _ _ (H3.out.drewN _))))
            go_wp2
            go_roundw
            case rel => exact ⟨k + 1, _, S3, by omega, by go_num, K3.out.drewN _, H3.out.drewN _, by rw [Lt.tryL_len]; exact H6.out, HS3.out⟩
            case measure => simp [intOf]; omega
        | false =>
          go_wp2_with fail
          refine (latch_owner _ _ _ _ _ (HL.out.alloc _)).mono ?_
          rintro e w3 ⟨rfl, rfl⟩
          go_wp2_with fail
          refine (latch_free _ _ _ _ _ _ (HL.out.alloc _)).mono ?_
          rintro e w3 ⟨rfl, h3, k3⟩
          have hb3 := (Blk.new wr [.int .i64 a0, .int .i64 a1, .int .i64 a2] 27).keep k3 (fun hm => by have := HL.out.lt _ hm; omega)
          have d1 : w3.cell? ⟨wr.heap.size, 1, none⟩ = some (.int .i64 a1) := hb3.cell 1
          have d2 : w3.cell? ⟨wr.heap.size, 2, none⟩ = some (.int .i64 a2) := hb3.cell 2
          have H3 := Lib.hid h3
          have K3 := Lib.hid (HKe.out.trans (((Keeps.refl S3 wr).alloc _).trans k3 (fun x h => .inl h)) (fun x h => .inr (HS3.out x h)))
          clear hb3 h3 k3 c0 c1 c2
          cases hok : Lt.freeOk l a1 a2 with
          | true =>
            have q1 : (Lt.owner l a1 != a2) = false := by rw [Lt.freeOk_was l a1 a2 hok]; simp
            have q2 : (Lt.owner (Lt.freeL l a1 a2) a1 != -1) = false := by rw [Lt.freeOk_now l a1 a2 hok]; rfl
            go_wp2_with fail
            refine (latch_owner _ _ _ _ _ H3.out).mono ?_
            rintro e w4 ⟨rfl, rfl⟩
            go_wp2
            go_roundw
            case rel => exact ⟨k + 1, _, S3, by omega, by go_num, K3.out, H3.out, by rw [Lt.freeL_len]; exact H6.out, HS3.out⟩
            case measure => simp [intOf]; omega
          | false =>
            have q2 : (Lt.owner (Lt.freeL l a1 a2) a1 != Lt.owner l a1) = false := by rw [Lt.freeL_no l a1 a2 hok]; simp
            go_wp2_with fail
            refine (latch_owner _ _ _ _ _ H3.out).mono ?_
            rintro e w4 ⟨rfl, rfl⟩
            go_wp2
            go_roundw
            case rel => exact ⟨k + 1, _, S3, by omega, by go_num, K3.out, H3.out, by rw [Lt.freeL_len]; exact H6.out, HS3.out⟩
            case measure => simp [intOf]; omega
      · have HKe := Lib.hid hke
        have HL := Lib.hid hlat
        have H6 := Lib.hid hl6
        have HS3 := Lib.hid hS3
        clear hke hlat hl6 hS3
        go_wp2_with fail
        go_loopw [9, 10] (fun c i wq => ∃ (m : Nat), m ≤ 8 ∧ i = .int .i64 m ∧ c = .int .i64 (Lt.many l m) ∧ Keeps [] w wq ∧ Lat wq (.pointer (some ⟨b, 0, none⟩)) l S3)
          (fun _ i _ => 8 - (intOf i).toNat)
        case atStart => exact ⟨0, by omega, rfl, rfl, HKe.out, HL.out⟩
        case round =>
          obtain ⟨m, hm8, rfl, rfl, hkq, hlq⟩ := hrel
          have HKq := Lib.hid hkq
          have HLq := Lib.hid hlq
          have hml := Lt.many_le l m
          have hml2 := Lt.many_le l (m + 1)
          rw [H6.out] at hml hml2
          have hms : Lt.many l (m + 1) = Lt.many l m + (Lt.held l m).length := rfl
          have hle : (Lt.held l m).length ≤ 6 := by omega
          have HMS := Lib.hid hms
          clear hkq hlq hms hml2
          by_cases h8 : m < 8
          · go_wp2_with fail
            refine (latch_held _ _ _ _ _ HLq.out (by rw [H6.out]; decide)).mono ?_
            rintro e w4 ⟨v4, S4, rfl, k4, v4v, _⟩
            obtain ⟨ao4, cap4, rfl⟩ := v4v.shape
            have K4 := Lib.hid k4
            clear k4 v4v
            go_wp2_with fail
            go_roundw
            case rel => exact ⟨m + 1, by omega, by go_num, by rw [HMS.out]; go_num, HKq.out.then K4.out, HLq.out.keep K4.out (by simp)⟩
            case measure => simp [intOf]; omega
          · go_wp2
            go_ret
            exact ⟨ret_bool (by simp; omega), HKq.out⟩

end Go.Proofs.Ytgpcmifbkbgbjaa
