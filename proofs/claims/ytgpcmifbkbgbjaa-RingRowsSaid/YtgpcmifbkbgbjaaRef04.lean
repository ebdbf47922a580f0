/-
  Contracts of handoffref04: the document's answer for ring.
  Conditions: none.
-/
import Derived.Test.YtgpcmifbkbgbjaaRingD
namespace Go.Proofs.Ytgpcmifbkbgbjaa
open Go.RowKit
set_option linter.unusedVariables false
set_option linter.unusedSimpArgs false
set_option linter.unnecessarySimpa false

set_option maxHeartbeats 400000 in
theorem same04 (w : World) (v1 v2 : Value) (l1 l2 : List Int) (S1 S2 : List Nat) (h1 : IV w v1 l1 S1) (h2 : IV w v2 l2 S2) :
    Calls Try.prog 23 #[v1, v2] w fun e w' => e = .returned (.bool (decide (l1 = l2))) ∧ ∃ m, w' = w.drewN m := by
  have hm1 := h1.le
  have hm2 := h2.le
  unfold maxLen at hm1 hm2
  obtain ⟨ao1, cap1, rfl⟩ := h1.shape
  obtain ⟨ao2, cap2, rfl⟩ := h2.shape
  by_cases hl : l1.length = l2.length
  · have HL := Lib.hid hl
    have H1 := Lib.hid h1
    have H2 := Lib.hid h2
    have hq : ((l1.length : Int) != (l2.length : Int)) = false := by simp [hl]
    clear hl h1 h2
    go_enter Try.func23, Try.ntmps23
    go_wp2_with fail
    go_loopw [13] (fun i wr => ∃ k m : Nat, k ≤ l1.length ∧ i = .int .i64 k ∧ wr = w.drewN m ∧ ∀ j, j < k → l1.getD j 0 = l2.getD j 0) (fun i _ => l1.length - (intOf i).toNat)
    case atStart => exact ⟨0, 0, Nat.zero_le _, rfl, rfl, fun j hj => by omega⟩
    case round =>
      obtain ⟨k, m, hk, rfl, rfl, hsame⟩ := hrel
      have HS := Lib.hid hsame
      clear hsame
      by_cases hlt : k < l1.length
      · have hlt2 : k < l2.length := by have := HL.out; omega
        obtain ⟨g1, off1, rfl, _, _, hc1⟩ := H1.out.cells (by omega)
        obtain ⟨g2, off2, rfl, _, _, hc2⟩ := H2.out.cells (by omega)
        have c1 := hc1 k hlt
        have c2 := hc2 k hlt2
        clear hc1 hc2
        cases hx : (l1.getD k 0 != l2.getD k 0) with
        | true =>
          have hne : decide (l1 = l2) = false := by
            rw [decide_eq_false_iff_not]; intro e; subst e; simp at hx
          have HN := Lib.hid hne
          clear hne
          generalize l1.getD k 0 = x1 at *
          generalize l2.getD k 0 = x2 at *
          go_wp2_with fail
          go_quiet (fail)
          go_wp2
          go_ret
          exact ⟨ret_bool HN.out.symm, _, (by first | rfl | exact drewN2 _ _ _)⟩
        | false =>
          have heq : l1.getD k 0 = l2.getD k 0 := by simpa using hx
          have HE := Lib.hid heq
          clear heq
          obtain ⟨x1, X1⟩ : ∃ x, Hid (l1.getD k 0 = x) := ⟨_, rfl⟩
          obtain ⟨x2, X2⟩ : ∃ x, Hid (l2.getD k 0 = x) := ⟨_, rfl⟩
          rw [X1.out] at c1 hx
          rw [X2.out] at c2 hx
          go_wp2_with fail
          go_quiet (fail)
          go_wp2
          go_roundw
          case rel => exact ⟨k + 1, _, by omega, by go_num, (by first | rfl | exact drewN2 _ _ _), fun j hj => by
            by_cases e : j = k
            · subst e; exact HE.out
            · exact HS.out j (by omega)⟩
          case measure => simp [intOf]; omega
      · have heq : decide (l1 = l2) = true := by
          rw [decide_eq_true_iff]; exact same_iff l1 l2 HL.out (fun j hj => HS.out j (by omega))
        have HE := Lib.hid heq
        clear heq
        go_wp2
        go_ret
        exact ⟨ret_bool HE.out.symm, _, rfl⟩
  · have hne : decide (l1 = l2) = false := by
      rw [decide_eq_false_iff_not]; intro e; exact hl (by rw [e])
    rw [hne]
    have hq : ((l1.length : Int) != (l2.length : Int)) = true := by simp; omega
    clear hl h1 h2 hne
    go_enter Try.func23, Try.ntmps23
    go_wp2
    go_ret
    exact ⟨rfl, 0, rfl⟩


theorem ref04_right (w : World) (room many : Int) :
    Calls Try.prog 19 #[.int .i64 room, .int .i64 many] w fun e w' => e = .returned (.bool (decide (0 ≤ room ∧ room ≤ 64 ∧ many ≤ room))) ∧ w = w' := by
  have hcase : room < 0 ∨ (0 ≤ room ∧ 64 < room) ∨ (0 ≤ room ∧ room ≤ 64 ∧ room < many) ∨ (0 ≤ room ∧ room ≤ 64 ∧ many ≤ room) := by omega
  obtain ⟨c, hc⟩ : ∃ c, c = decide (0 ≤ room ∧ room ≤ 64 ∧ many ≤ room) := ⟨_, rfl⟩
  have HC := Lib.hid hc
  rw [← hc]
  clear hc
  rcases hcase with h1 | ⟨h1, h2⟩ | ⟨h1, h2, h3⟩ | ⟨h1, h2, h3⟩
  all_goals go_enter Try.func19, Try.ntmps19
  all_goals go_wp2_with fail
  all_goals go_ret
  all_goals exact ⟨ret_bool (by rw [HC.out, Bool.eq_iff_iff]; simp; omega), rfl⟩

/-- an answer of a list that is old or new, and a bool -/
def MayL (l' : List Int) (ok : Bool) (S : List Nat) (w : World) (e : Ending) (w' : World) : Prop :=
  ∃ v S', e = .returned (.tuple #[v, .bool ok]) ∧ Keeps [] w w' ∧ IV w' v l' S' ∧ ∀ k ∈ S', k ∈ S ∨ w.heap.size ≤ k
def MayLX (l' : List Int) (x : Int) (ok : Bool) (S : List Nat) (w : World) (e : Ending) (w' : World) : Prop :=
  ∃ v S', e = .returned (.tuple #[v, .int .i64 x, .bool ok]) ∧ Keeps [] w w' ∧ IV w' v l' S' ∧ ∀ k ∈ S', k ∈ S ∨ w.heap.size ≤ k

theorem ref04_put (w : World) (v : Value) (l : List Int) (S : List Nat) (room : Nat) (x : Int) (h : IV w v l S) (hb : l.length ≤ 1000) :
    Calls Try.prog 33 #[v, .int .i64 room, .int .i64 x] w (MayL (Rn.putL room l x) (decide (l.length < room)) S w) := by
  obtain ⟨ao, cap, rfl⟩ := h.shape
  have H := Lib.hid h
  have HB := Lib.hid hb
  have hbb : l.length ≤ 17592186044416 := by omega
  clear h hb
  by_cases hlt : l.length < room
  · have HF := Lib.hid (show decide (l.length < room) = true by simpa using hlt)
    have HF2 : Hid (Rn.putL room l x = l ++ [x]) := Lib.hid (if_pos hlt)
    go_enter Try.func33, Try.ntmps33
    go_wp2_with (at_builtin; go_must (refine wp_apps elemInt64 (IR.lit0 w 2) (H.out.alloc _) (by have := HB.out; simp; omega) ?_))
    intro ao1 cap1 w1 S1 r1 k1 s1
    have R1 := Lib.hid r1
    have K1 := Lib.hid k1
    have T1 := Lib.hid s1
    clear r1 k1 s1
    go_wp2_with (at_builtin; go_must (refine wp_appn elemInt64 R1.out (by have := HB.out; simp; omega) ?_))
    intro ao2 cap2 w2 S2 r2 k2 s2
    have R2 := Lib.hid r2
    have K2 := Lib.hid k2
    have T2 := Lib.hid s2
    clear r2 k2 s2
    have KK : Hid (Keeps [] w w2) := Lib.hid (((Keeps.refl [] w).alloc (.cells #[] 2)).trans (K1.out.trans K2.out (fun k hk => by
      rcases T1.out k hk with h | h
      · left; simp [h]
      · right; simp; omega)) (fun k hk => by simp at hk; omega))
    have TT : Hid (∀ k ∈ S2, k ∈ S ∨ w.heap.size ≤ k) := Lib.hid (fun k hk => by
      right
      rcases T2.out k hk with h | h
      · rcases T1.out k h with h | h <;> omega
      · have := K1.out.size; simp at this; omega)
    go_wp2_with fail
    go_ret2
    exact ⟨_, S2, ret_vb HF.out.symm, KK.out, by rw [HF2.out]; simpa using R2.out.iv, TT.out⟩
  · have HF := Lib.hid (show decide (l.length < room) = false by simpa using hlt)
    have HF2 : Hid (Rn.putL room l x = l) := Lib.hid (if_neg hlt)
    go_enter Try.func33, Try.ntmps33
    go_wp2_with fail
    go_ret2
    exact ⟨_, S, ret_vb HF.out.symm, Keeps.refl _ _, by rw [HF2.out]; exact H.out, fun k hk => .inl hk⟩

set_option maxHeartbeats 800000 in
theorem ref04_get (w : World) (v : Value) (l : List Int) (S : List Nat) (h : IV w v l S) (hb : l.length ≤ 1000) :
    Calls Try.prog 35 #[v] w (MayLX l.tail (Rn.hd l) (!l.isEmpty) S w) := by
  obtain ⟨ao, cap, rfl⟩ := h.shape
  by_cases h0 : l = []
  · subst h0
    have H := Lib.hid h
    clear h hb
    go_enter Try.func35, Try.ntmps35
    go_wp2_with fail
    go_ret3
    exact ⟨_, S, rfl, Keeps.refl _ _, H.out, fun k hk => .inl hk⟩
  · have hp : 0 < l.length := List.length_pos_iff.2 h0
    obtain ⟨g, off, rfl, rfl, hg, hc⟩ := h.cells hp
    obtain ⟨S', ht, _⟩ := h.tail hp
    have HT := Lib.hid ht
    have HB := Lib.hid hb
    have hcap : l.length ≤ cap := by obtain ⟨_, _, _, e, h1, _⟩ := h; simp at e; omega
    have hI1 : (1 : Int) ≤ (l.length : Int) := by omega
    have hI2 : (l.length : Int) ≤ (cap : Int) := by omega
    have hbb : l.length ≤ 17592186044416 := by omega
    have c0 : w.cell? ⟨g, off, none⟩ = some (.int .i64 (Rn.hd l)) := by
      unfold Rn.hd
      have := hc 0 hp
      rw [Nat.add_zero] at this
      rw [this]; cases l <;> simp_all
    have hq : ((l.length : Int) == 0) = false := by simp [h0]
    have HE : Hid ((!l.isEmpty) = true) := Lib.hid (by simp [h0])
    clear h hc ht hb h0
    obtain ⟨x, HX⟩ : ∃ x, Hid (Rn.hd l = x) := ⟨_, rfl⟩
    rw [HX.out] at c0
    go_enter Try.func35, Try.ntmps35
    go_wp2_with fail
    go_region_held3 (fun w' => w'.cell? ⟨g, off, none⟩ = some (.int .i64 x)) (first | exact c0 | exact c1 | exact (World.cell?_alloc_past _ _ _ hg).trans c0)
      (first
        | (refine step_apps elemInt64 (IR.lit0 _ 2) (IV.then HT.out (((Keeps.refl [] w).drew).alloc _)) (by have := HB.out; simp; omega) ?_; intro ao6 cap6 w6 S6 r6 k6 s6; have c1 : w6.cell? ⟨g, off, none⟩ = some (.int .i64 x) := k6.cell ((World.cell?_alloc_past _ _ _ hg).trans c0) (by simp; omega); have R6 := Lib.hid r6; have K6 := Lib.hid k6; have S6' := Lib.hid s6; clear r6 k6 s6))
    have KK : Hid (Keeps [] w w6) := Lib.hid ((((Keeps.refl [] w).drew).alloc (.cells #[] 2)).trans K6.out (fun k hk => by simp at hk; omega))
    go_wp2_with fail
    all_goals go_ret3
    all_goals exact ⟨_, S6, by rw [HE.out, HX.out]; rfl, KK.out, by simpa using R6.out.iv, fun k hk => by
      right
      rcases S6'.out k hk with h | h
      · simp at h; omega
      · simp at h; omega⟩

set_option maxHeartbeats 1600000 in
theorem ref04_pass (w : World) (v : Value) (l : List Int) (S : List Nat) (room : Nat) (y : Int) (h : IV w v l S) (hb : l.length ≤ 1000) (hr : l.length ≤ room) :
    Calls Try.prog 37 #[v, .int .i64 room, .int .i64 y] w (MayLX (Rn.passL room l y) (Rn.passX room l) (Rn.passOk room l) S w) := by
  obtain ⟨ao, cap, rfl⟩ := h.shape
  have hbb : l.length ≤ 17592186044416 := by omega
  by_cases hok : l.length = room ∧ l ≠ []
  · obtain ⟨rfl, h0⟩ := hok
    have HOK : Hid (Rn.passOk l.length l = true) := Lib.hid (by simp [Rn.passOk, h0])
    have hp : 0 < l.length := List.length_pos_iff.2 h0
    obtain ⟨g, off, rfl, rfl, hg, hc⟩ := h.cells hp
    obtain ⟨S', ht, _⟩ := h.tail hp
    have HT := Lib.hid ht
    have HB := Lib.hid hb
    have hcap : l.length ≤ cap := by obtain ⟨_, _, _, e, h1, _⟩ := h; simp at e; omega
    have hI1 : (1 : Int) ≤ (l.length : Int) := by omega
    have hI2 : (l.length : Int) ≤ (cap : Int) := by omega
    have c0 : w.cell? ⟨g, off, none⟩ = some (.int .i64 (Rn.hd l)) := by
      unfold Rn.hd
      have := hc 0 hp
      rw [Nat.add_zero] at this
      rw [this]; cases l <;> simp_all
    have hq : ((l.length : Int) == 0) = false := by simp [h0]
    clear h hc ht hb h0 hr
    obtain ⟨x, HX⟩ : ∃ x, Hid (Rn.hd l = x) := ⟨_, rfl⟩
    rw [HX.out] at c0
    have HPX : Hid (Rn.passX l.length l = x) := Lib.hid (by simp only [Rn.passX, HOK.out, if_true]; exact HX.out)
    have HPL : Hid (Rn.passL l.length l y = l.tail ++ [y]) := Lib.hid (by simp only [Rn.passL, HOK.out, if_true])
    go_enter Try.func37, Try.ntmps37
    go_wp2_with fail
    have c00 : ((w.alloc (.cells #[] 2)).alloc (.cells #[.int .i64 y] 2)).drew.cell? ⟨g, off, none⟩ = some (.int .i64 x) := (World.cell?_alloc_past _ _ _ (by simp; omega)).trans ((World.cell?_alloc_past _ _ _ hg).trans c0)
    have HV2 := View.then (Row.view (Row.lit (w.alloc (.cells #[] 2)) [.int .i64 y] 2 1 1 rfl one_le_max)) ((Keeps.refl [] _).drew)
    rw [World.size_alloc] at HV2
    replace HV2 := Lib.hid HV2
    have HRb := Lib.hid (IR.then (IR.alloc (IR.lit0 w 2) (.cells #[.int .i64 y] 2)) ((Keeps.refl [] _).drew))
    have HTb := Lib.hid (IV.then HT.out ((((Keeps.refl [] w).alloc (.cells #[] 2)).alloc (.cells #[.int .i64 y] 2)).drew))
    have HRa := Lib.hid (IR.then (IR.lit0 w 2) ((Keeps.refl [] _).drew))
    have HTa := Lib.hid (IV.then HT.out (((Keeps.refl [] w).alloc (.cells #[] 2)).drew))
    have ca : ((w.alloc (.cells #[] 2))).drew.cell? ⟨g, off, none⟩ = some (.int .i64 x) := (World.cell?_alloc_past _ _ _ hg).trans c0
    have cc : ((w.alloc (.cells #[.int .i64 y] 2)).alloc (.cells #[] 2)).drew.cell? ⟨g, off, none⟩ = some (.int .i64 x) := (World.cell?_alloc_past _ _ _ (by simp; omega)).trans ((World.cell?_alloc_past _ _ _ hg).trans c0)
    have HV2c := Lib.hid (View.then (Row.view (Row.alloc (Row.lit w [.int .i64 y] 2 1 1 rfl one_le_max) (.cells #[] 2))) ((Keeps.refl [] _).drew))
    have HRc := Lib.hid (IR.then (IR.lit (w.alloc (.cells #[.int .i64 y] 2)) 2 (w.heap.size + 1) (by simp)) ((Keeps.refl [] _).drew))
    have HTc := Lib.hid (IV.then HT.out ((((Keeps.refl [] w).alloc (.cells #[.int .i64 y] 2)).alloc (.cells #[] 2)).drew))
    go_region_held3 (fun w' => w'.cell? ⟨g, off, none⟩ = some (.int .i64 x)) (first | exact c0 | exact c00 | exact ca | exact c1 | exact c2 | exact cc | exact (World.cell?_alloc_past _ _ _ hg).trans c0 | exact (World.cell?_alloc_past _ _ _ (block_lt_of_cell c1)).trans c1)
      (first
        | (refine step_apps elemInt64 HRa.out HTa.out (by have := HB.out; simp; omega) ?_; intro ao6 cap6 w6 S6 r6 k6 s6; have c1 : w6.cell? ⟨g, off, none⟩ = some (.int .i64 x) := k6.cell ca (by simp; omega); have K6' : Hid (Keeps [] w w6) := Lib.hid (Keeps.trans (by first | exact ((Keeps.refl [] w).alloc _).drew | exact (((Keeps.refl [] w).alloc _).alloc _).drew) k6 (by intro k hk; right; simp at hk; omega)); have T6 : Hid (∀ k ∈ S6, w.heap.size ≤ k) := Lib.hid (fun k hk => by rcases s6 k hk with h | h <;> (simp at h; omega)); have R6 := Lib.hid r6; have R6s := r6; simp only [List.length_nil, List.nil_append, Nat.zero_add, List.length_tail] at R6s; replace R6s := Lib.hid R6s; have K6 := Lib.hid k6; have S6' := Lib.hid s6; clear r6 k6 s6)
        | (refine step_apps elemInt64 HRb.out HTb.out (by have := HB.out; simp; omega) ?_; intro ao6 cap6 w6 S6 r6 k6 s6; have c1 : w6.cell? ⟨g, off, none⟩ = some (.int .i64 x) := k6.cell c00 (by simp; omega); have HV3 := Lib.hid (View.keep HV2.out k6 (by simp)); have K6' : Hid (Keeps [] w w6) := Lib.hid (Keeps.trans (by first | exact ((Keeps.refl [] w).alloc _).drew | exact (((Keeps.refl [] w).alloc _).alloc _).drew) k6 (by intro k hk; right; simp at hk; omega)); have T6 : Hid (∀ k ∈ S6, w.heap.size ≤ k) := Lib.hid (fun k hk => by rcases s6 k hk with h | h <;> (simp at h; omega)); have R6 := Lib.hid r6; have R6s := r6; simp only [List.length_nil, List.nil_append, Nat.zero_add, List.length_tail] at R6s; replace R6s := Lib.hid R6s; have K6 := Lib.hid k6; have S6' := Lib.hid s6; clear r6 k6 s6)
        | (refine step_apps elemInt64 HRc.out HTc.out (by have := HB.out; simp; omega) ?_; intro ao6 cap6 w6 S6 r6 k6 s6; have c1 : w6.cell? ⟨g, off, none⟩ = some (.int .i64 x) := k6.cell cc (by simp; omega); have HV3 := Lib.hid (View.keep HV2c.out k6 (by simp)); have K6' : Hid (Keeps [] w w6) := Lib.hid (Keeps.trans (by first | exact ((Keeps.refl [] w).alloc _).drew | exact (((Keeps.refl [] w).alloc _).alloc _).drew) k6 (by intro k hk; right; simp at hk; omega)); have T6 : Hid (∀ k ∈ S6, w.heap.size ≤ k) := Lib.hid (fun k hk => by rcases s6 k hk with h | h <;> (simp at h; omega)); have R6 := Lib.hid r6; have R6s := r6; simp only [List.length_nil, List.nil_append, Nat.zero_add, List.length_tail] at R6s; replace R6s := Lib.hid R6s; have K6 := Lib.hid k6; have S6' := Lib.hid s6; clear r6 k6 s6)
        | (refine step_app elemInt64 R6.out HV3.out oc_int (by have := HB.out; simp; omega) ?_; intro ao7 cap7 w7 S7 r7 k7 s7; have c2 : w7.cell? ⟨g, off, none⟩ = some (.int .i64 x) := k7.cell c1 (fun hm => by rcases S6'.out g hm with h | h <;> (simp at h; omega)); have R7 := Lib.hid r7; have K7 := Lib.hid k7; have S7' := Lib.hid s7; clear r7 k7 s7)
        | (refine step_app1 (m := 1) (ys := [.int .i64 y]) elemInt64 R6.out rfl one_le_max oc_int (by have := HB.out; simp; omega) ?_; intro ao7 cap7 w7 S7 r7 k7 s7; have c2 : w7.cell? ⟨g, off, none⟩ = some (.int .i64 x) := k7.cell c1 (fun hm => by rcases S6'.out g hm with h | h <;> (simp at h; omega)); have R7 := Lib.hid r7; have K7 := Lib.hid k7; have S7' := Lib.hid s7; clear r7 k7 s7)
        | (refine step_app elemInt64 R6s.out HV3.out oc_int (by have := HB.out; simp; omega) ?_; intro ao7 cap7 w7 S7 r7 k7 s7; have c2 : w7.cell? ⟨g, off, none⟩ = some (.int .i64 x) := k7.cell c1 (fun hm => by rcases S6'.out g hm with h | h <;> (simp at h; omega)); have R7 := Lib.hid r7; have K7 := Lib.hid k7; have S7' := Lib.hid s7; clear r7 k7 s7)
        | (refine step_app1 (m := 1) (ys := [.int .i64 y]) elemInt64 R6s.out rfl one_le_max oc_int (by have := HB.out; simp; omega) ?_; intro ao7 cap7 w7 S7 r7 k7 s7; have c2 : w7.cell? ⟨g, off, none⟩ = some (.int .i64 x) := k7.cell c1 (fun hm => by rcases S6'.out g hm with h | h <;> (simp at h; omega)); have R7 := Lib.hid r7; have K7 := Lib.hid k7; have S7' := Lib.hid s7; clear r7 k7 s7))
    all_goals
      have KK : Hid (Keeps [] w w7) := Lib.hid (K6'.out.trans K7.out (fun k hk => .inr (T6.out k hk)))
      have TT : Hid (∀ k ∈ S7, k ∈ [g] ∨ w.heap.size ≤ k) := Lib.hid (fun k hk => by
        right
        rcases S7'.out k hk with h | h
        · exact T6.out k h
        · have := K6'.out.size; omega)
      have IV7 := R7.out.view
      simp only [List.length_append, List.length_singleton, List.length_nil, List.length_tail, List.nil_append, Nat.zero_add] at IV7
      have HI7 := Lib.hid IV7
      clear IV7
      go_wp2_with fail
    all_goals go_ret3
    all_goals exact ⟨_, S7, by rw [HOK.out, HPX.out]; rfl, KK.out, by rw [HPL.out]; unfold IV; simpa using HI7.out, TT.out⟩
  · have HOK : Hid (Rn.passOk room l = false) := Lib.hid (by simp only [Rn.passOk]; rw [← Bool.not_eq_true]; simpa using hok)
    have HPX : Hid (Rn.passX room l = 0) := Lib.hid (by simp [Rn.passX, HOK.out])
    have HPL : Hid (Rn.passL room l y = l) := Lib.hid (by simp [Rn.passL, HOK.out])
    have H := Lib.hid h
    have hcase : l.length < room ∨ (¬ l.length < room ∧ ((l.length : Int) == 0) = true) := by
      by_cases h1 : l.length < room
      · exact .inl h1
      · right; refine ⟨h1, ?_⟩
        have : l = [] := by
          rcases Classical.em (l = []) with h | h
          · exact h
          · exact absurd ⟨by omega, h⟩ hok
        simp [this]
    clear h hok hb hr
    rcases hcase with h1 | ⟨h1, h2⟩
    all_goals go_enter Try.func37, Try.ntmps37
    all_goals go_wp2_with fail
    all_goals go_ret3
    all_goals exact ⟨_, S, by rw [HOK.out, HPX.out]; rfl, Keeps.refl _ _, by rw [HPL.out]; exact H.out, fun k hk => .inl hk⟩

end Go.Proofs.Ytgpcmifbkbgbjaa
