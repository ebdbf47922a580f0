/-
  Contracts of handoffref02.Same and handoffref07: the document's answer for latch.
  Conditions: none.
-/
import Derived.Test.YtgpcmifbkbgbjaaInts
import Derived.Test.YtgpcmifbkbgbjaaLatchB
namespace Go.Proofs.Ytgpcmifbkbgbjaa
open Go.RowKit
set_option linter.unusedVariables false
set_option linter.unusedSimpArgs false
set_option linter.unnecessarySimpa false

set_option maxHeartbeats 400000 in
theorem same02 (w : World) (v1 v2 : Value) (l1 l2 : List Int) (S1 S2 : List Nat) (h1 : IV w v1 l1 S1) (h2 : IV w v2 l2 S2) :
    Calls Try.prog 31 #[v1, v2] w fun e w' => e = .returned (.bool (decide (l1 = l2))) ∧ ∃ m, w' = w.drewN m := by
  have hm1 := h1.le
  have hm2 := h2.le
  unfold maxLen at hm1 hm2
  obtain ⟨ao1, cap1, rfl⟩ := h1.shape
  obtain ⟨ao2, cap2, rfl⟩ := h2.shape
  by_cases hl : l1.length = l2.length
  · have HL := Lib.hid hl
    have H1 := Lib.hid h1
    have H2 := Lib.hid h2
    have hq : ((l1.length : Int) != (l2.length : Int)) = false := by simp [hl]
    clear hl h1 h2
    go_enter Try.func31, Try.ntmps31
    go_wp2_with fail
    go_loopw [13] (fun i wr => ∃ k m : Nat, k ≤ l1.length ∧ i = .int .i64 k ∧ wr = w.drewN m ∧ ∀ j, j < k → l1.getD j 0 = l2.getD j 0) (fun i _ => l1.length - (intOf i).toNat)
    case atStart => exact ⟨0, 0, Nat.zero_le _, rfl, rfl, fun j hj => by omega⟩
    case round =>
      obtain ⟨k, m, hk, rfl, rfl, hsame⟩ := hrel
      have HS := Lib.hid hsame
      clear hsame
      by_cases hlt : k < l1.length
      · have hlt2 : k < l2.length := by have := HL.out; omega
        obtain ⟨g1, off1, rfl, _, _, hc1⟩ := H1.out.cells (by omega)
        obtain ⟨g2, off2, rfl, _, _, hc2⟩ := H2.out.cells (by omega)
        have c1 := hc1 k hlt
        have c2 := hc2 k hlt2
        clear hc1 hc2
        cases hx : (l1.getD k 0 != l2.getD k 0) with
        | true =>
          have hne : decide (l1 = l2) = false := by
            rw [decide_eq_false_iff_not]; intro e; subst e; simp at hx
          have HN := Lib.hid hne
          clear hne
          generalize l1.getD k 0 = x1 at *
          generalize l2.getD k 0 = x2 at *
          go_wp2_with fail
          go_quiet (fail)
          go_wp2
          go_ret
          exact ⟨ret_bool HN.out.symm, _, (by first | rfl | exact drewN2 _ _ _)⟩
        | false =>
          have heq : l1.getD k 0 = l2.getD k 0 := by simpa using hx
          have HE := Lib.hid heq
          clear heq
          obtain ⟨x1, X1⟩ : ∃ x, Hid (l1.getD k 0 = x) := ⟨_, rfl⟩
          obtain ⟨x2, X2⟩ : ∃ x, Hid (l2.getD k 0 = x) := ⟨_, rfl⟩
          rw [X1.out] at c1 hx
          rw [X2.out] at c2 hx
          go_wp2_with fail
          go_quiet (fail)
          go_wp2
          go_roundw
          case rel => exact ⟨k + 1, _, by omega, by go_num, (by first | rfl | exact drewN2 _ _ _), fun j hj => by
            by_cases e : j = k
            · subst e; exact HE.out
            · exact HS.out j (by omega)⟩
          case measure => simp [intOf]; omega
      · have heq : decide (l1 = l2) = true := by
          rw [decide_eq_true_iff]; exact same_iff l1 l2 HL.out (fun j hj => HS.out j (by omega))
        have HE := Lib.hid heq
        clear heq
        go_wp2
        go_ret
        exact ⟨ret_bool HE.out.symm, _, rfl⟩
  · have hne : decide (l1 = l2) = false := by
      rw [decide_eq_false_iff_not]; intro e; exact hl (by rw [e])
    rw [hne]
    have hq : ((l1.length : Int) != (l2.length : Int)) = true := by simp; omega
    clear hl h1 h2 hne
    go_enter Try.func31, Try.ntmps31
    go_wp2
    go_ret
    exact ⟨rfl, 0, rfl⟩


theorem ref07_owner (w : World) (v : Value) (l : List Int) (S : List Nat) (i : Int) (h : IV w v l S) :
    Calls Try.prog 30 #[v, .int .i64 i] w fun e w' => e = .returned (.int .i64 (Lt.owner l i)) ∧ w = w' := by
  have hm := h.le
  unfold maxLen at hm
  obtain ⟨ao, cap, rfl⟩ := h.shape
  by_cases h1 : 0 ≤ i
  · by_cases h2 : i < l.length
    · obtain ⟨n, rfl⟩ := Int.eq_ofNat_of_zero_le h1
      obtain ⟨g, off, rfl, _, _, hc⟩ := h.cells (by omega)
      have c1 := hc n (by omega)
      have HF := Lib.hid (show Lt.owner l n = l.getD n 0 by simp [Lt.owner, Lt.has, show n < l.length by omega])
      clear h hc
      generalize l.getD n 0 = x at *
      go_enter Try.func30, Try.ntmps30
      go_wp2
      go_ret
      exact ⟨ret_int HF.out.symm, rfl⟩
    · have HF := Lib.hid (show Lt.owner l i = -1 by simp [Lt.owner, Lt.has, h2])
      clear h
      go_enter Try.func30, Try.ntmps30
      go_wp2
      go_ret
      exact ⟨ret_int HF.out.symm, rfl⟩
  · have HF := Lib.hid (show Lt.owner l i = -1 by simp [Lt.owner, Lt.has, h1])
    clear h
    go_enter Try.func30, Try.ntmps30
    go_wp2
    go_ret
    exact ⟨ret_int HF.out.symm, rfl⟩

/-- a new list: l', in new memory -/
def NewInts (l' : List Int) (w : World) (e : Ending) (w' : World) : Prop :=
  ∃ v S, e = .returned v ∧ Keeps [] w w' ∧ IV w' v l' S ∧ ∀ k ∈ S, w.heap.size ≤ k

theorem ref07_set (w : World) (v : Value) (l : List Int) (S : List Nat) (n : Nat) (who : Int) (h : IV w v l S) (hn : n < l.length) (hb : l.length * 8 ≤ 140737488355328) :
    Calls Try.prog 55 #[v, .int .i64 n, .int .i64 who] w (NewInts (l.set n who) w) := by
  obtain ⟨ao, cap, rfl⟩ := h.shape
  have H := Lib.hid h
  have hm : l.length ≤ 17592186044416 := by omega
  have HB := Lib.hid hb
  clear h hb
  go_enter Try.func55, Try.ntmps55
  go_wp2_with (at_builtin; go_must (refine wp_apps elemInt (IR.lit0 w 3) (H.out.alloc _) (by have := HB.out; simpa using this) ?_))
  intro ao1 cap1 w1 S1 r1 k1 s1
  obtain ⟨g, off, rfl, rfl, hg, hc, hf⟩ := r1.cells (by omega)
  have c1 := hc n hn
  have f1 := hf n
  have hst := r1.stored n hn who
  have HK := Lib.hid ((((Keeps.refl [] w).alloc (.cells #[] 3)).trans k1 (fun x hx => by simp at hx; right; omega)).trans hst.2 (fun x hx => by
    right
    rcases s1 x hx with h | h <;> omega))
  have HI := Lib.hid hst.1.iv
  have HS : Hid (∀ k ∈ [g], w.heap.size ≤ k) := Lib.hid (fun x hx => by
    rcases s1 x hx with h | h <;> omega)
  clear hst hc hf r1 k1 s1
  generalize l.getD n 0 = x at *
  go_wp2
  go_ret
  exact ⟨_, _, rfl, HK.out, HI.out, HS.out⟩

/-- an answer ok, and a list l' that is old or new -/
def MayInts (ok : Bool) (l' : List Int) (S : List Nat) (w : World) (e : Ending) (w' : World) : Prop :=
  ∃ v S', e = .returned (.tuple #[v, .bool ok]) ∧ Keeps [] w w' ∧ IV w' v l' S' ∧ ∀ k ∈ S', k ∈ S ∨ w.heap.size ≤ k

theorem ref07_try (w : World) (v : Value) (l : List Int) (S : List Nat) (i who : Int) (h : IV w v l S) (hb : l.length * 8 ≤ 140737488355328) :
    Calls Try.prog 26 #[v, .int .i64 i, .int .i64 who] w (MayInts (Lt.tryOk l i who) (Lt.tryL l i who) S w) := by
  have hm : l.length ≤ 17592186044416 := by omega
  obtain ⟨ao, cap, rfl⟩ := h.shape
  have H := Lib.hid h
  have HB := Lib.hid hb
  clear hb
  by_cases hi : 0 ≤ i ∧ i < l.length
  · obtain ⟨h1, h2⟩ := hi
    obtain ⟨n, rfl⟩ := Int.eq_ofNat_of_zero_le h1
    obtain ⟨g, off, rfl, rfl, hg, hc⟩ := h.cells (by omega)
    have c1 := hc n (by omega)
    clear h hc
    by_cases h3 : 0 ≤ who
    · cases h4 : (l.getD n 0 == (-1)) with
      | true =>
        have HF := Lib.hid (show Lt.tryOk l n who = true by simp only [Lt.tryOk, Lt.has]; simp only [Int.toNat_natCast, h4]; simp; omega)
        have HF2 : Hid (Lt.tryL l n who = l.set n who) := Lib.hid (by simp [Lt.tryL, HF.out])
        have h5 : (l.getD n 0 != (-1)) = false := by simpa using h4
        clear h4
        have hn : n < l.length := by omega
        generalize l.getD n 0 = x at *
        go_enter Try.func26, Try.ntmps26
        go_wp2_with fail
        refine (ref07_set _ _ _ _ n _ H.out hn HB.out).mono ?_
        rintro e w1 ⟨v1, S1, rfl, k1, r1, s1⟩
        have R := Lib.hid r1
        have K := Lib.hid k1
        have T := Lib.hid s1
        clear r1 k1 s1
        go_wp2
        go_ret2
        exact ⟨_, S1, ret_vb HF.out.symm, K.out, by rw [HF2.out]; exact R.out, fun k hk => .inr (T.out k hk)⟩
      | false =>
        have HF := Lib.hid (show Lt.tryOk l n who = false by simp only [Lt.tryOk]; simp only [Int.toNat_natCast, h4]; simp)
        have HF2 : Hid (Lt.tryL l n who = l) := Lib.hid (by simp [Lt.tryL, HF.out])
        have h5 : (l.getD n 0 != (-1)) = true := by simpa using h4
        clear h4
        generalize l.getD n 0 = x at *
        go_enter Try.func26, Try.ntmps26
        go_wp2
        go_ret2
        exact ⟨_, [g], ret_vb HF.out.symm, Keeps.refl _ _, by rw [HF2.out]; exact H.out, fun k hk => .inl hk⟩
    · have HF := Lib.hid (show Lt.tryOk l n who = false by simp only [Lt.tryOk]; simp [h3])
      have HF2 : Hid (Lt.tryL l n who = l) := Lib.hid (by simp [Lt.tryL, HF.out])
      clear c1
      go_enter Try.func26, Try.ntmps26
      go_wp2
      go_ret2
      exact ⟨_, [g], ret_vb HF.out.symm, Keeps.refl _ _, by rw [HF2.out]; exact H.out, fun k hk => .inl hk⟩
  · have HF := Lib.hid (show Lt.tryOk l i who = false by
      have hh : Lt.has l i = false := by simp only [Lt.has]; rw [← Bool.not_eq_true]; simp; omega
      simp [Lt.tryOk, hh])
    have HF2 : Hid (Lt.tryL l i who = l) := Lib.hid (by simp [Lt.tryL, HF.out])
    clear h
    by_cases h1 : 0 ≤ i
    all_goals by_cases h2 : i < l.length
    all_goals try omega
    all_goals clear hi
    all_goals go_enter Try.func26, Try.ntmps26
    all_goals go_wp2
    all_goals go_ret2
    all_goals exact ⟨_, S, ret_vb HF.out.symm, Keeps.refl _ _, by rw [HF2.out]; exact H.out, fun k hk => .inl hk⟩

theorem ref07_free (w : World) (v : Value) (l : List Int) (S : List Nat) (i who : Int) (h : IV w v l S) (hb : l.length * 8 ≤ 140737488355328) :
    Calls Try.prog 27 #[v, .int .i64 i, .int .i64 who] w (MayInts (Lt.freeOk l i who) (Lt.freeL l i who) S w) := by
  have hm : l.length ≤ 17592186044416 := by omega
  obtain ⟨ao, cap, rfl⟩ := h.shape
  have H := Lib.hid h
  have HB := Lib.hid hb
  clear hb
  by_cases hi : 0 ≤ i ∧ i < l.length
  · obtain ⟨h1, h2⟩ := hi
    obtain ⟨n, rfl⟩ := Int.eq_ofNat_of_zero_le h1
    obtain ⟨g, off, rfl, rfl, hg, hc⟩ := h.cells (by omega)
    have c1 := hc n (by omega)
    clear h hc
    by_cases h3 : 0 ≤ who
    · cases h4 : (l.getD n 0 == who) with
      | true =>
        have HF := Lib.hid (show Lt.freeOk l n who = true by simp only [Lt.freeOk, Lt.has]; simp only [Int.toNat_natCast, h4]; simp; omega)
        have HF2 : Hid (Lt.freeL l n who = l.set n (-1)) := Lib.hid (by simp [Lt.freeL, HF.out])
        have h5 : (l.getD n 0 != who) = false := by simpa using h4
        clear h4
        have hn : n < l.length := by omega
        generalize l.getD n 0 = x at *
        go_enter Try.func27, Try.ntmps27
        go_wp2_with fail
        refine (ref07_set _ _ _ _ n _ H.out hn HB.out).mono ?_
        rintro e w1 ⟨v1, S1, rfl, k1, r1, s1⟩
        have R := Lib.hid r1
        have K := Lib.hid k1
        have T := Lib.hid s1
        clear r1 k1 s1
        go_wp2
        go_ret2
        exact ⟨_, S1, ret_vb HF.out.symm, K.out, by rw [HF2.out]; exact R.out, fun k hk => .inr (T.out k hk)⟩
      | false =>
        have HF := Lib.hid (show Lt.freeOk l n who = false by simp only [Lt.freeOk]; simp only [Int.toNat_natCast, h4]; simp)
        have HF2 : Hid (Lt.freeL l n who = l) := Lib.hid (by simp [Lt.freeL, HF.out])
        have h5 : (l.getD n 0 != who) = true := by simpa using h4
        clear h4
        generalize l.getD n 0 = x at *
        go_enter Try.func27, Try.ntmps27
        go_wp2
        go_ret2
        exact ⟨_, [g], ret_vb HF.out.symm, Keeps.refl _ _, by rw [HF2.out]; exact H.out, fun k hk => .inl hk⟩
    · have HF := Lib.hid (show Lt.freeOk l n who = false by simp only [Lt.freeOk]; simp [h3])
      have HF2 : Hid (Lt.freeL l n who = l) := Lib.hid (by simp [Lt.freeL, HF.out])
      clear c1
      go_enter Try.func27, Try.ntmps27
      go_wp2
      go_ret2
      exact ⟨_, [g], ret_vb HF.out.symm, Keeps.refl _ _, by rw [HF2.out]; exact H.out, fun k hk => .inl hk⟩
  · have HF := Lib.hid (show Lt.freeOk l i who = false by
      have hh : Lt.has l i = false := by simp only [Lt.has]; rw [← Bool.not_eq_true]; simp; omega
      simp [Lt.freeOk, hh])
    have HF2 : Hid (Lt.freeL l i who = l) := Lib.hid (by simp [Lt.freeL, HF.out])
    clear h
    by_cases h1 : 0 ≤ i
    all_goals by_cases h2 : i < l.length
    all_goals try omega
    all_goals clear hi
    all_goals go_enter Try.func27, Try.ntmps27
    all_goals go_wp2
    all_goals go_ret2
    all_goals exact ⟨_, S, ret_vb HF.out.symm, Keeps.refl _ _, by rw [HF2.out]; exact H.out, fun k hk => .inl hk⟩

set_option maxHeartbeats 400000 in
theorem ref07_new (w : World) (n : Int) : Calls Try.prog 25 #[.int .i64 n] w (NewInts (Lt.newL n) w) := by
  obtain ⟨N, hN⟩ : ∃ N : Nat, (N : Int) = max 0 (min n 4096) := ⟨(max 0 (min n 4096)).toNat, Int.toNat_of_nonneg (by omega)⟩
  have hN2 : N ≤ 4096 := by omega
  have hm : N ≤ 1099511627776 := by omega
  have HN := Lib.hid hN
  have HN2 := Lib.hid hN2
  have HF : Hid (Lt.newL n = List.replicate N (-1)) := Lib.hid (by unfold Lt.newL; rw [← hN]; simp)
  clear hN hN2
  go_enter Try.func25, Try.ntmps25
  go_wp2_with fail
  go_loopw [3, 4] (fun v i wr => ∃ (k : Nat) (S : List Nat), k ≤ N ∧ i = .int .i64 k ∧ Keeps [] w wr ∧ IR wr v 3 (List.replicate k (-1)) S ∧ ∀ x ∈ S, w.heap.size ≤ x) (fun _ i _ => N - (intOf i).toNat)
  case atStart => exact ⟨0, [w.heap.size], Nat.zero_le _, rfl, (Keeps.refl _ _).alloc _, IR.lit0 w _, by simp⟩
  case round =>
    obtain ⟨k, S, hk, rfl, hke, hr, hs⟩ := hrel
    obtain ⟨ao, cap, hv⟩ := hr.shape
    rw [List.length_replicate] at hv
    subst hv
    have HK := Lib.hid hke
    have HR := Lib.hid hr
    have HS := Lib.hid hs
    clear hke hr hs
    by_cases hlt : k < N
    · have q1 : decide ((k : Int) < n) = true := by have := HN.out; simp; omega
      have q2 : decide ((k : Int) < 4096) = true := by have := HN2.out; simp; omega
      go_wp2_with (at_builtin; go_must (refine wp_appn elemInt HR.out (by have := HN2.out; simp; omega) ?_))
      intro ao' cap' w1 S' r1 k1 s1
      have R1 := Lib.hid r1
      have K1 := Lib.hid k1
      have S1 := Lib.hid s1
      clear r1 k1 s1
      go_wp2
      go_roundw
      case rel => exact ⟨k + 1, S', by omega, by go_num, HK.out.trans K1.out (fun x hx => .inr (HS.out x hx)), by rw [List.replicate_succ']; exact R1.out, fun x hx => by
        rcases S1.out x hx with h | h
        · exact HS.out x h
        · have := HK.out.size; omega⟩
      case measure => simp [intOf]; omega
    · obtain rfl : k = N := by omega
      by_cases hkn : (k : Int) < n
      · have q2 : decide ((k : Int) < 4096) = false := by have := HN.out; simp; omega
        go_wp2
        go_ret
        exact ⟨_, S, rfl, HK.out, by rw [HF.out]; exact HR.out.iv, HS.out⟩
      · go_wp2
        go_ret
        exact ⟨_, S, rfl, HK.out, by rw [HF.out]; exact HR.out.iv, HS.out⟩

set_option maxHeartbeats 800000 in
theorem ref07_held (w : World) (v : Value) (l : List Int) (S : List Nat) (who : Int) (h : IV w v l S) (hb47 : l.length * 8 ≤ 140737488355328) :
    Calls Try.prog 32 #[v, .int .i64 who] w (NewInts (Lt.held l who) w) := by
  obtain ⟨ao, cap, rfl⟩ := h.shape
  have hm : l.length ≤ 17592186044416 := by omega
  have H := Lib.hid h
  have H47 := Lib.hid hb47
  clear h hb47
  go_enter Try.func32, Try.ntmps32
  go_wp2_with fail
  go_loopw [5, 11] (fun v i wr => ∃ (k : Nat) (T : List Nat), k ≤ l.length ∧ i = .int .i64 k ∧ Keeps [] w wr ∧ IR wr v 3 (Lt.held (l.take k) who) T ∧ ∀ x ∈ T, w.heap.size ≤ x)
    (fun _ i _ => l.length - (intOf i).toNat)
  case atStart => exact ⟨0, [w.heap.size], Nat.zero_le _, rfl, (Keeps.refl _ _).alloc _, IR.lit0 w _, by simp⟩
  case round =>
    obtain ⟨k, T, hk, rfl, hke, hrow, hT⟩ := hrel
    obtain ⟨ao5, cap5, hv⟩ := hrow.shape
    subst hv
    have hlen : (Lt.held (l.take k) who).length ≤ k := by
      have := Lt.heldFrom_len who (l.take k) 0
      have h2 : (l.take k).length ≤ k := List.length_take_le _ _
      unfold Lt.held; omega
    have HK := Lib.hid hke
    have HR := Lib.hid hrow
    have HT := Lib.hid hT
    clear hke hrow hT
    by_cases hlt : k < l.length
    · have Hst := Lib.hid (Lt.held_take l who k hlt)
      obtain ⟨g, off, rfl, _, hg, hc⟩ := H.out.cells (by omega)
      have c1 : wr.cell? ⟨g, off + k, none⟩ = some (.int .i64 (l.getD k 0)) := by
        rw [World.cell?_of_block (w := w) (HK.out.block g hg (by simp))]; exact hc k hlt
      clear hc
      generalize l.getD k 0 = x at *
      by_cases hx : x = who
      · subst hx
        by_cases hw : 0 ≤ x
        · go_wp2_with (at_builtin; go_must (refine wp_appn elemInt HR.out (by have := H47.out; omega) ?_))
          intro ao' cap' w1 S' r1 r2 r3
          have R1 := Lib.hid r1
          have R2 := Lib.hid r2
          have R3 := Lib.hid r3
          clear r1 r2 r3
          go_wp2
          go_roundw
          case rel => exact ⟨k + 1, S', by omega, by go_num, HK.out.trans R2.out (fun x hx => .inr (HT.out x hx)), by
            rw [Hst.out]; simp only [hw, and_self, if_true]; exact R1.out, fun y hy => by
            rcases R3.out y hy with h | h
            · exact HT.out y h
            · have := HK.out.size; omega⟩
          case measure => simp [intOf]; omega
        · go_wp2
          go_roundw
          case rel => exact ⟨k + 1, T, by omega, by go_num, HK.out, by
            rw [Hst.out]; simp only [hw, false_and, if_false, List.append_nil]; exact HR.out, HT.out⟩
          case measure => simp [intOf]; omega
      · have hq : (x == who) = false := by simpa using hx
        go_wp2
        go_roundw
        case rel => exact ⟨k + 1, T, by omega, by go_num, HK.out, by
          rw [Hst.out]; simp only [hx, and_false, if_false, List.append_nil]; exact HR.out, HT.out⟩
        case measure => simp [intOf]; omega
    · have He := Lib.hid (show Lt.held (l.take k) who = Lt.held l who by rw [List.take_of_length_le (by omega)])
      go_wp2
      go_ret
      exact ⟨_, _, rfl, HK.out, (by rw [← He.out]; exact HR.out.iv), HT.out⟩

end Go.Proofs.Ytgpcmifbkbgbjaa
