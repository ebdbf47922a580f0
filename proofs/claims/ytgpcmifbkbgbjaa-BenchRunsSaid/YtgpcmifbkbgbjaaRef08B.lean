/-
  Contracts of handoffref08, the second part: Park, Ready, End, Set, New.
  Conditions: the list is no longer than 5000.
-/
import Derived.Test.YtgpcmifbkbgbjaaRef08
namespace Go.Proofs.Ytgpcmifbkbgbjaa
open Go.RowKit
set_option linter.unusedVariables false
set_option linter.unusedSimpArgs false
set_option linter.unnecessarySimpa false

/-- an answer of a list that is old or new, and a bool -/
def MaySeats (l' : List (Int × Bool)) (ok : Bool) (S : List Nat) (w : World) (e : Ending) (w' : World) : Prop :=
  ∃ v S', e = .returned (.tuple #[v, .bool ok]) ∧ Keeps [] w w' ∧ EV oneC 2 w' v l' S' ∧ ∀ k ∈ S', k ∈ S ∨ w.heap.size ≤ k
theorem MaySeats.same {w : World} {v : Value} {ok b : Bool} {l l' : List (Int × Bool)} {S : List Nat} (h : EV oneC 2 w v l S) (h1 : ok = b) (h2 : l' = l) : MaySeats l' ok S w (.returned (.tuple #[v, .bool b])) w := by
  subst h1 h2; exact ⟨v, S, rfl, Keeps.refl _ _, h, fun k hk => .inl hk⟩
theorem Bc.has_of {l : List (Int × Bool)} {i s : Int} (h : (Bc.status l i == s) = true) (hs : s ≠ 2) : Bc.has l i = true := by
  cases hh : Bc.has l i with
  | true => rfl
  | false => rw [Bc.no hh hs] at h; cases h
theorem Bc.set_mem {l : List (Int × Bool)} {n : Nat} {o : Int × Bool} (h : l[n]? = some o) : l.set n o = l := by
  apply List.ext_getElem?; intro k
  by_cases hk : n = k
  · subst hk; rw [List.getElem?_set_self (List.getElem?_eq_some_iff.1 h).1, h]
  · rw [List.getElem?_set_ne hk]

set_option maxHeartbeats 400000 in
theorem ref08_end (w : World) (v : Value) (l : List (Int × Bool)) (S : List Nat) (i : Int) (h : EV oneC 2 w v l S) (hb : l.length ≤ 5000) :
    Calls Try.prog 51 #[v, .int .i64 i] w (MaySeats (Bc.endL l i) (Bc.endOk l i) S w) := by
  obtain ⟨ao, cap, rfl⟩ := h.shape
  have hbb : l.length ≤ 17592186044416 := by omega
  have H := Lib.hid h
  have HB := Lib.hid hb
  cases h2 : (Bc.status l i == 0) with
  | true =>
    obtain ⟨n, rfl, hn, g, off, rfl, rfl, hg, c1, c2, hx⟩ := h.mem (Bc.has_of h2 (by omega))
    have HN := Lib.hid hn
    have HF : Hid (Bc.endOk l n = true ∧ Bc.endL l n = l.set n (2, false)) := Lib.hid ⟨h2, if_pos (by simpa using h2)⟩
    clear h hb hx c1 c2
    go_enter Try.func51, Try.ntmps51
    go_wp2_with fail
    refine (ref08_is _ _ _ _ _ 0 H.out (by omega)).mono ?_
    rintro e w1 ⟨rfl, rfl⟩
    go_wp2_with fail
    refine (ref08_with _ _ _ _ n 2 false H.out HN.out HB.out).mono ?_
    rintro e w2 ⟨v2, S2, rfl, k2, e2, s2⟩
    have HK := Lib.hid k2
    have HE := Lib.hid e2
    have HS := Lib.hid s2
    clear k2 e2 s2
    go_wp2_with fail
    go_ret2
    exact ⟨v2, S2, ret_vb HF.out.1.symm, HK.out, by rw [HF.out.2]; exact HE.out, fun k hk => .inr (HS.out k hk)⟩
  | false =>
    have HF : Hid (Bc.endOk l i = false ∧ Bc.endL l i = l) := Lib.hid ⟨h2, if_neg (by simpa using h2)⟩
    clear h hb
    go_enter Try.func51, Try.ntmps51
    go_wp2_with fail
    refine (ref08_is _ _ _ _ _ 0 H.out (by omega)).mono ?_
    rintro e w1 ⟨rfl, rfl⟩
    go_wp2_with fail
    go_ret2
    exact MaySeats.same H.out HF.out.1 HF.out.2

set_option maxHeartbeats 400000 in
theorem ref08_park (w : World) (v : Value) (l : List (Int × Bool)) (S : List Nat) (i : Int) (h : EV oneC 2 w v l S) (hb : l.length ≤ 5000) :
    Calls Try.prog 49 #[v, .int .i64 i] w (MaySeats (Bc.parkL l i) (Bc.parkOk l i) S w) := by
  obtain ⟨ao, cap, rfl⟩ := h.shape
  have hbb : l.length ≤ 17592186044416 := by omega
  have H := Lib.hid h
  have HB := Lib.hid hb
  cases h2 : (Bc.status l i == 0) with
  | true =>
    obtain ⟨n, rfl, hn, g, off, rfl, rfl, hg, c1, c2, hx⟩ := h.mem (Bc.has_of h2 (by omega))
    have HN := Lib.hid hn
    have h20 : Bc.status l n = 0 := by simpa using h2
    cases h3 : (Bc.mem l n).2 with
    | true =>
      have HF : Hid (Bc.parkOk l n = false ∧ Bc.parkL l n = l.set n (0, false)) := Lib.hid ⟨by simp [Bc.parkOk, h3], by simp [Bc.parkL, h20, h3]⟩
      rw [h3] at c2
      clear h hb hx c1 h20
      go_enter Try.func49, Try.ntmps49
      go_wp2_with fail
      refine (ref08_is _ _ _ _ _ 0 H.out (by omega)).mono ?_
      rintro e w1 ⟨rfl, rfl⟩
      go_wp2_with fail
      refine (ref08_with _ _ _ _ n 0 false H.out HN.out HB.out).mono ?_
      rintro e w2 ⟨v2, S2, rfl, k2, e2, s2⟩
      have HK := Lib.hid k2
      have HE := Lib.hid e2
      have HS := Lib.hid s2
      clear k2 e2 s2
      go_wp2_with fail
      go_ret2
      exact ⟨v2, S2, ret_vb HF.out.1.symm, HK.out, by rw [HF.out.2]; exact HE.out, fun k hk => .inr (HS.out k hk)⟩
    | false =>
      have HF : Hid (Bc.parkOk l n = true ∧ Bc.parkL l n = l.set n (1, false)) := Lib.hid ⟨by simp [Bc.parkOk, h3, h20], by simp [Bc.parkL, h20, h3]⟩
      rw [h3] at c2
      clear h hb hx c1 h20
      go_enter Try.func49, Try.ntmps49
      go_wp2_with fail
      refine (ref08_is _ _ _ _ _ 0 H.out (by omega)).mono ?_
      rintro e w1 ⟨rfl, rfl⟩
      go_wp2_with fail
      refine (ref08_with _ _ _ _ n 1 false H.out HN.out HB.out).mono ?_
      rintro e w2 ⟨v2, S2, rfl, k2, e2, s2⟩
      have HK := Lib.hid k2
      have HE := Lib.hid e2
      have HS := Lib.hid s2
      clear k2 e2 s2
      go_wp2_with fail
      go_ret2
      exact ⟨v2, S2, ret_vb HF.out.1.symm, HK.out, by rw [HF.out.2]; exact HE.out, fun k hk => .inr (HS.out k hk)⟩
  | false =>
    have HF : Hid (Bc.parkOk l i = false ∧ Bc.parkL l i = l) := Lib.hid ⟨by simp [Bc.parkOk, h2], if_neg (by simpa using h2)⟩
    clear h hb
    go_enter Try.func49, Try.ntmps49
    go_wp2_with fail
    refine (ref08_is _ _ _ _ _ 0 H.out (by omega)).mono ?_
    rintro e w1 ⟨rfl, rfl⟩
    go_wp2_with fail
    go_ret2
    exact MaySeats.same H.out HF.out.1 HF.out.2

set_option maxHeartbeats 400000 in
theorem ref08_ready (w : World) (v : Value) (l : List (Int × Bool)) (S : List Nat) (i : Int) (h : EV oneC 2 w v l S) (hb : l.length ≤ 5000) :
    Calls Try.prog 50 #[v, .int .i64 i] w (MaySeats (Bc.readyL l i) (Bc.readyOk l i) S w) := by
  obtain ⟨ao, cap, rfl⟩ := h.shape
  have hbb : l.length ≤ 17592186044416 := by omega
  have H := Lib.hid h
  have HB := Lib.hid hb
  cases h2 : (Bc.status l i == 1) with
  | true =>
    obtain ⟨n, rfl, hn, g, off, rfl, rfl, hg, c1, c2, hx⟩ := h.mem (Bc.has_of h2 (by omega))
    have HN := Lib.hid hn
    have h20 : Bc.status l n = 1 := by simpa using h2
    have HF : Hid (Bc.readyOk l n = true ∧ Bc.readyL l n = l.set n (0, (Bc.mem l n).2)) := Lib.hid ⟨by simp [Bc.readyOk, h20], by simp [Bc.readyL, h20]⟩
    generalize (Bc.mem l n).2 = t at *
    clear h hb hx c1 h20
    go_enter Try.func50, Try.ntmps50
    go_wp2_with fail
    refine (ref08_is _ _ _ _ _ 1 H.out (by omega)).mono ?_
    rintro e w1 ⟨rfl, rfl⟩
    go_wp2_with fail
    refine (ref08_with _ _ _ _ n 0 t H.out HN.out HB.out).mono ?_
    rintro e w2 ⟨v2, S2, rfl, k2, e2, s2⟩
    have HK := Lib.hid k2
    have HE := Lib.hid e2
    have HS := Lib.hid s2
    clear k2 e2 s2
    go_wp2_with fail
    go_ret2
    exact ⟨v2, S2, ret_vb HF.out.1.symm, HK.out, by rw [HF.out.2]; exact HE.out, fun k hk => .inr (HS.out k hk)⟩
  | false =>
    have H3 := Lib.hid h2
    cases h3 : (Bc.status l i == 0) with
    | true =>
      obtain ⟨n, rfl, hn, g, off, rfl, rfl, hg, c1, c2, hx⟩ := h.mem (Bc.has_of h3 (by omega))
      have HN := Lib.hid hn
      have h20 : Bc.status l n = 0 := by simpa using h3
      have hs0 : (Bc.mem l n).1 = 0 := by have := h20; simp [Bc.status, Bc.has_of h3 (by omega)] at this; exact this
      cases h4 : (Bc.mem l n).2 with
      | true =>
        have HF : Hid (Bc.readyOk l n = false ∧ Bc.readyL l n = l) := Lib.hid ⟨by simp [Bc.readyOk, h20, h4], by
          simp [Bc.readyL, h20]
          have e : Bc.mem l n = (0, true) := by rw [← hs0, ← h4]
          rw [e] at hx; exact Bc.set_mem hx⟩
        rw [h4] at c2
        clear h hb hx c1 h20 hs0
        go_enter Try.func50, Try.ntmps50
        go_wp2_with fail
        refine (ref08_is _ _ _ _ _ 1 H.out (by omega)).mono ?_
        rintro e w1 ⟨rfl, rfl⟩
        go_wp2_with fail
        refine (ref08_is _ _ _ _ _ 0 H.out (by omega)).mono ?_
        rintro e w1 ⟨rfl, rfl⟩
        go_wp2_with fail
        go_ret2
        exact MaySeats.same H.out HF.out.1 HF.out.2
      | false =>
        have HF : Hid (Bc.readyOk l n = true ∧ Bc.readyL l n = l.set n (0, true)) := Lib.hid ⟨by simp [Bc.readyOk, h20, h4], by simp [Bc.readyL, h20]⟩
        rw [h4] at c2
        clear h hb hx c1 h20 hs0
        go_enter Try.func50, Try.ntmps50
        go_wp2_with fail
        refine (ref08_is _ _ _ _ _ 1 H.out (by omega)).mono ?_
        rintro e w1 ⟨rfl, rfl⟩
        go_wp2_with fail
        refine (ref08_is _ _ _ _ _ 0 H.out (by omega)).mono ?_
        rintro e w1 ⟨rfl, rfl⟩
        go_wp2_with fail
        refine (ref08_with _ _ _ _ n 0 true H.out HN.out HB.out).mono ?_
        rintro e w2 ⟨v2, S2, rfl, k2, e2, s2⟩
        have HK := Lib.hid k2
        have HE := Lib.hid e2
        have HS := Lib.hid s2
        clear k2 e2 s2
        go_wp2_with fail
        go_ret2
        exact ⟨v2, S2, ret_vb HF.out.1.symm, HK.out, by rw [HF.out.2]; exact HE.out, fun k hk => .inr (HS.out k hk)⟩
    | false =>
      have HF : Hid (Bc.readyOk l i = false ∧ Bc.readyL l i = l) := Lib.hid ⟨by simp [Bc.readyOk, h2, h3], by simp at h2 h3; simp [Bc.readyL, h2, h3]⟩
      clear h hb
      go_enter Try.func50, Try.ntmps50
      go_wp2_with fail
      refine (ref08_is _ _ _ _ _ 1 H.out (by omega)).mono ?_
      rintro e w1 ⟨rfl, rfl⟩
      go_wp2_with fail
      refine (ref08_is _ _ _ _ _ 0 H.out (by omega)).mono ?_
      rintro e w1 ⟨rfl, rfl⟩
      go_wp2_with fail
      go_ret2
      exact MaySeats.same H.out HF.out.1 HF.out.2

set_option maxHeartbeats 400000 in
theorem ref08_set (w : World) (v : Value) (l : List (Int × Bool)) (S : List Nat) (i s : Int) (t : Bool) (h : EV oneC 2 w v l S) (hb : l.length ≤ 5000) :
    Calls Try.prog 52 #[v, .int .i64 i, .int .i64 s, .bool t] w (MaySeats (Bc.setL l i s t) (Bc.setOk l i s) S w) := by
  obtain ⟨ao, cap, rfl⟩ := h.shape
  have hbb : l.length ≤ 17592186044416 := by omega
  have H := Lib.hid h
  have HB := Lib.hid hb
  cases h1 : Bc.setOk l i s with
  | true =>
    have h2 : Bc.has l i = true := by simp [Bc.setOk] at h1; exact h1.1.1
    obtain ⟨n, rfl, hn, g, off, rfl, rfl, hg, c1, c2, hx⟩ := h.mem h2
    have HN := Lib.hid hn
    have q1 : decide (s < 0) = false := by simp [Bc.setOk] at h1; simp; omega
    have q2 : decide (2 < s) = false := by simp [Bc.setOk] at h1; simp; omega
    have HF : Hid (Bc.setL l n s t = l.set n (s, t)) := Lib.hid (by simp [Bc.setL, h1])
    clear h hb hx c1 c2 h1 h2
    go_enter Try.func52, Try.ntmps52
    go_wp2_with fail
    refine (ref08_with _ _ _ _ n s t H.out HN.out HB.out).mono ?_
    rintro e w2 ⟨v2, S2, rfl, k2, e2, s2⟩
    have HK := Lib.hid k2
    have HE := Lib.hid e2
    have HS := Lib.hid s2
    clear k2 e2 s2
    go_wp2_with fail
    go_ret2
    exact ⟨v2, S2, rfl, HK.out, by rw [HF.out]; exact HE.out, fun k hk => .inr (HS.out k hk)⟩
  | false =>
    have HF : Hid (Bc.setL l i s t = l) := Lib.hid (by simp [Bc.setL, h1])
    have hcase : decide (i < 0) = true ∨ (decide (i < 0) = false ∧ decide ((l.length : Int) ≤ i) = true) ∨ (decide (i < 0) = false ∧ decide ((l.length : Int) ≤ i) = false ∧ decide (s < 0) = true) ∨
        (decide (i < 0) = false ∧ decide ((l.length : Int) ≤ i) = false ∧ decide (s < 0) = false ∧ decide (2 < s) = true) := by
      simp only [Bc.setOk, Bc.has, Bool.and_eq_false_iff, decide_eq_false_iff_not] at h1
      simp only [decide_eq_true_eq, decide_eq_false_iff_not]
      omega
    clear h hb h1
    rcases hcase with q1 | ⟨q1, q2⟩ | ⟨q1, q2, q3⟩ | ⟨q1, q2, q3, q4⟩
    all_goals go_enter Try.func52, Try.ntmps52
    all_goals go_wp2_with fail
    all_goals go_ret2
    all_goals exact MaySeats.same H.out rfl HF.out

set_option maxHeartbeats 400000 in
theorem ref08_new (w : World) (n : Int) : Calls Try.prog 47 #[.int .i64 n] w (NewSeats (Bc.newL n) w) := by
  obtain ⟨N, hN⟩ : ∃ N : Nat, (N : Int) = max 0 (min n 4096) := ⟨(max 0 (min n 4096)).toNat, Int.toNat_of_nonneg (by omega)⟩
  have hN2 : N ≤ 4096 := by omega
  have hm : N ≤ 1099511627776 := by omega
  have HN := Lib.hid hN
  have HN2 := Lib.hid hN2
  have HF : Hid (Bc.newL n = List.replicate N (0, false)) := Lib.hid (by unfold Bc.newL; rw [← hN]; simp)
  clear hN hN2
  go_enter Try.func47, Try.ntmps47
  go_wp2_with fail
  go_loopw [3, 4] (fun v i wr => ∃ (k : Nat) (S : List Nat), k ≤ N ∧ i = .int .i64 k ∧ Keeps [] w wr ∧ ER oneC 2 wr v 79 (List.replicate k (0, false)) S ∧ ∀ x ∈ S, w.heap.size ≤ x) (fun _ i _ => N - (intOf i).toNat)
  case atStart => exact ⟨0, [w.heap.size], Nat.zero_le _, rfl, (Keeps.refl _ _).alloc _, ER.lit _ _ _ _ _ rfl, by simp⟩
  case round =>
    obtain ⟨k, S, hk, rfl, hke, hr, hs⟩ := hrel
    obtain ⟨ao, cap, hv⟩ := hr.shape
    rw [List.length_replicate] at hv
    subst hv
    have hr' : Row wr (.slice ao k cap) 79 2 k ((List.replicate k ((0 : Int), false)).flatMap oneC) S := by
      have := hr; unfold ER at this; rwa [List.length_replicate] at this
    have HK := Lib.hid hke
    have HR := Lib.hid hr
    have HR' := Lib.hid hr'
    have HS := Lib.hid hs
    clear hke hr hs hr'
    by_cases hlt : k < N
    · have q1 : decide ((k : Int) < n) = true := by have := HN.out; simp; omega
      have q2 : decide ((k : Int) < 4096) = true := by have := HN2.out; simp; omega
      go_wp2_with (at_builtin; go_must (refine wp_app1 (m := 1) (ys := oneC (0, false)) elemSeat HR'.out rfl one_le_max (oc_one _) (by have := HN2.out; omega) ?_))
      intro ao' cap' w1 S' r1 k1 s1
      have R1 := Lib.hid r1
      have K1 := Lib.hid k1
      have S1 := Lib.hid s1
      clear r1 k1 s1
      go_wp2
      go_roundw
      case rel => exact ⟨k + 1, S', by omega, by go_num, HK.out.trans K1.out (fun x hx => .inr (HS.out x hx)), by
          have := R1.out
          unfold ER
          rw [List.length_replicate, List.replicate_succ', List.flatMap_append]; simpa using this, fun x hx => by
        rcases S1.out x hx with h | h
        · exact HS.out x h
        · have := HK.out.size; omega⟩
      case measure => simp [intOf]; omega
    · obtain rfl : k = N := by omega
      by_cases hkn : (k : Int) < n
      · have q2 : decide ((k : Int) < 4096) = false := by have := HN.out; simp; omega
        go_wp2
        go_ret
        exact ⟨_, S, rfl, HK.out, by rw [HF.out]; exact HR.out.ev, HS.out⟩
      · go_wp2
        go_ret
        exact ⟨_, S, rfl, HK.out, by rw [HF.out]; exact HR.out.ev, HS.out⟩
end Go.Proofs.Ytgpcmifbkbgbjaa
