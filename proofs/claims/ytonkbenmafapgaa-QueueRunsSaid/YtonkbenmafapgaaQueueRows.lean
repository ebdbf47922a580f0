/-
  handoffref06.Without; the law QueueRows: its walk.
  Conditions: none.
-/
import Derived.Test.YtonkbenmafapgaaQueueF
namespace Go.Proofs.Ytonkbenmafapgaa
open Go.RowKit
set_option linter.unusedVariables false
set_option linter.unusedSimpArgs false
set_option linter.unnecessarySimpa false

def without (l : List Int) (x : Int) : List Int := l.filter (fun y => y != x)

set_option maxHeartbeats 800000 in
theorem ref06_without (w : World) (v : Value) (l : List Int) (S : List Nat) (x : Int) (h : IV w v l S) (hb : l.length ≤ 1000) :
    Calls Try.prog 44 #[v, .int .i64 x] w (NewInts (without l x) w) := by
  have hm := h.le
  unfold maxLen at hm
  obtain ⟨ao, cap, rfl⟩ := h.shape
  have H := Lib.hid h
  clear h
  go_enter Try.func44, Try.ntmps44
  go_wp2_with fail
  go_loopw [5, 7, 11] (fun v5 _ i wr => ∃ (k : Nat) (T : List Nat), k ≤ l.length ∧ i = .int .i64 k ∧ Keeps [] w wr ∧ IR wr v5 3 (without (l.take k) x) T ∧ ∀ y ∈ T, w.heap.size ≤ y) (fun _ _ i _ => l.length - (intOf i).toNat)
  case atStart => exact ⟨0, [w.heap.size], Nat.zero_le _, rfl, (Keeps.refl _ _).alloc _, by simpa [without] using IR.lit0 w 3, by simp⟩
  case round =>
    obtain ⟨k, T, hk, rfl, hke, hro, hT⟩ := hrel
    obtain ⟨lk, hlk⟩ : ∃ lk, without (l.take k) x = lk := ⟨_, rfl⟩
    rw [hlk] at hro
    obtain ⟨ao5, cap5, rfl⟩ := hro.shape
    have hlkl : lk.length ≤ 1000 := by
      rw [← hlk]; unfold without
      have h1 := List.length_filter_le (fun y => y != x) (l.take k)
      have h2 : (l.take k).length ≤ l.length := List.length_take_le' _ _
      omega
    have HKe := Lib.hid hke
    have HRo := Lib.hid hro
    have HT := Lib.hid hT
    have HLk := Lib.hid hlk
    clear hke hro hT hlk
    by_cases hlt : k < l.length
    · obtain ⟨g, off, rfl, rfl, hg, hc⟩ := (H.out.then HKe.out).cells (by omega)
      have c0 := hc k hlt
      have HS : Hid (without (l.take (k + 1)) x = lk ++ if l.getD k 0 != x then [l.getD k 0] else []) := Lib.hid (by
        rw [List.take_succ_eq_append_getElem hlt, without, List.filter_append]
        rw [show List.filter (fun y => y != x) (l.take k) = lk from HLk.out]
        rw [List.getD_eq_getElem?_getD, List.getElem?_eq_getElem hlt]
        simp [List.filter_cons])
      clear hc
      generalize l.getD k 0 = y at *
      cases hq : (y != x) with
      | true =>
        rw [hq, if_pos rfl] at HS
        go_wp2_with (at_builtin; go_must (refine wp_appn elemInt HRo.out (by omega) ?_))
        intro ao7 cap7 w7 T7 r7 k7 s7
        have HK7 := Lib.hid (HKe.out.trans k7 (fun x hx => .inr (HT.out x hx)))
        have HR7 : Hid (IR w7 (.slice ao7 (lk.length + 1) cap7) 3 (without (l.take (k + 1)) x) T7) := Lib.hid (by rw [HS.out]; exact r7)
        have HT7 : Hid (∀ x ∈ T7, w.heap.size ≤ x) := Lib.hid (fun x hx => by
          rcases s7 x hx with h | h
          · exact HT.out x h
          · have := HKe.out.size; omega)
        clear r7 k7 s7 c0
        go_wp2_with fail
        go_roundw
        case rel => exact ⟨k + 1, T7, by omega, by go_num, HK7.out, HR7.out, HT7.out⟩
        case measure => simp [intOf]; omega
      | false =>
        rw [hq, if_neg (by simp), List.append_nil] at HS
        go_wp2_with fail
        go_roundw
        case rel => exact ⟨k + 1, T, by omega, by go_num, HKe.out, by rw [HS.out]; exact HRo.out, HT.out⟩
        case measure => simp [intOf]; omega
    · obtain rfl : k = l.length := by omega
      go_wp2_with fail
      go_ret
      exact ⟨_, T, rfl, HKe.out, by have h1 := HRo.out.iv; have h2 := HLk.out; rw [List.take_length] at h2; rw [h2]; exact h1, HT.out⟩

namespace Qu
theorem push1 (n : Nat) (l : List Int) (x : Int) : (push n [l] 0 x).1 = [if (push n [l] 0 x).2 then l ++ [x] else l] := by
  unfold push
  have hr : row [l] 0 = l := by simp [row, line]
  rw [hr]
  split <;> simp
theorem drop1 (l : List Int) (x : Int) : drop [l] x = ([without l x], decide (x ∈ l)) := by
  unfold drop loc
  by_cases h : x ∈ l
  · simp [h, without]
  · simp [h, loc, without]
    exact (List.filter_eq_self.2 (fun y hy => by simp; exact fun e => h (e ▸ hy))).symm
theorem without_not (l : List Int) (x : Int) : x ∉ without l x := by simp [without]
theorem without_same {l : List Int} {x : Int} (h : x ∉ l) : without l x = l := List.filter_eq_self.2 (fun y hy => by simp; exact fun e => h (e ▸ hy))
theorem row1 (l : List Int) : row [l] 0 = l := by simp [row, line]
theorem first1 (h : Int) (t : List Int) : first [h :: t] 0 = (h, true) := by unfold first; rw [row1]; simp
theorem first0 : first [[]] 0 = (0, false) := rfl
theorem pop1 {n : Nat} {h : Int} {t : List Int} (v : Inv n [h :: t]) : pop [h :: t] 0 = [t] := by
  unfold pop
  rw [first1]
  simp only [if_true]
  rw [drop1]
  have ho := v.one h
  have hn : h ∉ t := fun hm => by
    have := List.count_pos_iff.2 hm
    simp at ho; omega
  simp only [without, List.filter_cons]
  simp
  exact fun a ha e => hn (e ▸ ha)
end Qu

theorem IV.of_flatq {w : World} {v : Value} {n : Nat} {xs : List Value} {S : List Nat} (hv : View w v 1 n xs S) (hx : ∀ k, k < n → ∀ (f : Nat) (q : Option IntKind), ([some .i64] : List (Option IntKind))[f]? = some q → ckOk q (xs.getD (k * 1 + f) undef)) :
    ∃ l : List Int, n = l.length ∧ IV w v l S := by
  have hl := hv.len
  refine ⟨xs.map num, by simp; omega, ?_⟩
  have e : xs = (xs.map num).map (Value.int .i64) := by
    apply List.ext_getElem (by simp)
    intro i h1 h2
    have hi : i < n := by omega
    have := (ck_int (hx i hi 0 _ rfl)).1
    rw [Nat.mul_one, Nat.add_zero, List.getD_eq_getElem?_getD, List.getElem?_eq_getElem h1] at this
    simpa using this
  unfold IV
  rw [← e]
  simp only [List.length_map]
  have : xs.length = n := by omega
  rw [this]; exact hv

def QR1 (w : World) (b : Nat) (S : List Nat) (v7 : Value) (k : Nat) (wr : World) : Prop :=
  ∃ l A, Qq wr (.pointer (some ⟨b, 0, none⟩)) 64 [l] S ∧ Fresh w wr S ∧ IR wr v7 3 l A ∧ (∀ x ∈ A, w.heap.size ≤ x) ∧ (∀ x ∈ S, x ∉ A) ∧ l.length ≤ k
def QR2 (w : World) (b : Nat) (S : List Nat) (v7 : Value) (wr : World) : Prop :=
  ∃ l A, Qq wr (.pointer (some ⟨b, 0, none⟩)) 64 [l] S ∧ Fresh w wr S ∧ IV wr v7 l A ∧ (∀ x ∈ S, x ∉ A)

set_option maxRecDepth 100000 in
set_option maxHeartbeats 3200000 in
theorem queueRows_walk (w : World) (v0 : Value) (n0 : Nat) (xs0 : List Value) (S0 : List Nat) (hv0 : View w v0 1 n0 xs0 S0) (hx0 : ∀ k, k < n0 → ∀ (f : Nat) (q : Option IntKind), ([some .i64] : List (Option IntKind))[f]? = some q → ckOk q (xs0.getD (k * 1 + f) undef))
    (v1 : Value) (n1 : Nat) (xs1 : List Value) (S1 : List Nat) (hv1 : View w v1 1 n1 xs1 S1) (hx1 : ∀ k, k < n1 → ∀ (f : Nat) (q : Option IntKind), ([some .i64] : List (Option IntKind))[f]? = some q → ckOk q (xs1.getD (k * 1 + f) undef)) :
    Calls Try.prog 8 #[v0, v1] w fun e w' => e = .returned (.bool true) ∧ Keeps [] w w' := by
  obtain ⟨ra, rfl, i0⟩ := IV.of_flatq hv0 hx0
  obtain ⟨rb, rfl, i1⟩ := IV.of_flatq hv1 hx1
  clear hv0 hv1 hx0 hx1
  have m0 := i0.le
  have m1 := i1.le
  unfold maxLen at m0 m1
  obtain ⟨ao0, cap0, rfl⟩ := i0.shape
  obtain ⟨ao1, cap1, rfl⟩ := i1.shape
  have I0 := Lib.hid i0
  have I1 := Lib.hid i1
  clear i0 i1
  cases hq1 : decide (100 < (ra.length : Int)) with
  | true =>
    go_enter Try.func8, Try.ntmps8
    go_wp2_with fail
    refine (queue_alive _).mono ?_
    rintro e w1 ⟨rfl, k1⟩
    have K1 := Lib.hid k1
    clear k1
    go_wp2_with fail
    refine (queue_new _ 64 1 (by omega) (by omega)).mono ?_
    rintro e w2 ⟨p, S, rfl, f2, h2⟩
    have F2 := Lib.hid f2
    clear f2 h2
    go_wp2_with fail
    go_ret
    exact ⟨rfl, K1.out.then F2.out.1⟩
  | false =>
    cases hq2 : decide (100 < (rb.length : Int)) with
    | true =>
      go_enter Try.func8, Try.ntmps8
      go_wp2_with fail
      refine (queue_alive _).mono ?_
      rintro e w1 ⟨rfl, k1⟩
      have K1 := Lib.hid k1
      clear k1
      go_wp2_with fail
      refine (queue_new _ 64 1 (by omega) (by omega)).mono ?_
      rintro e w2 ⟨p, S, rfl, f2, h2⟩
      have F2 := Lib.hid f2
      clear f2 h2
      go_wp2_with fail
      go_ret
      exact ⟨rfl, K1.out.then F2.out.1⟩
    | false =>
      have hra : ra.length ≤ 100 := by simp at hq1; omega
      have hrb : rb.length ≤ 100 := by simp at hq2; omega
      go_enter Try.func8, Try.ntmps8
      go_wp2_with fail
      refine (queue_alive _).mono ?_
      rintro e w1 ⟨rfl, k1⟩
      have K1 := Lib.hid k1
      clear k1
      go_wp2_with fail
      refine (queue_new _ 64 1 (by omega) (by omega)).mono ?_
      rintro e w2 ⟨p, S, rfl, f2, h2⟩
      obtain ⟨b, rfl⟩ := h2.shape
      have HB : Hid (QR1 w b S (.slice (some ⟨w2.heap.size, 0, none⟩) 0 0) 0 (w2.alloc (.cells #[] 3))) := Lib.hid (by
        have hlt := h2.lt
        have h1 := K1.out.size
        have h3 := f2.1.size
        refine ⟨[], [w2.heap.size], h2.then ((Keeps.refl [] w2).alloc _), ⟨(K1.out.then f2.1).alloc _, fun k hk => by have := f2.2 k hk; omega⟩, IR.lit0 w2 _, by simp; omega, fun x hx h => by have := hlt x hx; simp at h; omega, Nat.le_refl _⟩)
      clear f2 h2 K1
      go_wp2_with fail
      go_loopw [7, 9, 51] (fun v7 _ v51 wr => ∃ k : Nat, k ≤ ra.length ∧ v51 = .int .i64 k ∧ QR1 w b S v7 k wr) (fun _ _ v51 _ => ra.length - (intOf v51).toNat)
      case atStart => exact ⟨0, Nat.zero_le _, rfl, HB.out⟩
      case round =>
        obtain ⟨k, hk, rfl, l, A, hq, hf, hr, hA, hd, hl⟩ := hrel
        obtain ⟨ao7, cap7, rfl⟩ := hr.shape
        have HQ := Lib.hid hq
        have HFr := Lib.hid hf
        have HR := Lib.hid hr
        have HA := Lib.hid hA
        have HD := Lib.hid hd
        clear hq hf hr hA hd HB
        by_cases hlt : k < ra.length
        · obtain ⟨g, off, rfl, rfl, hg, hc⟩ := (I0.out.then HFr.out.1).cells (by omega)
          have c0 := hc k hlt
          clear hc
          generalize ra.getD k 0 = x at *
          go_wp2_with fail
          refine (queue_push _ _ _ _ _ 0 x HQ.out).mono ?_
          rintro e w3 ⟨rfl, k3, h3⟩
          rw [Qu.push1] at h3
          have HFr3 := Lib.hid (HFr.out.keeps k3)
          have HR3 := Lib.hid (HR.out.keep k3 (fun x hx hs => HD.out x hs hx))
          have HQ3 := Lib.hid h3
          clear k3 h3 c0
          cases hok : (Qu.push 64 [l] 0 x).2 with
          | true =>
            rw [hok, if_pos rfl] at HQ3
            go_wp2_with (at_builtin; go_must (refine wp_appn elemInt HR3.out (by omega) ?_))
            intro ao4 cap4 w4 A4 r4 k4 s4
            have HN : Hid (QR1 w b S (.slice ao4 (l.length + 1) cap4) (k + 1) w4) := Lib.hid (by
              refine ⟨l ++ [x], A4, HQ3.out.keep k4 HD.out, ⟨HFr3.out.1.trans k4 (fun y hy => .inr (HA.out y hy)), HFr3.out.2⟩, r4, ?_, ?_, by simp; omega⟩
              · intro y hy
                rcases s4 y hy with h | h
                · exact HA.out y h
                · have := HFr3.out.1.size; omega
              · intro y hy h4
                rcases s4 y h4 with h | h
                · exact HD.out y hy h
                · have := HQ3.out.lt y hy; omega)
            clear r4 k4 s4
            go_wp2_with fail
            go_roundw
            case rel => exact ⟨k + 1, by omega, by go_num, HN.out⟩
            case measure => simp [intOf]; omega
          | false =>
            rw [hok, if_neg (by simp)] at HQ3
            go_wp2_with fail
            go_roundw
            case rel => exact ⟨k + 1, by omega, by go_num, l, A, HQ3.out, HFr3.out, HR3.out, HA.out, HD.out, by omega⟩
            case measure => simp [intOf]; omega
        · obtain rfl : k = ra.length := by omega
          have HB2 : Hid (QR2 w b S (.slice ao7 l.length cap7) wr) := Lib.hid ⟨l, A, HQ.out, HFr.out, HR.out.iv, HD.out⟩
          obtain ⟨wo, rfl⟩ : ∃ wo : World, wo = wr := ⟨_, rfl⟩
          clear HQ HFr HR HA HD
          go_wp2_with fail
          go_loopw [7, 11, 65] (fun v7 _ v65 wr => ∃ k : Nat, k ≤ rb.length ∧ v65 = .int .i64 k ∧ QR2 w b S v7 wr) (fun _ _ v65 _ => rb.length - (intOf v65).toNat)
          case atStart => exact ⟨0, Nat.zero_le _, rfl, HB2.out⟩
          case round =>
            obtain ⟨k, hk2, rfl, l, A, hq, hf, hr, hd⟩ := hrel
            obtain ⟨ao7, cap7, rfl⟩ := hr.shape
            have HQ := Lib.hid hq
            have HFr := Lib.hid hf
            have HR := Lib.hid hr
            have HD := Lib.hid hd
            have hiv := hq.inv
            have hl64 : l.length ≤ 64 := by
              have := Qu.len_bound (l := l) (n := 64) (fun a => by have := hiv.one a; simpa using this) (fun a ha => hiv.bound a (by simpa using ha))
              omega
            clear hq hf hr hd HB2 hiv
            by_cases hlt2 : k < rb.length
            · obtain ⟨g, off, rfl, rfl, hg, hc⟩ := (I1.out.then HFr.out.1).cells (by omega)
              have c0 := hc k hlt2
              clear hc
              generalize rb.getD k 0 = x at *
              go_wp2_with fail
              refine (queue_drop _ _ _ _ _ x HQ.out).mono ?_
              rintro e w3 ⟨rfl, k3, h3⟩
              rw [Qu.drop1] at h3 ⊢
              have HFr3 := Lib.hid (HFr.out.keeps k3)
              have HR3 := Lib.hid (HR.out.keep k3 (fun x hx hs => HD.out x hs hx))
              have HQ3 := Lib.hid h3
              clear k3 h3 c0
              cases hok : decide (x ∈ l) with
              | true =>
                go_wp2_with fail
                refine (ref06_without _ _ _ _ x HR3.out (by omega)).mono ?_
                rintro e w4 ⟨v4, A4, rfl, k4, i4, s4⟩
                obtain ⟨ao4, cap4, rfl⟩ := i4.shape
                have HQ4 := Lib.hid (HQ3.out.then k4)
                have HFr4 := Lib.hid (HFr3.out.then k4)
                have HI4 := Lib.hid i4
                have HD4 : Hid (∀ y ∈ S, y ∉ A4) := Lib.hid (fun y hy h => by have := s4 y h; have := HQ3.out.lt y hy; omega)
                clear k4 i4 s4
                go_wp2_with fail
                refine (queue_drop _ _ _ _ _ x HQ4.out).mono ?_
                rintro e w5 ⟨rfl, k5, h5⟩
                rw [Qu.drop1, Qu.without_same (Qu.without_not l x)] at h5
                rw [Qu.drop1, decide_eq_false (Qu.without_not l x)]
                have HQ5 := Lib.hid h5
                have HFr5 := Lib.hid (HFr4.out.keeps k5)
                have HI5 := Lib.hid (HI4.out.keep k5 (fun x hx hs => HD4.out x hs hx))
                clear k5 h5
                go_wp2_with fail
                refine (queue_len _ _ _ _ _ 0 HQ5.out).mono ?_
                rintro e w6 ⟨rfl, rfl⟩
                rw [Qu.row1]
                go_wp2_with fail
                go_roundw
                case rel => exact ⟨k + 1, by omega, by go_num, _, A4, HQ5.out, HFr5.out, HI5.out, HD4.out⟩
                case measure => simp [intOf]; omega
              | false =>
                have hxl : Hid (without l x = l) := Lib.hid (Qu.without_same (by simpa using hok))
                have hxd : Hid (decide (x ∈ l) = false) := Lib.hid hok
                rw [hxl.out] at HQ3
                go_wp2_with fail
                refine (queue_drop _ _ _ _ _ x HQ3.out).mono ?_
                rintro e w5 ⟨rfl, k5, h5⟩
                rw [Qu.drop1, hxl.out] at h5
                rw [Qu.drop1, hxd.out]
                have HQ5 := Lib.hid h5
                have HFr5 := Lib.hid (HFr3.out.keeps k5)
                have HI5 := Lib.hid (HR3.out.keep k5 (fun x hx hs => HD.out x hs hx))
                clear k5 h5
                go_wp2_with fail
                refine (queue_len _ _ _ _ _ 0 HQ5.out).mono ?_
                rintro e w6 ⟨rfl, rfl⟩
                rw [Qu.row1]
                go_wp2_with fail
                go_roundw
                case rel => exact ⟨k + 1, by omega, by go_num, _, A, HQ5.out, HFr5.out, HI5.out, HD.out⟩
                case measure => simp [intOf]; omega
            · obtain rfl : k = rb.length := by omega
              obtain ⟨wp, rfl⟩ : ∃ wo : World, wo = wr := ⟨_, rfl⟩
              go_wp2_with fail
              go_loopw [13, 14, 15, 88] (fun _ _ _ v88 wr => ∃ i : Nat, i ≤ l.length ∧ v88 = .int .i64 i ∧ Qq wr (.pointer (some ⟨b, 0, none⟩)) 64 [l.drop i] S ∧ Fresh w wr S ∧ IV wr (.slice ao7 l.length cap7) l A) (fun _ _ _ v88 _ => l.length - (intOf v88).toNat)
              case atStart => exact ⟨0, Nat.zero_le _, rfl, HQ.out, HFr.out, HR.out⟩
              case round =>
                obtain ⟨i, hi, rfl, hq, hf, hr⟩ := hrel
                have HQ4 := Lib.hid hq
                have HFr4 := Lib.hid hf
                have HR4 := Lib.hid hr
                clear hq hf hr
                by_cases hlt3 : i < l.length
                · obtain ⟨g, off, rfl, rfl, hg, hc⟩ := HR4.out.cells (by omega)
                  have c0 := hc i hlt3
                  have ed : l.drop i = l.getD i 0 :: l.drop (i + 1) := by
                    rw [List.drop_eq_getElem_cons hlt3, List.getD_eq_getElem?_getD, List.getElem?_eq_getElem hlt3]; rfl
                  rw [ed] at HQ4
                  have hp1 := Lib.hid (Qu.pop1 HQ4.out.inv)
                  clear hc ed
                  generalize l.getD i 0 = x at *
                  go_wp2_with fail
                  refine (queue_pop _ _ _ _ _ 0 HQ4.out).mono ?_
                  rintro e w5 ⟨rfl, k5, h5⟩
                  rw [hp1.out] at h5
                  rw [Qu.first1]
                  have HQ5 := Lib.hid h5
                  have HFr5 := Lib.hid (HFr4.out.keeps k5)
                  have HR5 := Lib.hid (HR4.out.keep k5 (fun x hx hs => HD.out x hs hx))
                  clear k5 h5 c0
                  go_wp2_with fail
                  go_roundw
                  case rel => exact ⟨i + 1, by omega, by go_num, HQ5.out, HFr5.out, HR5.out⟩
                  case measure => simp [intOf]; omega
                · obtain rfl : i = l.length := by omega
                  rw [List.drop_length] at HQ4
                  go_wp2_with fail
                  refine (queue_pop _ _ _ _ _ 0 HQ4.out).mono ?_
                  rintro e w5 ⟨rfl, k5, h5⟩
                  rw [Qu.first0]
                  have HFr5 := Lib.hid (HFr4.out.keeps k5)
                  clear k5 h5
                  go_wp2_with fail
                  go_ret
                  exact ⟨rfl, HFr5.out.1⟩
end Go.Proofs.Ytonkbenmafapgaa
