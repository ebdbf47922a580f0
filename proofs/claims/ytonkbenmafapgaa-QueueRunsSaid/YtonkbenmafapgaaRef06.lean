/-
  Contracts of handoffref06: In, First, with, Push, Drop, Pop.
  Conditions: Qu.Inv.
-/
import Derived.Test.YtonkbenmafapgaaQueueRows
import Derived.Test.YtonkbenmafapgaaGen
namespace Go.Proofs.Ytonkbenmafapgaa
open Go.RowKit
set_option linter.unusedVariables false
set_option linter.unusedSimpArgs false
set_option linter.unnecessarySimpa false
attribute [local go_sem ↓] Go.wp_at_zero Go.wp_at_succ

theorem elemIntsQ : Elem Try.prog 36 27 1 24 (.slice none 0 0) := ⟨Try.underlying36, by kernel_rfl, rfl, by decide, by decide⟩
theorem Blk.cells2 {w : World} {g : Nat} {a b : Value} {t : TypeId} (h : Blk w g [a, b] t) : (w.cell? ⟨g, 0, none⟩ = some a ∧ w.cell? ⟨g, 1, none⟩ = some b) ∧ (w.frozen? ⟨g, 0, none⟩ = false ∧ w.frozen? ⟨g, 1, none⟩ = false) :=
  ⟨⟨h.cell 0, h.cell 1⟩, ⟨h.free 0, h.free 1⟩⟩
theorem keeps2 (W : World) (b : Nat) (v0 v1 : Value) : Keeps [b] W ((W.setCell ⟨b, 0, none⟩ v0).setCell ⟨b, 1, none⟩ v1) := ((Keeps.refl _ W).setCell (by simp) _).setCell (by simp) _
theorem take_memq (l : List Int) (k : Nat) (h : k < l.length) : l.take (k + 1) = l.take k ++ [l.getD k 0] := by
  rw [List.take_succ_eq_append_getElem h, List.getD_eq_getElem?_getD, List.getElem?_eq_getElem h]; rfl

def QP (w : World) (vr : Value) (R : List (List Int)) (S : List Nat) : Prop := GV intsE 1 w vr R S

set_option maxHeartbeats 1600000 in
theorem ref06_in (w : World) (nn : Int) (n : Nat) (vr : Value) (R : List (List Int)) (S : List Nat) (x : Int) (h : QP w vr R S) (v : Qu.Inv n R) :
    Calls Try.prog 42 #[.agg #[.int .i64 nn, vr], .int .i64 x] w fun e w' => e = .returned (.tuple #[.int .i64 (Qu.inn R x).1, .bool (Qu.inn R x).2]) ∧ Keeps [] w w' := by
  have H := Lib.hid h
  have HV := Lib.hid v
  have hr64 := v.r64
  obtain ⟨ao, cap, rfl⟩ := GV.shape h
  clear h v
  go_enter Try.func42, Try.ntmps42
  go_wp2_with fail
  go_loopw [6, 7, 9, 13] (fun _ _ _ v13 wr => ∃ k : Nat, k ≤ R.length ∧ v13 = .int .i64 k ∧ Keeps [] w wr ∧ x ∉ (R.take k).flatten) (fun _ _ _ v13 _ => R.length - (intOf v13).toNat)
  case atStart => exact ⟨0, Nat.zero_le _, rfl, (Keeps.refl _ _).alloc _, by simp⟩
  case round =>
    obtain ⟨k, hk, rfl, hke, hn⟩ := hrel
    have HKe := Lib.hid hke
    have HN := Lib.hid hn
    clear hke hn
    by_cases hlt : k < R.length
    · obtain ⟨g, off, cs, U, rfl, hgS, hg, hcs, hcell, ⟨vk, rfl, hvk⟩, hUS⟩ := (GV.then intsE_kept H.out HKe.out).get (List.getElem?_eq_getElem hlt)
      have c0 : wr.cell? ⟨g, off + k, none⟩ = some vk := by have := hcell 0 (by omega); rwa [Nat.mul_one, Nat.add_zero] at this
      obtain ⟨l, hl⟩ : ∃ l, R[k] = l := ⟨_, rfl⟩
      rw [hl] at hvk
      have hgd : R.getD k [] = l := by rw [List.getD_eq_getElem?_getD, List.getElem?_eq_getElem hlt]; exact hl
      obtain ⟨aok, capk, rfl⟩ := hvk.shape
      have hml := hvk.le
      unfold maxLen at hml
      have HVk := Lib.hid hvk
      have HGd := Lib.hid hgd
      have HTk : Hid ((R.take (k + 1)).flatten = (R.take k).flatten ++ l) := Lib.hid (by rw [List.take_succ_eq_append_getElem hlt, List.flatten_append, hl]; simp)
      obtain ⟨wo, rfl⟩ : ∃ wo : World, wo = wr := ⟨_, rfl⟩
      clear hcs hcell hvk hl hgd
      go_wp2_with fail
      go_loopw [9, 20] (fun _ v20 wr => ∃ j : Nat, j ≤ l.length ∧ v20 = .int .i64 j ∧ wr = wo ∧ x ∉ l.take j) (fun _ v20 _ => l.length - (intOf v20).toNat)
      case atStart => exact ⟨0, Nat.zero_le _, rfl, rfl, by simp⟩
      case round =>
        obtain ⟨j, hj, rfl, rfl, hnj⟩ := hrel
        have HNj := Lib.hid hnj
        clear hnj
        by_cases hlj : j < l.length
        · obtain ⟨g2, off2, rfl, rfl, hg2, hc2⟩ := HVk.out.cells (by omega)
          have d0 := hc2 j hlj
          have HT := Lib.hid (take_memq l j hlj)
          have HM : Hid (l.getD j 0 ∈ l) := Lib.hid (by rw [List.getD_eq_getElem?_getD, List.getElem?_eq_getElem hlj]; simp)
          clear hc2
          generalize l.getD j 0 = y at *
          cases hq : (y == x) with
          | true =>
            have HR : Hid (Qu.inn R x = ((k : Int), true)) := Lib.hid (by
              have hyx : y = x := by simpa using hq
              unfold Qu.inn
              rw [Qu.loc_uniq (HV.out.one x) hlt (by rw [HGd.out, ← hyx]; exact HM.out)])
            go_wp2_with fail
            go_ret2
            exact ⟨by rw [HR.out]; rfl, HKe.out⟩
          | false =>
            have HN2 : Hid (x ∉ l.take (j + 1)) := Lib.hid (by
              rw [HT.out]; simp only [List.mem_append, List.mem_singleton, not_or]
              exact ⟨HNj.out, fun e => by rw [e] at hq; simp at hq⟩)
            go_wp2_with fail
            go_roundw
            case rel => exact ⟨j + 1, by omega, by go_num, by trivial, HN2.out⟩
            case measure => simp [intOf]; omega
        · obtain rfl : j = l.length := by omega
          have HN2 : Hid (x ∉ (R.take (k + 1)).flatten) := Lib.hid (by
            rw [HTk.out, List.mem_append, not_or]
            exact ⟨HN.out, by have := HNj.out; rwa [List.take_length] at this⟩)
          go_wp2_with fail
          go_roundw
          case rel => exact ⟨k + 1, by omega, by go_num, HKe.out, HN2.out⟩
          case measure => simp [intOf]; omega
    · obtain rfl : k = R.length := by omega
      have HR : Hid (Qu.inn R x = (0, false)) := Lib.hid (by
        have := HN.out
        rw [List.take_length] at this
        unfold Qu.inn
        rw [Qu.loc_none.2 this])
      go_wp2_with fail
      go_ret2
      exact ⟨by rw [HR.out]; rfl, HKe.out⟩

theorem ref06_first (w : World) (nn : Int) (vr : Value) (R : List (List Int)) (S : List Nat) (k : Int) (h : QP w vr R S) (hr64 : R.length ≤ 1000) :
    Calls Try.prog 40 #[.agg #[.int .i64 nn, vr], .int .i64 k] w fun e w' => e = .returned (.tuple #[.int .i64 (Qu.first R k).1, .bool (Qu.first R k).2]) ∧ Keeps [] w w' := by
  have H := Lib.hid h
  obtain ⟨ao, cap, rfl⟩ := GV.shape h
  cases hk : Qu.line R k with
  | false =>
    have HF : Hid (Qu.first R k = (0, false)) := Lib.hid (by simp [Qu.first, Qu.row, hk])
    have hcase : k < 0 ∨ (0 ≤ k ∧ (R.length : Int) ≤ k) := by
      simp [Qu.line] at hk; omega
    clear h hk
    rcases hcase with h1 | ⟨h1, h2⟩
    all_goals go_enter Try.func40, Try.ntmps40
    all_goals go_wp2_with fail
    all_goals go_ret2
    all_goals exact ⟨by rw [HF.out]; rfl, (Keeps.refl _ _).alloc _⟩
  | true =>
    obtain ⟨j, rfl, hj⟩ := Qu.line_nat hk
    obtain ⟨g, off, cs, U, rfl, hgS, hg, hcs, hcell, ⟨vk, rfl, hvk⟩, hUS⟩ := GV.get h (List.getElem?_eq_getElem hj)
    have c0 : w.cell? ⟨g, off + j, none⟩ = some vk := by have := hcell 0 (by omega); rwa [Nat.mul_one, Nat.add_zero] at this
    have hgd : Qu.row R j = R[j] := by rw [Qu.row_nat hj, List.getD_eq_getElem?_getD, List.getElem?_eq_getElem hj]; rfl
    obtain ⟨l, hl⟩ : ∃ l, R[j] = l := ⟨_, rfl⟩
    rw [hl] at hvk hgd
    obtain ⟨aok, capk, rfl⟩ := hvk.shape
    have hml := hvk.le
    unfold maxLen at hml
    have hjI : (j : Int) < (R.length : Int) := by omega
    have c0a : (w.alloc (.cells #[.int .i64 nn, .slice (some ⟨g, off, none⟩) R.length cap] 60)).cell? ⟨g, off + j, none⟩ = some (.slice aok l.length capk) := (World.cell?_alloc_past _ _ _ hg).trans c0
    cases hq : ((l.length : Int) == 0) with
    | true =>
      have HF : Hid (Qu.first R j = (0, false)) := Lib.hid (by unfold Qu.first; rw [hgd, if_pos (by simpa using hq)])
      clear h hcs hcell hvk hgd hl
      go_enter Try.func40, Try.ntmps40
      go_wp2_with fail
      go_ret2
      exact ⟨by rw [HF.out]; rfl, (Keeps.refl _ _).alloc _⟩
    | false =>
      have hl0 : 0 < l.length := by
        rcases Nat.eq_zero_or_pos l.length with h | h
        · rw [h] at hq; simp at hq
        · exact h
      have HF : Hid (Qu.first R j = (l.getD 0 0, true)) := Lib.hid (by
        unfold Qu.first
        rw [hgd, if_neg (by intro e; rw [e] at hl0; simp at hl0)]
        cases l with
        | nil => simp at hl0
        | cons a r => rfl)
      obtain ⟨g2, off2, rfl, rfl, hg2, hc2⟩ := hvk.cells hl0
      have d0 := hc2 0 hl0
      rw [Nat.add_zero] at d0
      have d0a : (w.alloc (.cells #[.int .i64 nn, .slice (some ⟨g, off, none⟩) R.length cap] 60)).cell? ⟨g2, off2, none⟩ = some (.int .i64 (l.getD 0 0)) := (World.cell?_alloc_past _ _ _ hg2).trans d0
      clear h hcs hcell hvk hgd hl hc2
      generalize l.getD 0 0 = y at *
      go_enter Try.func40, Try.ntmps40
      go_wp2_with fail
      go_ret2
      exact ⟨by rw [HF.out]; rfl, (Keeps.refl _ _).alloc _⟩

def QWithPost (nn : Int) (R : List (List Int)) (S U : List Nat) (w : World) (e : Ending) (w' : World) : Prop :=
  ∃ vr S', e = .returned (.agg #[.int .i64 nn, vr]) ∧ Keeps [] w w' ∧ QP w' vr R S' ∧ ∀ x ∈ S', x ∈ S ∨ x ∈ U ∨ w.heap.size ≤ x
theorem ne_of_lt3q {y n : Nat} (h : y < n) (hT : y ∈ [n + 1 + 1]) : False := by simp at hT; omega

set_option maxHeartbeats 1600000 in
theorem ref06_with (w : World) (nn : Int) (vr vl : Value) (R : List (List Int)) (l : List Int) (S U : List Nat) (n : Nat) (h : QP w vr R S) (hn : n < R.length) (hl : IV w vl l U) (hC : R.length ≤ 1000) :
    Calls Try.prog 69 #[.agg #[.int .i64 nn, vr], .int .i64 n, vl] w (QWithPost nn (R.set n l) S U w) := by
  have H : Hid (GV intsE 1 w vr R S) := Lib.hid h
  obtain ⟨aoc, capc, rfl⟩ := GV.shape h
  obtain ⟨aol, capl, rfl⟩ := hl.shape
  have HL := Lib.hid hl
  have HLS := Lib.hid H.out.lt
  have hnI : (n : Int) < (R.length : Int) := by omega
  clear h hl
  go_enter Try.func69, Try.ntmps69
  go_wp2_with (at_builtin; go_must (refine wp_gapps elemIntsQ intsE_kept (GR.lit intsE 1 ((w.alloc _).alloc _) 27 (w.heap.size + 1 + 1) (by simp)) (GV.then intsE_kept H.out ((((Keeps.refl [] w).alloc _).alloc _).alloc _)) (fun y hy hT => ne_of_lt3q (HLS.out y hy) hT) (by rw [List.length_nil]; omega) ?_))
  intro ao4 cap4 w4 T4 r4 k4 s4
  have hb1 := (((blk_newq w [.int .i64 nn, .slice aoc R.length capc] 60 _ rfl).alloc (.cells #[.int .i64 0, .slice none 0 0] 60)).alloc (.cells #[] 27)).keep k4 (by simp; try omega)
  have hb2 := ((blk_newq (w.alloc (.cells #[.int .i64 nn, .slice aoc R.length capc] 60)) [.int .i64 0, .slice none 0 0] 60 _ rfl).alloc (.cells #[] 27)).keep k4 (by simp; try omega)
  have KW : Hid (Keeps [] w w4) := Lib.hid (((((Keeps.refl [] w).alloc _).alloc _).alloc _).trans k4 (fun x hx => .inr (by simp at hx; omega)))
  have hT4 : ∀ x ∈ T4, w.heap.size + 2 ≤ x := fun x hx => by
    rcases s4 x hx with h | h <;> omega
  have r4' : GR intsE 1 w4 (.slice ao4 R.length cap4) 27 R T4 S := by simpa using r4
  obtain ⟨g4, off4, rfl, rfl, hg4⟩ := r4'.addr (by omega)
  have hg4' : w.heap.size + 2 ≤ g4 := hT4 g4 (by simp)
  obtain ⟨q1, q2, q3, y, q4⟩ := r4'.stored intsE_kept n hn (U := U) ⟨_, rfl, HL.out.then KW.out⟩ (fun z hz hT => by
    have h1 := HL.out.lt z hz
    simp at hT
    omega) rfl
  have Q1 := Lib.hid q1
  have Q2 := Lib.hid q2
  simp only [World.size_alloc] at hb2
  obtain ⟨⟨a0, a1⟩, f0, f1⟩ := hb1.cells2
  obtain ⟨⟨b0, b1⟩, e0, e1⟩ := hb2.cells2
  have n1 : w.heap.size ≠ g4 := by omega
  have n2 : w.heap.size + 1 ≠ g4 := by omega
  clear r4 k4 s4 r4' q1 q2 hb1 hb2 hT4
  go_wp2_with fail
  refine bodyPost_ret (v := .agg #[.int .i64 nn, .slice (some ⟨g4, off4, none⟩) R.length cap4]) (by simp [results, Try.results69, go_sem, b0, b1, n2]) rfl ?_
  refine ⟨_, [g4] ++ (S ++ U), rfl, ?_, Q1.out.gv.keep intsE_kept (keeps2 _ _ _ _) ?_, ?_⟩
  · exact (KW.out.trans Q2.out (fun x hx => .inr (by simp at hx; omega))).trans (keeps2 _ _ _ _) (fun x hx => .inr (by simp at hx; omega))
  · intro x hx hx2
    have h1 := HLS.out x
    have h4 := HL.out.lt x
    simp at hx hx2
    rcases hx with h | h | h
    · omega
    · have := h1 h; omega
    · have := h4 h; omega
  · intro x hx
    simp at hx
    rcases hx with h | h | h
    · exact .inr (.inr (by omega))
    · exact .inl h
    · exact .inr (.inl h)
end Go.Proofs.Ytonkbenmafapgaa
