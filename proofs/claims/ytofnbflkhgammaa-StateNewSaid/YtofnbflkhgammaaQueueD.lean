/-
  Contracts of package queue: Pop, List, New.
  Conditions: Qu.Inv.
-/
import Derived.Test.YtofnbflkhgammaaQueueC
import Derived.Test.YtofnbflkhgammaaPoolF
import Derived.Deep.OwnRows
namespace Go.Proofs.Ytofnbflkhgammaa
open Go.RowKit
set_option linter.unusedVariables false
set_option linter.unusedSimpArgs false
set_option linter.unnecessarySimpa false

namespace Qu
def pop (R : List (List Int)) (k : Int) : List (List Int) := if (first R k).2 then (drop R (first R k).1).1 else R
theorem pop_inv {n : Nat} {R : List (List Int)} (v : Inv n R) (k : Int) : Inv n (pop R k) := by
  unfold pop; split
  · exact drop_inv' v _
  · exact v
theorem nxt_get {l : List Int} (h : ∀ a, l.count a ≤ 1) {i : Nat} (hi : i < l.length) : nxt l (l.getD i (-1)) = l.getD (i + 1) (-1) := by
  obtain ⟨x, hx⟩ : ∃ x, l[i] = x := ⟨_, rfl⟩
  have e0 : l.getD i (-1) = x := by rw [List.getD_eq_getElem?_getD, List.getElem?_eq_getElem hi, ← hx]; rfl
  have e1 : l = l.take i ++ x :: l.drop (i + 1) := by rw [← hx, ← List.drop_eq_getElem_cons hi, List.take_append_drop]
  have e2 : l.getD (i + 1) (-1) = (l.drop (i + 1)).headD (-1) := by rw [List.getD_eq_getElem?_getD, List.headD_eq_head?_getD, List.head?_drop]
  have h3 : l.count x = (l.take i).count x + (x :: l.drop (i + 1)).count x := by
    rw [← List.count_append, ← e1]
  have hn : x ∉ l.take i := fun hm => by
    have h1 := List.count_pos_iff.2 hm
    have h2 := h x
    rw [List.count_cons_self] at h3
    omega
  rw [e0, e2]
  generalize l.take i = a at *
  generalize l.drop (i + 1) = b at *
  rw [e1, nxt_right hn, nxt, if_pos rfl]
end Qu

def PopPost (R : List (List Int)) (k : Int) (p : Value) (n : Nat) (S : List Nat) (w : World) (e : Ending) (w' : World) : Prop :=
  e = .returned (.tuple #[.int .i64 (Qu.first R k).1, .bool (Qu.first R k).2]) ∧ Keeps S w w' ∧ Qq w' p n (Qu.pop R k) S

set_option maxHeartbeats 1600000 in
theorem queue_list (w : World) (p : Value) (n : Nat) (R : List (List Int)) (S : List Nat) (k : Int) (h : Qq w p n R S) :
    Calls Try.prog 33 #[p, .int .i64 k] w (NewInts (Qu.row R k) w) := by
  obtain ⟨b, rfl⟩ := h.shape
  have H := Lib.hid h
  cases hk : Qu.line R k with
  | false =>
    have HF : Hid (Qu.row R k = []) := Lib.hid (by simp [Qu.row, hk])
    clear h
    go_enter Try.func33, Try.ntmps33
    go_wp2_with fail
    refine (queue_line _ _ _ _ _ _ H.out).mono ?_
    rintro e w1 ⟨rfl, rfl⟩
    rw [hk]
    go_wp2_with fail
    go_ret
    exact ⟨_, [], rfl, Keeps.refl _ _, by rw [HF.out]; exact IV.nil _, by simp⟩
  | true =>
    obtain ⟨j, rfl, hj⟩ := Qu.line_nat hk
    obtain ⟨g2, o2, c2, c1, d0, d2⟩ := h.lineAt hj
    have hv := h.inv
    have hr := hv.r64
    have hn64 := hv.n64
    have HF : Hid (Qu.row R j = R.getD j []) := Lib.hid (Qu.row_nat hj)
    have hone := fun a => Nat.le_trans (Qu.count_le hj (R := R) a) (hv.one a)
    have hbd := fun z hz => hv.bound z (Qu.mem_flat hj (y := z) hz)
    have htc := fun z hz => Qu.tc_of hv hj (y := z) hz
    have hlen := Qu.len_bound hone hbd
    obtain ⟨l, hl⟩ : ∃ l, R.getD j [] = l := ⟨_, rfl⟩
    rw [hl] at hone hbd htc hlen d0 d2
    rw [hl] at HF
    have HO := Lib.hid hone
    have HBD := Lib.hid hbd
    have HTC := Lib.hid htc
    have hl64 : l.length ≤ 64 := by omega
    have hbl : b < w.heap.size := block_lt_of_cell c1
    have HH : Hid (l.headD (-1) = l.getD 0 (-1)) := Lib.hid (by cases l <;> rfl)
    rw [HH.out] at d0
    clear h hv hone hbd htc hl hlen
    go_enter Try.func33, Try.ntmps33
    go_wp2_with fail
    refine (queue_line _ _ _ _ _ _ H.out).mono ?_
    rintro e w1 ⟨rfl, rfl⟩
    rw [hk]
    obtain ⟨x0, hx0⟩ : ∃ x, l.getD 0 (-1) = x := ⟨_, rfl⟩
    have HX0 := Lib.hid hx0
    rw [hx0] at d0
    clear hx0
    go_wp2_with (at_make; go_must (refine wp_make0 elemInt l.length (by omega) ?_ (hC := rfl)); intro w1 r1 k1; have c1' := k1.cell c1 (by simp); have d0' := k1.cell d0 (by simp))
    have HK1 := Lib.hid k1
    have HR1 : Hid (IR w1 (.slice (some ⟨w.heap.size, 0, none⟩) 0 l.length) 3 (l.take 0) [w.heap.size]) := Lib.hid (by simpa [IR] using r1)
    clear r1 k1 c1' d0'
    go_loopw [5, 6] (fun v5 v6 wr => ∃ (i : Nat) (T : List Nat), i ≤ l.length ∧ v6 = .int .i64 (l.getD i (-1)) ∧ Keeps [] w wr ∧ IR wr v5 3 (l.take i) T ∧ ∀ x ∈ T, w.heap.size ≤ x) (fun v5 _ _ => l.length - slenv v5)
    case atStart => exact ⟨0, [w.heap.size], Nat.zero_le _, by rw [HX0.out], HK1.out, HR1.out, by simp⟩
    case round =>
      obtain ⟨i, T, hi, rfl, hke, hro, hT⟩ := hrel
      obtain ⟨li, hli⟩ : ∃ li, l.take i = li := ⟨_, rfl⟩
      have hlil : li.length = i := by rw [← hli]; simp; omega
      rw [hli] at hro
      obtain ⟨ao, cap, rfl⟩ := hro.shape
      have HKe := Lib.hid hke
      have HRo := Lib.hid hro
      have HT := Lib.hid hT
      have HLi := Lib.hid hli
      have HLl := Lib.hid hlil
      have hli64 : li.length ≤ 64 := by omega
      clear hro hT hli
      by_cases hlt : i < l.length
      · have hm : l.getD i (-1) ∈ l := by rw [List.getD_eq_getElem?_getD, List.getElem?_eq_getElem hlt]; simp
        have hb := HBD.out _ hm
        obtain ⟨y, hy⟩ := Int.eq_ofNat_of_zero_le hb.1
        have hyn : y < n := by omega
        obtain ⟨g1, o1, c1, e0, hg1, _, e2⟩ := (H.out.then HKe.out).thingAt hyn
        have hnx := Qu.nxt_get HO.out hlt
        have htc := HTC.out _ hm
        rw [hy] at htc hnx ⊢
        rw [htc, hnx] at e2
        have HS : Hid (l.take (i + 1) = li ++ [(y : Int)]) := Lib.hid (by
          rw [List.take_succ_eq_append_getElem hlt, HLi.out, ← hy, List.getD_eq_getElem?_getD, List.getElem?_eq_getElem hlt]; rfl)
        obtain ⟨nx, hnx2⟩ : ∃ nx, l.getD (i + 1) (-1) = nx := ⟨_, rfl⟩
        have HNX := Lib.hid hnx2
        simp only [hnx2] at e2
        have hyI : (y : Int) < (n : Int) := by omega
        have hy1 : ((y : Int) != -1) = true := by simp
        have hslt : li.length < l.length := by rw [hlil]; exact hlt
        clear hm hb hy hnx htc hnx2 hke hlil
        go_wp2_with (at_builtin; go_must (refine wp_appn elemInt HRo.out (by omega) ?_))
        intro ao7 cap7 w7 T7 r7 k7 s7
        have f0 : w7.cell? ⟨b, 0, none⟩ = some (.slice (some ⟨g1, o1, none⟩) n c1) := k7.cell e0 (fun hm => by have := HT.out b hm; omega)
        have f2 : w7.cell? ⟨g1, o1 + y * 3 + 1, none⟩ = some (.int .i64 nx) := k7.cell e2 (fun hm => by have := HT.out g1 hm; have := H.out.lt g1 hg1; omega)
        have HK7 := Lib.hid (HKe.out.trans k7 (fun x hx => .inr (HT.out x hx)))
        have HR7 : Hid (IR w7 (.slice ao7 (li.length + 1) cap7) 3 (l.take (i + 1)) T7) := Lib.hid (by rw [HS.out]; exact r7)
        have HT7 : Hid (∀ x ∈ T7, w.heap.size ≤ x) := Lib.hid (fun x hx => by
          rcases s7 x hx with h | h
          · exact HT.out x h
          · have := HKe.out.size; omega)
        clear r7 k7 s7 e0 e2
        go_wp2_with fail
        go_roundw
        case rel => exact ⟨i + 1, T7, by omega, by rw [HNX.out], HK7.out, HR7.out, HT7.out⟩
        case measure => simp [slenv]; omega
      · obtain rfl : i = l.length := by omega
        have hx1 : l.getD l.length (-1) = -1 := by simp
        rw [hx1]
        have HIV : Hid (IV wr (.slice ao li.length cap) l T) := Lib.hid (by have h1 := HRo.out.iv; have h2 := HLi.out; rw [List.take_length] at h2; rw [← h2] at h1 ⊢; exact h1)
        clear hx1
        go_wp2_with fail
        go_ret
        exact ⟨_, T, rfl, HKe.out, by rw [HF.out]; exact HIV.out, HT.out⟩
end Go.Proofs.Ytofnbflkhgammaa
