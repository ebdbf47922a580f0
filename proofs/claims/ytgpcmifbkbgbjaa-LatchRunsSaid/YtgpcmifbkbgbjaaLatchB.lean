/-
  Contracts of package latch, the second part: New, Held.
  Conditions: none.
-/
import Derived.Test.YtgpcmifbkbgbjaaLatch
namespace Go.Proofs.Ytgpcmifbkbgbjaa
open Go.RowKit
set_option linter.unusedVariables false
set_option linter.unusedSimpArgs false
set_option linter.unnecessarySimpa false

namespace Lt
theorem heldFrom_append (who : Int) : ∀ (l : List Int) (k : Nat) (o : Int), heldFrom who k (l ++ [o]) = heldFrom who k l ++ (if 0 ≤ who ∧ o = who then [((k + l.length : Nat) : Int)] else [])
  | [], k, o => by simp [heldFrom]
  | x :: r, k, o => by
    simp only [List.cons_append, heldFrom, heldFrom_append who r (k + 1) o, List.append_assoc, List.length_cons]
    rw [show k + 1 + r.length = k + (r.length + 1) by omega]
theorem heldFrom_len (who : Int) : ∀ (l : List Int) (k : Nat), (heldFrom who k l).length ≤ l.length
  | [], k => by simp [heldFrom]
  | x :: r, k => by
    have := heldFrom_len who r (k + 1)
    simp only [heldFrom, List.length_append, List.length_cons]
    split <;> simp <;> omega
theorem held_take (l : List Int) (who : Int) (k : Nat) (h : k < l.length) : held (l.take (k + 1)) who = held (l.take k) who ++ (if 0 ≤ who ∧ l.getD k 0 = who then [(k : Int)] else []) := by
  rw [List.take_succ_eq_append_getElem h]
  unfold held
  rw [heldFrom_append]
  have e : (0 + (l.take k).length : Nat) = k := by simp; omega
  rw [e]
  simp [List.getD, h]
end Lt

def HeldPost (l : List Int) (who : Int) (w : World) (e : Ending) (w' : World) : Prop :=
  ∃ v S, e = .returned v ∧ Keeps [] w w' ∧ View w' v 1 (Lt.held l who).length ((Lt.held l who).map (Value.int .i64)) S ∧ ∀ k ∈ S, w.heap.size ≤ k

set_option maxHeartbeats 800000 in
theorem latch_held (w : World) (p : Value) (l : List Int) (S : List Nat) (who : Int) (h : Lat w p l S) (hb47 : l.length * 8 ≤ 140737488355328) :
    Calls Try.prog 15 #[p, .int .i64 who] w (HeldPost l who w) := by
  obtain ⟨b, v, U, rfl, hb, hr, hd, rfl⟩ := h
  obtain ⟨ao, cap, rfl⟩ := hr.shape
  have c0 : w.cell? ⟨b, 0, none⟩ = some (.slice ao l.length cap) := hb.cell 0
  have hm : l.length ≤ 17592186044416 := by omega
  have Hr := Lib.hid hr
  have H47 := Lib.hid hb47
  clear hb hr hd hb47
  go_enter Try.func15, Try.ntmps15
  go_wp2
  go_loopw [5, 13] (fun v i wr => ∃ (k : Nat) (T : List Nat), k ≤ l.length ∧ i = .int .i64 k ∧ Keeps [] w wr ∧ Row wr v 3 1 (Lt.held (l.take k) who).length ((Lt.held (l.take k) who).map (Value.int .i64)) T ∧ ∀ x ∈ T, w.heap.size ≤ x)
    (fun _ i _ => l.length - (intOf i).toNat)
  case atStart => exact ⟨0, [], Nat.zero_le _, rfl, Keeps.refl _ _, Row.nil _ _ _, by simp⟩
  case round =>
    obtain ⟨k, T, hk, rfl, hke, hrow, hT⟩ := hrel
    obtain ⟨ao5, cap5, hv⟩ := hrow.shape
    subst hv
    have hlen : (Lt.held (l.take k) who).length ≤ k := by
      have := Lt.heldFrom_len who (l.take k) 0
      have h2 : (l.take k).length ≤ k := List.length_take_le _ _
      unfold Lt.held; omega
    have HK := Lib.hid hke
    have HR := Lib.hid hrow
    have HT := Lib.hid hT
    clear hke hrow hT
    by_cases hlt : k < l.length
    · have Hst := Lib.hid (Lt.held_take l who k hlt)
      obtain ⟨g, off, rfl, hU, hg, hc, _⟩ := Hr.out.cells (by omega)
      have c1 : wr.cell? ⟨g, off + k, none⟩ = some (.int .i64 (l.getD k 0)) := by
        rw [World.cell?_of_block (w := w) (HK.out.block g hg (by simp)), hc k (by simpa using hlt)]
        simp [List.getD, hlt]
      clear hc hU
      generalize l.getD k 0 = x at *
      have hgen : ∀ m : Nat, m = (Lt.held (l.take k) who).length → m ≤ k := fun m h => by omega
      by_cases hw : 0 ≤ who
      · by_cases hx : x = who
        · subst hx
          go_wp2_with (at_builtin; go_must (refine wp_app1 elemInt HR.out (m := 1) (ys := [.int .i64 k]) rfl one_le_max oc_int (by have := H47.out; omega) ?_))
          intro ao' cap' w1 S' r1 r2 r3
          have R1 := Lib.hid r1
          have R2 := Lib.hid r2
          have R3 := Lib.hid r3
          clear r1 r2 r3
          go_wp2
          go_roundw
          case rel => exact ⟨k + 1, S', by omega, by go_num, HK.out.trans R2.out (fun x hx => .inr (HT.out x hx)), by
            rw [Hst.out]; simp only [hw, and_self, if_true, List.length_append, List.length_singleton, List.map_append, List.map_cons, List.map_nil]; exact R1.out, fun y hy => by
            rcases R3.out y hy with h | h
            · exact HT.out y h
            · have := HK.out.size; omega⟩
          case measure => simp [intOf]; omega
        · have hq : (x == who) = false := by simpa using hx
          go_wp2
          go_roundw
          case rel => exact ⟨k + 1, T, by omega, by go_num, HK.out, by
            rw [Hst.out]; simp only [hx, and_false, if_false, List.append_nil]; exact HR.out, HT.out⟩
          case measure => simp [intOf]; omega
      · go_wp2
        go_roundw
        case rel => exact ⟨k + 1, T, by omega, by go_num, HK.out, by
          rw [Hst.out]; simp only [hw, false_and, if_false, List.append_nil]; exact HR.out, HT.out⟩
        case measure => simp [intOf]; omega
    · have hkl : l.take k = l := List.take_of_length_le (by omega)
      have He := Lib.hid (show Lt.held (l.take k) who = Lt.held l who by rw [hkl])
      clear hkl
      go_wp2
      go_ret
      exact ⟨_, _, rfl, HK.out, (by rw [← He.out]; exact HR.out.view), HT.out⟩

def LatNewPost (n : Int) (w : World) (e : Ending) (w' : World) : Prop :=
  ∃ p S, e = .returned p ∧ Keeps [] w w' ∧ Lat w' p (Lt.newL n) S ∧ ∀ k ∈ S, w.heap.size ≤ k


theorem set_fill (a b : Value) (N k : Nat) (h : k < N) : (List.replicate k a ++ List.replicate (N - k) b).set k a = List.replicate (k + 1) a ++ List.replicate (N - (k + 1)) b := by
  rw [List.set_append_right _ _ (by simp), List.replicate_succ', List.append_assoc]
  congr 1
  rw [show N - k = (N - (k + 1)) + 1 by omega, List.replicate_succ]
  simp

set_option maxHeartbeats 800000 in
theorem latch_new (w : World) (n : Int) : Calls Try.prog 11 #[.int .i64 n] w (LatNewPost n w) := by
  obtain ⟨N, hN⟩ : ∃ N : Nat, (N : Int) = max 0 (min n 4096) := ⟨(max 0 (min n 4096)).toNat, Int.toNat_of_nonneg (by omega)⟩
  have hN2 : N ≤ 4096 := by omega
  have hfin : Lt.newL n = List.replicate N (-1) := by unfold Lt.newL; rw [← hN]; simp
  have HN := Lib.hid hN
  have HN2 := Lib.hid hN2
  have HF := Lib.hid hfin
  clear hN hN2 hfin
  go_enter Try.func11, Try.ntmps11
  go_wp2_with (at_make; go_must (refine wp_make elemInt N (by have := HN2.out; omega) ?_ (hL := by have := HN.out; split <;> split <;> omega) (hC := by have := HN.out; split <;> split <;> omega)); intro w1 r1 k1; generalize (if 0 < if 4096 < n then 4096 else n then if 4096 < n then 4096 else n else (0 : Int)) = z1; generalize (if 4096 < n then (4096 : Int) else n) = z2)
  simp only [Nat.mul_one, Value.cells, toList_madeCells_one] at r1
  have hgb : w1.heap.size ≠ w.heap.size := by have := r1.lt w.heap.size (by simp); omega
  have hbs : w.heap.size ≤ w1.heap.size := k1.size
  have HBn := Lib.hid (Blk.new w1 [.slice (some ⟨w.heap.size, 0, none⟩) N N] 82)
  have HRn := Lib.hid (r1.alloc (.cells #[.slice (some ⟨w.heap.size, 0, none⟩) N N] 82))
  have HKn := Lib.hid (k1.alloc (.cells #[.slice (some ⟨w.heap.size, 0, none⟩) N N] 82))
  have hm : N ≤ 1099511627776 := by have := HN2.out; omega
  clear r1 k1
  generalize hg : w.heap.size = g at HBn HRn HKn hgb hbs ⊢
  generalize hb : w1.heap.size = b at HBn HRn HKn hgb hbs ⊢
  have Hg := Lib.hid hg
  clear hg hb
  go_loopw [16] (fun i wr => ∃ k : Nat, k ≤ N ∧ i = .int .i64 k ∧ Keeps [] w wr ∧ Blk wr b [.slice (some ⟨g, 0, none⟩) N N] 82 ∧
      Row wr (.slice (some ⟨g, 0, none⟩) N N) 3 1 N (List.replicate k (.int .i64 (-1)) ++ List.replicate (N - k) (.int .i64 0)) [g])
    (fun i _ => N - (intOf i).toNat)
  case atStart => exact ⟨0, Nat.zero_le _, rfl, HKn.out, HBn.out, by simpa using HRn.out⟩
  case round =>
    obtain ⟨k, hk, rfl, hke, hbl, hrow⟩ := hrel
    have c0 : wr.cell? ⟨b, 0, none⟩ = some (.slice (some ⟨g, 0, none⟩) N N) := hbl.cell 0
    have HK := Lib.hid hke
    have HB := Lib.hid hbl
    have HR := Lib.hid hrow
    clear hke hbl hrow
    by_cases hlt : k < N
    · obtain ⟨g', off', h1, _, _, hc, hf⟩ := HR.out.cells (by omega)
      simp only [Option.some.injEq, Addr.mk.injEq, and_true] at h1
      obtain ⟨rfl, rfl⟩ := h1
      have c1 : wr.cell? ⟨g, 0 + k, none⟩ = some (.int .i64 0) := by
        rw [hc k (by simp; omega), List.getElem?_append_right (by simp)]
        simp [show 0 < N - k by omega]
      have f1 := hf k
      have hst := HR.out.stored k (by simp; omega) (.int .i64 (-1))
      rw [set_fill _ _ N k hlt] at hst
      have hbl' := HB.out.other (a := ⟨g, 0 + k, none⟩) hgb (.int .i64 (-1))
      rw [Nat.zero_add] at c1 f1 hst hbl'
      have HS := Lib.hid hst
      have HB' := Lib.hid hbl'
      clear hc hf hst hbl'
      go_wp2
      go_roundw
      case rel => exact ⟨k + 1, by omega, by go_num, HK.out.trans HS.out.2 (by intro x hx; simp at hx; subst hx; right; have := Hg.out; omega), HB'.out, HS.out.1⟩
      case measure => simp [intOf]; omega
    · obtain rfl : k = N := by omega
      go_wp2
      go_ret
      refine ⟨.pointer (some ⟨b, 0, none⟩), [b, g], rfl, HK.out, ?_, ?_⟩
      · rw [HF.out]
        exact ⟨b, _, [g], rfl, HB.out, by simpa using HR.out, by simpa using hgb, rfl⟩
      · have := Hg.out; intro x hx; simp at hx; rcases hx with rfl | rfl <;> omega

end Go.Proofs.Ytgpcmifbkbgbjaa
