/-
  Contracts of package bench, the second part: Set, Running, New.
  Conditions: none.
-/
import Derived.Test.YtgpcmifbkbgbjaaBench
namespace Go.Proofs.Ytgpcmifbkbgbjaa
open Go.RowKit
set_option linter.unusedVariables false
set_option linter.unusedSimpArgs false
set_option linter.unnecessarySimpa false

theorem bench_set (w : World) (p : Value) (l : List (Int × Bool)) (S : List Nat) (i s : Int) (t : Bool) (h : Bn w p l S) :
    Calls Try.prog 53 #[p, .int .i64 i, .int .i64 s, .bool t] w (BPost p (Bc.setOk l i s) (Bc.setL l i s t) S w) := by
  obtain ⟨b, rfl⟩ := h.shape
  have H := Lib.hid h
  cases h1 : Bc.has l i with
  | true =>
    cases h2 : decide (s < 0) with
    | true =>
      have HF : Hid (Bc.setOk l i s = false ∧ Bc.setL l i s t = l) := Lib.hid (by
        have : Bc.setOk l i s = false := by simp at h2; simp [Bc.setOk]; omega
        exact ⟨this, by simp [Bc.setL, this]⟩)
      clear h
      go_enter Try.func53, Try.ntmps53
      go_wp2_with fail
      refine (bench_there _ _ _ _ _ H.out).mono ?_
      rintro e w1 ⟨rfl, rfl⟩
      rw [h1]
      go_wp2_with fail
      go_ret
      exact BPost.same H.out HF.out.1 HF.out.2
    | false =>
      cases h3 : decide (2 < s) with
      | true =>
        have HF : Hid (Bc.setOk l i s = false ∧ Bc.setL l i s t = l) := Lib.hid (by
          have : Bc.setOk l i s = false := by simp at h3; simp [Bc.setOk]; omega
          exact ⟨this, by simp [Bc.setL, this]⟩)
        clear h
        go_enter Try.func53, Try.ntmps53
        go_wp2_with fail
        refine (bench_there _ _ _ _ _ H.out).mono ?_
        rintro e w1 ⟨rfl, rfl⟩
        rw [h1]
        go_wp2_with fail
        go_ret
        exact BPost.same H.out HF.out.1 HF.out.2
      | false =>
        obtain ⟨n, rfl, hn, hm, g, off, cap, rfl, hbg, c0, c1, c2, f1, f2, hraw, hx⟩ := h.at h1
        have HF : Hid (Bc.setOk l n s = true ∧ Bc.setL l n s t = l.set n (s, t)) := Lib.hid (by
          have : Bc.setOk l n s = true := by simp at h2 h3; simp [Bc.setOk, h1]; omega
          exact ⟨this, by simp [Bc.setL, this]⟩)
        have HB := Lib.hid (hraw.both hx s t)
        clear hraw hx h
        go_enter Try.func53, Try.ntmps53
        go_wp2_with fail
        refine (bench_there _ _ _ _ _ H.out).mono ?_
        rintro e w1 ⟨rfl, rfl⟩
        rw [h1]
        go_wp2_with fail
        go_ret
        exact ⟨ret_bool HF.out.1.symm, by rw [HF.out.2]; exact HB.out.bn, ((Keeps.refl _ w).setCell (by simp) _).setCell (by simp) _⟩
  | false =>
    have HF : Hid (Bc.setOk l i s = false ∧ Bc.setL l i s t = l) := Lib.hid (by
      have : Bc.setOk l i s = false := by simp [Bc.setOk, h1]
      exact ⟨this, by simp [Bc.setL, this]⟩)
    clear h
    go_enter Try.func53, Try.ntmps53
    go_wp2_with fail
    refine (bench_there _ _ _ _ _ H.out).mono ?_
    rintro e w1 ⟨rfl, rfl⟩
    rw [h1]
    go_wp2_with fail
    go_ret
    exact BPost.same H.out HF.out.1 HF.out.2

namespace Bc
theorem runFrom_append : ∀ (l : List (Int × Bool)) (k : Nat) (o : Int × Bool), runFrom k (l ++ [o]) = runFrom k l ++ (if o.1 = 0 then [((k + l.length : Nat) : Int)] else [])
  | [], k, o => by simp [runFrom]
  | x :: r, k, o => by
    simp only [List.cons_append, runFrom, runFrom_append r (k + 1) o, List.append_assoc, List.length_cons]
    rw [show k + 1 + r.length = k + (r.length + 1) by omega]
theorem runFrom_len : ∀ (l : List (Int × Bool)) (k : Nat), (runFrom k l).length ≤ l.length
  | [], k => by simp [runFrom]
  | x :: r, k => by
    have := runFrom_len r (k + 1)
    simp only [runFrom, List.length_append, List.length_cons]
    split <;> simp <;> omega
theorem running_take (l : List (Int × Bool)) (k : Nat) (o : Int × Bool) (h : l[k]? = some o) : running (l.take (k + 1)) = running (l.take k) ++ (if o.1 = 0 then [(k : Int)] else []) := by
  obtain ⟨hk, rfl⟩ := List.getElem?_eq_some_iff.1 h
  rw [List.take_succ_eq_append_getElem hk]
  unfold running
  rw [runFrom_append]
  have e : (0 + (l.take k).length : Nat) = k := by simp; omega
  rw [e]
end Bc

/-- a new slice of numbers -/
def NewInts (r : List Int) (w : World) (e : Ending) (w' : World) : Prop :=
  ∃ v S, e = .returned v ∧ Keeps [] w w' ∧ IV w' v r S ∧ ∀ k ∈ S, w.heap.size ≤ k

set_option maxHeartbeats 800000 in
theorem bench_running (w : World) (p : Value) (l : List (Int × Bool)) (S : List Nat) (h : Bn w p l S) (hb47 : l.length * 8 ≤ 140737488355328) :
    Calls Try.prog 44 #[p] w (NewInts (Bc.running l) w) := by
  obtain ⟨b, v, U, rfl, hb, hr, hd, rfl⟩ := h
  obtain ⟨ao, cap, rfl⟩ := hr.shape
  have c0 : w.cell? ⟨b, 0, none⟩ = some (.slice ao l.length cap) := hb.cell 0
  have hm : l.length ≤ 17592186044416 := by omega
  have Hr := Lib.hid hr
  have H47 := Lib.hid hb47
  clear hb hr hd hb47
  go_enter Try.func44, Try.ntmps44
  go_wp2
  go_loopw [3, 11] (fun v i wr => ∃ (k : Nat) (T : List Nat), k ≤ l.length ∧ i = .int .i64 k ∧ Keeps [] w wr ∧ IR wr v 3 (Bc.running (l.take k)) T ∧ ∀ x ∈ T, w.heap.size ≤ x)
    (fun _ i _ => l.length - (intOf i).toNat)
  case atStart => exact ⟨0, [], Nat.zero_le _, rfl, Keeps.refl _ _, IR.nil _ _, by simp⟩
  case round =>
    obtain ⟨k, T, hk, rfl, hke, hrow, hT⟩ := hrel
    obtain ⟨ao5, cap5, hv⟩ := hrow.shape
    subst hv
    have hlen : (Bc.running (l.take k)).length ≤ k := by
      have := Bc.runFrom_len (l.take k) 0
      have h2 : (l.take k).length ≤ k := List.length_take_le _ _
      unfold Bc.running; omega
    have HK := Lib.hid hke
    have HR := Lib.hid hrow
    have HT := Lib.hid hT
    clear hke hrow hT
    by_cases hlt : k < l.length
    · obtain ⟨g, off, rfl, hU, hg, hc, _⟩ := Hr.out.cells oneC_len (by omega)
      obtain ⟨o, ho⟩ : ∃ o, l[k]? = some o := ⟨_, List.getElem?_eq_getElem hlt⟩
      have Hst := Lib.hid (Bc.running_take l k o ho)
      have c1 : wr.cell? ⟨g, off + k * 2, none⟩ = some (.int .i64 o.1) := by
        rw [World.cell?_of_block (w := w) (HK.out.block g hg (by simp))]; exact hc k o 0 ho (by omega)
      have c2 : wr.cell? ⟨g, off + k * 2 + 1, none⟩ = some (.bool o.2) := by
        rw [World.cell?_of_block (w := w) (HK.out.block g hg (by simp)), Nat.add_assoc]; exact hc k o 1 ho (by omega)
      clear hc hU ho
      cases hq : (o.1 == 0) with
      | true =>
        have ho1 : o.1 = 0 := by simpa using hq
        have HS2 : Hid (Bc.running (l.take (k + 1)) = Bc.running (l.take k) ++ [(k : Int)]) := Lib.hid (by rw [Hst.out, if_pos ho1])
        have HR' := Lib.hid (HR.out.alloc (.cells #[.int .i64 o.1, .bool o.2] 90))
        clear ho1 Hst
        go_wp2_with (at_builtin; go_must (refine wp_appn elemInt HR'.out (by have := H47.out; omega) ?_))
        intro ao' cap' w1 S' r1 r2 r3
        have R1 := Lib.hid r1
        have R2 := Lib.hid r2
        have R3 := Lib.hid r3
        clear r1 r2 r3
        go_wp2
        go_roundw
        case rel => exact ⟨k + 1, S', by omega, by go_num, (HK.out.alloc _).trans R2.out (fun x hx => .inr (HT.out x hx)), by
          rw [HS2.out]; exact R1.out, fun y hy => by
          rcases R3.out y hy with h | h
          · exact HT.out y h
          · have := HK.out.size; omega⟩
        case measure => simp [intOf]; omega
      | false =>
        have ho1 : ¬ o.1 = 0 := by simpa using hq
        have HS2 : Hid (Bc.running (l.take (k + 1)) = Bc.running (l.take k)) := Lib.hid (by rw [Hst.out, if_neg ho1, List.append_nil])
        clear ho1 Hst
        go_wp2_with fail
        go_roundw
        case rel => exact ⟨k + 1, T, by omega, by go_num, HK.out.alloc _, by rw [HS2.out]; exact HR.out.alloc _, HT.out⟩
        case measure => simp [intOf]; omega
    · have hkl : l.take k = l := List.take_of_length_le (by omega)
      have He := Lib.hid (show Bc.running (l.take k) = Bc.running l by rw [hkl])
      clear hkl
      go_wp2
      go_ret
      exact ⟨_, _, rfl, HK.out, (by rw [← He.out]; exact HR.out.iv), HT.out⟩

theorem elemOne : Elem Try.prog 86 90 2 16 (.agg #[.int .i64 0, .bool false]) := ⟨Try.underlying86, by kernel_rfl, rfl, by decide, by decide⟩

namespace Bc
def newL (n : Int) : List (Int × Bool) := List.replicate (max 0 (min n 4096)).toNat (0, false)
end Bc
def BNewPost (n : Int) (w : World) (e : Ending) (w' : World) : Prop :=
  ∃ p S, e = .returned p ∧ Keeps [] w w' ∧ Bn w' p (Bc.newL n) S ∧ ∀ k ∈ S, w.heap.size ≤ k

theorem bench_new (w : World) (n : Int) : Calls Try.prog 40 #[.int .i64 n] w (BNewPost n w) := by
  obtain ⟨N, hN⟩ : ∃ N : Nat, (N : Int) = max 0 (min n 4096) := ⟨(max 0 (min n 4096)).toNat, Int.toNat_of_nonneg (by omega)⟩
  have hN2 : N ≤ 4096 := by omega
  have hfin : Bc.newL n = List.replicate N (0, false) := by unfold Bc.newL; rw [← hN]; simp
  have HN := Lib.hid hN
  have HN2 := Lib.hid hN2
  have HF := Lib.hid hfin
  clear hN hN2 hfin
  go_enter Try.func40, Try.ntmps40
  go_wp2_with (at_make; go_must (refine wp_make elemOne N (by have := HN2.out; omega) ?_ (hL := by have := HN.out; split <;> split <;> omega) (hC := by have := HN.out; split <;> split <;> omega)); intro w1 r1 k1; have R1 := Lib.hid r1; have K1 := Lib.hid k1; clear r1 k1; generalize (if 0 < if 4096 < n then 4096 else n then if 4096 < n then 4096 else n else (0 : Int)) = z1; generalize (if 4096 < n then (4096 : Int) else n) = z2)
  go_ret
  have r1 := ER.made oneC_len (x0 := (0, false)) rfl (by omega) R1.out
  have hlt : w.heap.size < w1.heap.size := R1.out.lt _ (by simp)
  refine ⟨.pointer (some ⟨w1.heap.size, 0, none⟩), [w1.heap.size, w.heap.size], rfl, K1.out.alloc _, ?_, by intro x hx; simp at hx; omega⟩
  rw [HF.out]
  refine ⟨_, _, [w.heap.size], rfl, Blk.new w1 _ _, ?_, by simp; omega, rfl⟩
  exact ER.then r1 ((Keeps.refl [] w1).alloc _)
end Go.Proofs.Ytgpcmifbkbgbjaa
