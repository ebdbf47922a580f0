/-
  Contracts of package latch.
  Conditions: none.
-/
import Derived.Test.YtofnbflkhgammaaCore
/- Latch -/
namespace Go.Proofs.Ytofnbflkhgammaa
open Go.RowKit
set_option linter.unusedVariables false
set_option linter.unusedSimpArgs false
set_option linter.unnecessarySimpa false

theorem elemIntL : Elem Try.prog 38 3 1 8 (.int .i64 0) := ⟨Try.underlying38, by kernel_rfl, rfl, by decide, by decide⟩

/-- p is a Latches whose owners are l; S: its blocks. -/
def Lat (w : World) (p : Value) (l : List Int) (S : List Nat) : Prop :=
  ∃ b v T, p = .pointer (some ⟨b, 0, none⟩) ∧ Blk w b [v] 109 ∧ Row w v 3 1 l.length (l.map (Value.int .i64)) T ∧ b ∉ T ∧ S = b :: T

theorem Lat.keep {w w' : World} {p : Value} {l : List Int} {S T : List Nat} (h : Lat w p l S) (k : Keeps T w w') (hn : ∀ x ∈ S, x ∉ T) : Lat w' p l S := by
  obtain ⟨b, v, U, rfl, hb, hr, hd, rfl⟩ := h
  exact ⟨b, v, U, rfl, hb.keep k (hn b (by simp)), hr.keep k (fun x hx => hn x (by simp [hx])), hd, rfl⟩
theorem Lat.lt {w : World} {p : Value} {l : List Int} {S : List Nat} (h : Lat w p l S) : ∀ k ∈ S, k < w.heap.size := by
  obtain ⟨b, v, U, rfl, hb, hr, hd, rfl⟩ := h
  intro k hk
  rcases List.mem_cons.1 hk with rfl | hk
  · exact hb.lt
  · exact hr.lt k hk
theorem Lat.alloc {w : World} {p : Value} {l : List Int} {S : List Nat} (h : Lat w p l S) (o : Obj) : Lat (w.alloc o) p l S := h.keep ((Keeps.refl [] w).alloc o) (by simp)
theorem Lat.drewN {w : World} {p : Value} {l : List Int} {S : List Nat} (h : Lat w p l S) (n : Nat) : Lat (w.drewN n) p l S := h.keep ((Keeps.refl [] w).drewN n) (by simp)
theorem Lat.shape {w : World} {p : Value} {l : List Int} {S : List Nat} (h : Lat w p l S) : ∃ b, p = .pointer (some ⟨b, 0, none⟩) := by
  obtain ⟨b, v, U, rfl, _⟩ := h; exact ⟨b, rfl⟩
theorem Lat.le {w : World} {p : Value} {l : List Int} {S : List Nat} (h : Lat w p l S) : l.length ≤ maxLen := by
  obtain ⟨b, v, U, rfl, hb, hr, hd, rfl⟩ := h; exact hr.le

namespace Lt
def has (l : List Int) (i : Int) : Bool := decide (0 ≤ i) && decide (i < l.length)
def owner (l : List Int) (i : Int) : Int := if has l i then l.getD i.toNat 0 else -1
def tryOk (l : List Int) (i who : Int) : Bool := has l i && decide (0 ≤ who) && (l.getD i.toNat 0 == -1)
def tryL (l : List Int) (i who : Int) : List Int := if tryOk l i who then l.set i.toNat who else l
def freeOk (l : List Int) (i who : Int) : Bool := has l i && decide (0 ≤ who) && (l.getD i.toNat 0 == who)
def freeL (l : List Int) (i who : Int) : List Int := if freeOk l i who then l.set i.toNat (-1) else l
def heldFrom (who : Int) : Nat → List Int → List Int
  | _, [] => []
  | k, o :: r => (if 0 ≤ who ∧ o = who then [(k : Int)] else []) ++ heldFrom who (k + 1) r
def held (l : List Int) (who : Int) : List Int := heldFrom who 0 l
end Lt

theorem latch_owner (w : World) (p : Value) (l : List Int) (S : List Nat) (i : Int) (h : Lat w p l S) :
    Calls Try.prog 32 #[p, .int .i64 i] w fun e w' => e = .returned (.int .i64 (Lt.owner l i)) ∧ w = w' := by
  obtain ⟨b, v, U, rfl, hb, hr, hd, rfl⟩ := h
  have hm := hr.le
  unfold maxLen at hm
  obtain ⟨ao, cap, rfl⟩ := hr.shape
  have c0 : w.cell? ⟨b, 0, none⟩ = some (.slice ao l.length cap) := hb.cell 0
  by_cases h1 : 0 ≤ i
  · by_cases h2 : i < l.length
    · obtain ⟨n, rfl⟩ := Int.eq_ofNat_of_zero_le h1
      obtain ⟨g, off, rfl, _, _, hc, _⟩ := hr.cells (by omega)
      have c1 : w.cell? ⟨g, off + n, none⟩ = some (.int .i64 (l.getD n 0)) := by
        rw [hc n (by simpa using by omega)]; simp [List.getD, show n < l.length by omega]
      have hfin : Lt.owner l n = l.getD n 0 := by simp [Lt.owner, Lt.has, show n < l.length by omega]
      rw [hfin]
      clear hb hr hd hc hfin
      go_enter Try.func32, Try.ntmps32
      go_wp2
      go_ret
      exact ⟨rfl, rfl⟩
    · have hfin : Lt.owner l i = -1 := by simp [Lt.owner, Lt.has, h2]
      rw [hfin]
      clear hb hr hd hfin
      go_enter Try.func32, Try.ntmps32
      go_wp2
      go_ret
      exact ⟨rfl, rfl⟩
  · have hfin : Lt.owner l i = -1 := by simp [Lt.owner, Lt.has, h1]
    rw [hfin]
    clear hb hr hd hfin
    go_enter Try.func32, Try.ntmps32
    go_wp2
    go_ret
    exact ⟨rfl, rfl⟩

namespace Lt
def addN (l : List Int) : Int := if l.length < 4096 then l.length else -1
def addL (l : List Int) : List Int := if l.length < 4096 then l ++ [-1] else l
def newL (n : Int) : List Int := List.replicate (max 0 (min n 4096)).toNat (-1)
end Lt

/-- what Add leaves -/
def AddPost (p : Value) (l : List Int) (S : List Nat) (w : World) (e : Ending) (w' : World) : Prop :=
  e = .returned (.int .i64 (Lt.addN l)) ∧ Keeps S w w' ∧ ∃ S', Lat w' p (Lt.addL l) S' ∧ ∀ k ∈ S', k ∈ S ∨ w.heap.size ≤ k

end Go.Proofs.Ytofnbflkhgammaa
/- LatchB -/
namespace Go.Proofs.Ytofnbflkhgammaa
open Go.RowKit
set_option linter.unusedVariables false
set_option linter.unusedSimpArgs false
set_option linter.unnecessarySimpa false

namespace Lt
theorem heldFrom_append (who : Int) : ∀ (l : List Int) (k : Nat) (o : Int), heldFrom who k (l ++ [o]) = heldFrom who k l ++ (if 0 ≤ who ∧ o = who then [((k + l.length : Nat) : Int)] else [])
  | [], k, o => by simp [heldFrom]
  | x :: r, k, o => by
    simp only [List.cons_append, heldFrom, heldFrom_append who r (k + 1) o, List.append_assoc, List.length_cons]
    rw [show k + 1 + r.length = k + (r.length + 1) by omega]
theorem heldFrom_len (who : Int) : ∀ (l : List Int) (k : Nat), (heldFrom who k l).length ≤ l.length
  | [], k => by simp [heldFrom]
  | x :: r, k => by
    have := heldFrom_len who r (k + 1)
    simp only [heldFrom, List.length_append, List.length_cons]
    split <;> simp <;> omega
theorem held_take (l : List Int) (who : Int) (k : Nat) (h : k < l.length) : held (l.take (k + 1)) who = held (l.take k) who ++ (if 0 ≤ who ∧ l.getD k 0 = who then [(k : Int)] else []) := by
  rw [List.take_succ_eq_append_getElem h]
  unfold held
  rw [heldFrom_append]
  have e : (0 + (l.take k).length : Nat) = k := by simp; omega
  rw [e]
  simp [List.getD, h]
end Lt

def HeldPost (l : List Int) (who : Int) (w : World) (e : Ending) (w' : World) : Prop :=
  ∃ v S, e = .returned v ∧ Keeps [] w w' ∧ View w' v 1 (Lt.held l who).length ((Lt.held l who).map (Value.int .i64)) S ∧ ∀ k ∈ S, w.heap.size ≤ k

def LatNewPost (n : Int) (w : World) (e : Ending) (w' : World) : Prop :=
  ∃ p S, e = .returned p ∧ Keeps [] w w' ∧ Lat w' p (Lt.newL n) S ∧ ∀ k ∈ S, w.heap.size ≤ k


theorem set_fill (a b : Value) (N k : Nat) (h : k < N) : (List.replicate k a ++ List.replicate (N - k) b).set k a = List.replicate (k + 1) a ++ List.replicate (N - (k + 1)) b := by
  rw [List.set_append_right _ _ (by simp), List.replicate_succ', List.append_assoc]
  congr 1
  rw [show N - k = (N - (k + 1)) + 1 by omega, List.replicate_succ]
  simp

set_option maxHeartbeats 800000 in
theorem latch_new (w : World) (n : Int) : Calls Try.prog 13 #[.int .i64 n] w (LatNewPost n w) := by
  obtain ⟨N, hN⟩ : ∃ N : Nat, (N : Int) = max 0 (min n 4096) := ⟨(max 0 (min n 4096)).toNat, Int.toNat_of_nonneg (by omega)⟩
  have hN2 : N ≤ 4096 := by omega
  have hfin : Lt.newL n = List.replicate N (-1) := by unfold Lt.newL; rw [← hN]; simp
  have HN := Lib.hid hN
  have HN2 := Lib.hid hN2
  have HF := Lib.hid hfin
  clear hN hN2 hfin
  go_enter Try.func13, Try.ntmps13
  go_wp2_with (at_make; go_must (refine wp_make elemIntL N (by have := HN2.out; omega) ?_ (hL := by have := HN.out; split <;> split <;> omega) (hC := by have := HN.out; split <;> split <;> omega)); intro w1 r1 k1; generalize (if 0 < if 4096 < n then 4096 else n then if 4096 < n then 4096 else n else (0 : Int)) = z1; generalize (if 4096 < n then (4096 : Int) else n) = z2)
  simp only [Nat.mul_one, Value.cells, toList_madeCells_one] at r1
  have hgb : w1.heap.size ≠ w.heap.size := by have := r1.lt w.heap.size (by simp); omega
  have hbs : w.heap.size ≤ w1.heap.size := k1.size
  have HBn := Lib.hid (Blk.new w1 [.slice (some ⟨w.heap.size, 0, none⟩) N N] 109)
  have HRn := Lib.hid (r1.alloc (.cells #[.slice (some ⟨w.heap.size, 0, none⟩) N N] 109))
  have HKn := Lib.hid (k1.alloc (.cells #[.slice (some ⟨w.heap.size, 0, none⟩) N N] 109))
  have hm : N ≤ 1099511627776 := by have := HN2.out; omega
  clear r1 k1
  generalize hg : w.heap.size = g at HBn HRn HKn hgb hbs ⊢
  generalize hb : w1.heap.size = b at HBn HRn HKn hgb hbs ⊢
  have Hg := Lib.hid hg
  clear hg hb
  go_loopw [16] (fun i wr => ∃ k : Nat, k ≤ N ∧ i = .int .i64 k ∧ Keeps [] w wr ∧ Blk wr b [.slice (some ⟨g, 0, none⟩) N N] 109 ∧
      Row wr (.slice (some ⟨g, 0, none⟩) N N) 3 1 N (List.replicate k (.int .i64 (-1)) ++ List.replicate (N - k) (.int .i64 0)) [g])
    (fun i _ => N - (intOf i).toNat)
  case atStart => exact ⟨0, Nat.zero_le _, rfl, HKn.out, HBn.out, by simpa using HRn.out⟩
  case round =>
    obtain ⟨k, hk, rfl, hke, hbl, hrow⟩ := hrel
    have c0 : wr.cell? ⟨b, 0, none⟩ = some (.slice (some ⟨g, 0, none⟩) N N) := hbl.cell 0
    have HK := Lib.hid hke
    have HB := Lib.hid hbl
    have HR := Lib.hid hrow
    clear hke hbl hrow
    by_cases hlt : k < N
    · obtain ⟨g', off', h1, _, _, hc, hf⟩ := HR.out.cells (by omega)
      simp only [Option.some.injEq, Addr.mk.injEq, and_true] at h1
      obtain ⟨rfl, rfl⟩ := h1
      have c1 : wr.cell? ⟨g, 0 + k, none⟩ = some (.int .i64 0) := by
        rw [hc k (by simp; omega), List.getElem?_append_right (by simp)]
        simp [show 0 < N - k by omega]
      have f1 := hf k
      have hst := HR.out.stored k (by simp; omega) (.int .i64 (-1))
      rw [set_fill _ _ N k hlt] at hst
      have hbl' := HB.out.other (a := ⟨g, 0 + k, none⟩) hgb (.int .i64 (-1))
      rw [Nat.zero_add] at c1 f1 hst hbl'
      have HS := Lib.hid hst
      have HB' := Lib.hid hbl'
      clear hc hf hst hbl'
      go_wp2
      go_roundw
      case rel => exact ⟨k + 1, by omega, by go_num, HK.out.trans HS.out.2 (by intro x hx; simp at hx; subst hx; right; have := Hg.out; omega), HB'.out, HS.out.1⟩
      case measure => simp [intOf]; omega
    · obtain rfl : k = N := by omega
      go_wp2
      go_ret
      refine ⟨.pointer (some ⟨b, 0, none⟩), [b, g], rfl, HK.out, ?_, ?_⟩
      · rw [HF.out]
        exact ⟨b, _, [g], rfl, HB.out, by simpa using HR.out, by simpa using hgb, rfl⟩
      · have := Hg.out; intro x hx; simp at hx; rcases hx with rfl | rfl <;> omega

end Go.Proofs.Ytofnbflkhgammaa
