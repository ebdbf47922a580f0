/-
  Package queue: what it means that a pointer holds queues; the contracts that only read.
  Conditions: Qu.Inv.
-/
import Derived.Test.YtofnbflkhgammaaQueueL
import Derived.Deep.DrawnRows
namespace Go.Proofs.Ytofnbflkhgammaa
open Go.RowKit
set_option linter.unusedVariables false
set_option linter.unusedSimpArgs false
set_option linter.unnecessarySimpa false

def t3 (t : Int × Int × Int) : List Value := [.int .i64 t.1, .int .i64 t.2.1, .int .i64 t.2.2]
theorem t3_len (t : Int × Int × Int) : (t3 t).length = 3 := rfl
/-- the memory of queues: the struct b, the things (A, block g1), the lines (B, block g2) -/
def QRaw (w : World) (b g1 o1 c1 g2 o2 c2 : Nat) (A B : List (Int × Int × Int)) : Prop :=
  Blk w b [.slice (some ⟨g1, o1, none⟩) A.length c1, .slice (some ⟨g2, o2, none⟩) B.length c2] 100 ∧
    ER t3 3 w (.slice (some ⟨g1, o1, none⟩) A.length c1) 102 A [g1] ∧ ER t3 3 w (.slice (some ⟨g2, o2, none⟩) B.length c2) 104 B [g2] ∧ b ≠ g1 ∧ b ≠ g2 ∧ g1 ≠ g2
/-- p holds n things in the rows R; S: its blocks -/
def Qq (w : World) (p : Value) (n : Nat) (R : List (List Int)) (S : List Nat) : Prop :=
  ∃ b v1 v2 T1 T2, p = .pointer (some ⟨b, 0, none⟩) ∧ Blk w b [v1, v2] 100 ∧ ER t3 3 w v1 102 (Qu.th n R) T1 ∧ ER t3 3 w v2 104 (Qu.ln R) T2 ∧
    b ∉ T1 ∧ b ∉ T2 ∧ (∀ x ∈ T1, x ∉ T2) ∧ S = b :: (T1 ++ T2) ∧ Qu.Inv n R

section
variable {w w' : World} {p : Value} {n : Nat} {R : List (List Int)} {S T : List Nat}
theorem Qq.keep (h : Qq w p n R S) (k : Keeps T w w') (hn : ∀ x ∈ S, x ∉ T) : Qq w' p n R S := by
  obtain ⟨b, v1, v2, T1, T2, rfl, hb, h1, h2, d1, d2, d3, rfl, hv⟩ := h
  exact ⟨b, v1, v2, T1, T2, rfl, hb.keep k (hn b (by simp)), h1.keep k (fun x hx => hn x (by simp [hx])), h2.keep k (fun x hx => hn x (by simp [hx])), d1, d2, d3, rfl, hv⟩
theorem Qq.then (h : Qq w p n R S) (k : Keeps [] w w') : Qq w' p n R S := h.keep k (by simp)
theorem Qq.lt (h : Qq w p n R S) : ∀ k ∈ S, k < w.heap.size := by
  obtain ⟨b, v1, v2, T1, T2, rfl, hb, h1, h2, d1, d2, d3, rfl, hv⟩ := h
  intro k hk
  simp only [List.mem_cons, List.mem_append] at hk
  rcases hk with rfl | hk | hk
  · exact hb.lt
  · exact h1.lt k hk
  · exact h2.lt k hk
theorem Qq.shape (h : Qq w p n R S) : ∃ b, p = .pointer (some ⟨b, 0, none⟩) := by
  obtain ⟨b, v1, v2, T1, T2, rfl, _⟩ := h; exact ⟨b, rfl⟩
theorem Qq.inv (h : Qq w p n R S) : Qu.Inv n R := by
  obtain ⟨b, v1, v2, T1, T2, rfl, hb, h1, h2, d1, d2, d3, rfl, hv⟩ := h; exact hv
/-- what the walk asks, if there are things and lines -/
theorem Qq.raw {b : Nat} (h : Qq w (.pointer (some ⟨b, 0, none⟩)) n R S) (h0 : 0 < n) (h1 : 0 < R.length) : ∃ g1 o1 c1 g2 o2 c2, S = [b, g1, g2] ∧ QRaw w b g1 o1 c1 g2 o2 c2 (Qu.th n R) (Qu.ln R) := by
  obtain ⟨b', v1, v2, T1, T2, e, hb, e1, e2, d1, d2, d3, rfl, hv⟩ := h
  obtain rfl : b = b' := by simpa using e
  obtain ⟨a1, c1, rfl⟩ := e1.shape
  obtain ⟨a2, c2, rfl⟩ := e2.shape
  obtain ⟨g1, o1, rfl, rfl, _⟩ := e1.cells t3_len (by rw [Qu.th_len]; exact h0)
  obtain ⟨g2, o2, rfl, rfl, _⟩ := e2.cells t3_len (by simp [Qu.ln]; omega)
  exact ⟨g1, o1, c1, g2, o2, c2, rfl, hb, e1, e2, by simpa using d1, by simpa using d2, by simpa using d3⟩
end
section
variable {w w' : World} {b g1 o1 c1 g2 o2 c2 n : Nat} {A B : List (Int × Int × Int)}
theorem QRaw.q {R : List (List Int)} (h : QRaw w b g1 o1 c1 g2 o2 c2 A B) (hA : A = Qu.th n R) (hB : B = Qu.ln R) (hv : Qu.Inv n R) : Qq w (.pointer (some ⟨b, 0, none⟩)) n R [b, g1, g2] := by
  subst hA hB
  obtain ⟨h1, h2, h3, d1, d2, d3⟩ := h
  exact ⟨b, _, _, [g1], [g2], rfl, h1, h2, h3, by simpa using d1, by simpa using d2, by simpa using d3, rfl, hv⟩
theorem QRaw.drewN (h : QRaw w b g1 o1 c1 g2 o2 c2 A B) (m : Nat) : QRaw (w.drewN m) b g1 o1 c1 g2 o2 c2 A B := h
theorem QRaw.drew (h : QRaw w b g1 o1 c1 g2 o2 c2 A B) : QRaw w.drew b g1 o1 c1 g2 o2 c2 A B := h
theorem QRaw.thing (h : QRaw w b g1 o1 c1 g2 o2 c2 A B) {x : Nat} {t : Int × Int × Int} (hx : A[x]? = some t) :
    (w.cell? ⟨g1, o1 + x * 3, none⟩ = some (.int .i64 t.1) ∧ w.cell? ⟨g1, o1 + x * 3 + 1, none⟩ = some (.int .i64 t.2.1) ∧ w.cell? ⟨g1, o1 + x * 3 + 2, none⟩ = some (.int .i64 t.2.2)) ∧
      w.frozen? ⟨g1, o1 + x * 3, none⟩ = false ∧ w.frozen? ⟨g1, o1 + x * 3 + 1, none⟩ = false ∧ w.frozen? ⟨g1, o1 + x * 3 + 2, none⟩ = false := by
  obtain ⟨_, h2, _, _⟩ := h
  obtain ⟨g', o', e, _, _, hc, hf⟩ := h2.cells t3_len (by have := (List.getElem?_eq_some_iff.1 hx).1; omega)
  obtain ⟨rfl, rfl⟩ := by simpa using e
  refine ⟨⟨hc x t 0 hx (by omega), ?_, ?_⟩, hf _, ?_, ?_⟩
  · rw [Nat.add_assoc]; exact hc x t 1 hx (by omega)
  · rw [Nat.add_assoc]; exact hc x t 2 hx (by omega)
  · rw [Nat.add_assoc]; exact hf _
  · rw [Nat.add_assoc]; exact hf _
theorem QRaw.line (h : QRaw w b g1 o1 c1 g2 o2 c2 A B) {x : Nat} {t : Int × Int × Int} (hx : B[x]? = some t) :
    (w.cell? ⟨g2, o2 + x * 3, none⟩ = some (.int .i64 t.1) ∧ w.cell? ⟨g2, o2 + x * 3 + 1, none⟩ = some (.int .i64 t.2.1) ∧ w.cell? ⟨g2, o2 + x * 3 + 2, none⟩ = some (.int .i64 t.2.2)) ∧
      w.frozen? ⟨g2, o2 + x * 3, none⟩ = false ∧ w.frozen? ⟨g2, o2 + x * 3 + 1, none⟩ = false ∧ w.frozen? ⟨g2, o2 + x * 3 + 2, none⟩ = false := by
  obtain ⟨_, _, h2, _⟩ := h
  obtain ⟨g', o', e, _, _, hc, hf⟩ := h2.cells t3_len (by have := (List.getElem?_eq_some_iff.1 hx).1; omega)
  obtain ⟨rfl, rfl⟩ := by simpa using e
  refine ⟨⟨hc x t 0 hx (by omega), ?_, ?_⟩, hf _, ?_, ?_⟩
  · rw [Nat.add_assoc]; exact hc x t 1 hx (by omega)
  · rw [Nat.add_assoc]; exact hc x t 2 hx (by omega)
  · rw [Nat.add_assoc]; exact hf _
  · rw [Nat.add_assoc]; exact hf _
theorem QRaw.head (h : QRaw w b g1 o1 c1 g2 o2 c2 A B) : w.cell? ⟨b, 0, none⟩ = some (.slice (some ⟨g1, o1, none⟩) A.length c1) ∧ w.cell? ⟨b, 1, none⟩ = some (.slice (some ⟨g2, o2, none⟩) B.length c2) := ⟨h.1.cell 0, h.1.cell 1⟩
theorem QRaw.setT (h : QRaw w b g1 o1 c1 g2 o2 c2 A B) {x j : Nat} {t t' : Int × Int × Int} {u : Value} (hx : A[x]? = some t) (hj : j < 3) (ht : t3 t' = (t3 t).set j u) :
    QRaw (w.setCell ⟨g1, o1 + (x * 3 + j), none⟩ u) b g1 o1 c1 g2 o2 c2 (A.set x t') B := by
  obtain ⟨h1, h2, h3, d1, d2, d3⟩ := h
  refine ⟨?_, ?_, ?_, d1, d2, d3⟩
  · rw [List.length_set]; exact h1.other d1 _
  · rw [List.length_set]; exact (h2.stored t3_len hx hj ht).1
  · exact h3.keep ((Keeps.refl [g1] w).setCell (by simp) _) (by simpa using fun e => d3 e.symm)
theorem QRaw.setL (h : QRaw w b g1 o1 c1 g2 o2 c2 A B) {x j : Nat} {t t' : Int × Int × Int} {u : Value} (hx : B[x]? = some t) (hj : j < 3) (ht : t3 t' = (t3 t).set j u) :
    QRaw (w.setCell ⟨g2, o2 + (x * 3 + j), none⟩ u) b g1 o1 c1 g2 o2 c2 A (B.set x t') := by
  obtain ⟨h1, h2, h3, d1, d2, d3⟩ := h
  refine ⟨?_, ?_, ?_, d1, d2, d3⟩
  · rw [List.length_set]; exact h1.other d2 _
  · exact h2.keep ((Keeps.refl [g2] w).setCell (by simp) _) (by simpa using d3)
  · rw [List.length_set]; exact (h3.stored t3_len hx hj ht).1
theorem QRaw.t1 (h : QRaw w b g1 o1 c1 g2 o2 c2 A B) {x : Nat} {t : Int × Int × Int} (hx : A[x]? = some t) (v : Int) : QRaw (w.setCell ⟨g1, o1 + x * 3 + 1, none⟩ (.int .i64 v)) b g1 o1 c1 g2 o2 c2 (A.set x (t.1, v, t.2.2)) B := by
  rw [Nat.add_assoc]; exact h.setT hx (by omega) rfl
theorem QRaw.t2 (h : QRaw w b g1 o1 c1 g2 o2 c2 A B) {x : Nat} {t : Int × Int × Int} (hx : A[x]? = some t) (v : Int) : QRaw (w.setCell ⟨g1, o1 + x * 3 + 2, none⟩ (.int .i64 v)) b g1 o1 c1 g2 o2 c2 (A.set x (t.1, t.2.1, v)) B := by
  rw [Nat.add_assoc]; exact h.setT hx (by omega) rfl
theorem QRaw.t0 (h : QRaw w b g1 o1 c1 g2 o2 c2 A B) {x : Nat} {t : Int × Int × Int} (hx : A[x]? = some t) (v : Int) : QRaw (w.setCell ⟨g1, o1 + x * 3, none⟩ (.int .i64 v)) b g1 o1 c1 g2 o2 c2 (A.set x (v, t.2)) B := by
  have := h.setT (t' := (v, t.2)) (u := .int .i64 v) hx (show 0 < 3 by omega) rfl
  exact this
theorem QRaw.l1 (h : QRaw w b g1 o1 c1 g2 o2 c2 A B) {x : Nat} {t : Int × Int × Int} (hx : B[x]? = some t) (v : Int) : QRaw (w.setCell ⟨g2, o2 + x * 3 + 1, none⟩ (.int .i64 v)) b g1 o1 c1 g2 o2 c2 A (B.set x (t.1, v, t.2.2)) := by
  rw [Nat.add_assoc]; exact h.setL hx (by omega) rfl
theorem QRaw.l2 (h : QRaw w b g1 o1 c1 g2 o2 c2 A B) {x : Nat} {t : Int × Int × Int} (hx : B[x]? = some t) (v : Int) : QRaw (w.setCell ⟨g2, o2 + x * 3 + 2, none⟩ (.int .i64 v)) b g1 o1 c1 g2 o2 c2 A (B.set x (t.1, t.2.1, v)) := by
  rw [Nat.add_assoc]; exact h.setL hx (by omega) rfl
theorem QRaw.l0 (h : QRaw w b g1 o1 c1 g2 o2 c2 A B) {x : Nat} {t : Int × Int × Int} (hx : B[x]? = some t) (v : Int) : QRaw (w.setCell ⟨g2, o2 + x * 3, none⟩ (.int .i64 v)) b g1 o1 c1 g2 o2 c2 A (B.set x (v, t.2)) := by
  have := h.setL (t' := (v, t.2)) (u := .int .i64 v) hx (show 0 < 3 by omega) rfl
  exact this
theorem QRaw.tAll (h : QRaw w b g1 o1 c1 g2 o2 c2 A B) {x : Nat} (hx : x < A.length) (a c d : Int) :
    QRaw (((w.setCell ⟨g1, o1 + x * 3, none⟩ (.int .i64 a)).setCell ⟨g1, o1 + x * 3 + 1, none⟩ (.int .i64 c)).setCell ⟨g1, o1 + x * 3 + 2, none⟩ (.int .i64 d)) b g1 o1 c1 g2 o2 c2 (A.set x (a, c, d)) B := by
  have e := List.getElem?_eq_getElem hx
  have h1 := h.t0 e a
  have h2 := h1.t1 (x := x) (t := (a, A[x].2)) (by simp [hx]) c
  have h3 := h2.t2 (x := x) (t := (a, c, A[x].2.2)) (by simp [hx]) d
  simpa using h3
end

namespace Qu
def line (R : List (List Int)) (k : Int) : Bool := decide (0 ≤ k) && decide (k < R.length)
def inn (R : List (List Int)) (x : Int) : Int × Bool := match loc R x with
  | some k => (k, true)
  | none => (0, false)
def row (R : List (List Int)) (k : Int) : List Int := if line R k then R.getD k.toNat [] else []
def first (R : List (List Int)) (k : Int) : Int × Bool := if row R k = [] then (0, false) else ((row R k).headD (-1), true)
theorem line_nat {R : List (List Int)} {k : Int} (h : line R k = true) : ∃ j : Nat, k = j ∧ j < R.length := by
  simp only [line, Bool.and_eq_true, decide_eq_true_eq] at h
  obtain ⟨j, rfl⟩ := Int.eq_ofNat_of_zero_le h.1
  exact ⟨j, rfl, by omega⟩
theorem row_nat {R : List (List Int)} {j : Nat} (h : j < R.length) : row R j = R.getD j [] := by simp [row, line, h]
end Qu

theorem queue_line (w : World) (p : Value) (n : Nat) (R : List (List Int)) (S : List Nat) (k : Int) (h : Qq w p n R S) :
    Calls Try.prog 43 #[p, .int .i64 k] w fun e w' => e = .returned (.bool (Qu.line R k)) ∧ w = w' := by
  obtain ⟨b, v1, v2, T1, T2, rfl, hb, h1, h2, d1, d2, d3, rfl, hv⟩ := h
  obtain ⟨ao, cap, rfl⟩ := h2.shape
  have hl : (Qu.ln R).length = R.length := by simp [Qu.ln]
  have hr := hv.r64
  rw [hl] at hb
  have c1 : w.cell? ⟨b, 1, none⟩ = some (.slice ao R.length cap) := hb.cell 1
  clear hb h1 h2 hv hl
  cases h1 : decide (0 ≤ k) with
  | true =>
    go_enter Try.func43, Try.ntmps43
    go_wp2
    go_ret
    exact ⟨ret_bool (by simp [Qu.line, h1]), rfl⟩
  | false =>
    go_enter Try.func43, Try.ntmps43
    go_wp2
    go_ret
    exact ⟨ret_bool (by simp [Qu.line, h1]), rfl⟩

/-- lines alone, as the walk asks -/
theorem Qq.lineAt {w : World} {b n : Nat} {R : List (List Int)} {S : List Nat} (h : Qq w (.pointer (some ⟨b, 0, none⟩)) n R S) {j : Nat} (hj : j < R.length) : ∃ g2 o2 c2, w.cell? ⟨b, 1, none⟩ = some (.slice (some ⟨g2, o2, none⟩) R.length c2) ∧
    w.cell? ⟨g2, o2 + j * 3, none⟩ = some (.int .i64 ((R.getD j []).headD (-1))) ∧ w.cell? ⟨g2, o2 + j * 3 + 2, none⟩ = some (.int .i64 (R.getD j []).length) := by
  obtain ⟨b', v1, v2, T1, T2, e, hb, e1, e2, d1, d2, d3, rfl, hv⟩ := h
  obtain rfl : b = b' := by simpa using e
  obtain ⟨a2, c2, rfl⟩ := e2.shape
  have hl : (Qu.ln R).length = R.length := by simp [Qu.ln]
  obtain ⟨g2, o2, rfl, rfl, _, hc, _⟩ := e2.cells t3_len (by omega)
  have hx := Qu.ln_get hj
  refine ⟨g2, o2, c2, by rw [← hl]; exact hb.cell 1, hc j _ 0 hx (by omega), ?_⟩
  rw [Nat.add_assoc]; exact hc j _ 2 hx (by omega)

/-- things alone, as the walk asks -/
theorem Qq.thingAt {w : World} {b n : Nat} {R : List (List Int)} {S : List Nat} (h : Qq w (.pointer (some ⟨b, 0, none⟩)) n R S) {x : Nat} (hx : x < n) : ∃ g1 o1 c1, w.cell? ⟨b, 0, none⟩ = some (.slice (some ⟨g1, o1, none⟩) n c1) ∧ g1 ∈ S ∧
    w.cell? ⟨g1, o1 + x * 3, none⟩ = some (.int .i64 (Qu.tc R x).1) ∧ w.cell? ⟨g1, o1 + x * 3 + 1, none⟩ = some (.int .i64 (Qu.tc R x).2.1) := by
  obtain ⟨b', v1, v2, T1, T2, e, hb, e1, e2, d1, d2, d3, rfl, hv⟩ := h
  obtain rfl : b = b' := by simpa using e
  obtain ⟨a1, c1, rfl⟩ := e1.shape
  have hl := Qu.th_len n R
  obtain ⟨g1, o1, rfl, rfl, _, hc, _⟩ := e1.cells t3_len (by omega)
  have hg := Qu.th_get (R := R) hx
  refine ⟨g1, o1, c1, by have := hb.cell 0; rw [hl] at this; exact this, by simp, hc x _ 0 hg (by omega), ?_⟩
  rw [Nat.add_assoc]; exact hc x _ 1 hg (by omega)
theorem Qq.head0 {w : World} {b n : Nat} {R : List (List Int)} {S : List Nat} (h : Qq w (.pointer (some ⟨b, 0, none⟩)) n R S) : ∃ ao c1, w.cell? ⟨b, 0, none⟩ = some (.slice ao n c1) := by
  obtain ⟨b', v1, v2, T1, T2, e, hb, e1, e2, d1, d2, d3, rfl, hv⟩ := h
  obtain rfl : b = b' := by simpa using e
  obtain ⟨a1, c1, rfl⟩ := e1.shape
  exact ⟨a1, c1, by have := hb.cell 0; rw [Qu.th_len] at this; exact this⟩

end Go.Proofs.Ytofnbflkhgammaa
