/-
  Slices of structs (each element some cells), read or owned, as lists.
  Conditions: none.
-/
import Derived.Test.YtopkfhmdgheghaaInts
namespace Go.Proofs.Ytopkfhmdgheghaa
open Go.RowKit
set_option linter.unusedVariables false
set_option linter.unusedSimpArgs false
set_option linter.unnecessarySimpa false

section
variable {α : Type} {f : α → List Value} {sz : Nat}
theorem flat_len (hf : ∀ x, (f x).length = sz) : ∀ l : List α, (l.flatMap f).length = l.length * sz
  | [] => by simp
  | y :: r => by rw [List.flatMap_cons, List.length_append, hf, flat_len hf r, List.length_cons, Nat.add_mul]; omega
theorem flat_get (hf : ∀ x, (f x).length = sz) {x : α} {j : Nat} (hj : j < sz) : ∀ (l : List α) (k : Nat), l[k]? = some x → (l.flatMap f)[k * sz + j]? = (f x)[j]?
  | [], k, h => by simp at h
  | y :: r, 0, h => by
    simp at h; subst h
    rw [List.flatMap_cons, List.getElem?_append_left (by rw [hf]; omega)]; simp
  | y :: r, k + 1, h => by
    have e : (k + 1) * sz = k * sz + sz := by rw [Nat.add_mul]; omega
    rw [List.flatMap_cons, List.getElem?_append_right (by rw [hf]; omega), hf, show (k + 1) * sz + j - sz = k * sz + j by omega]
    exact flat_get hf hj r k (by simpa using h)
theorem flat_set (hf : ∀ x, (f x).length = sz) {x x' : α} {j : Nat} {u : Value} (hj : j < sz) (hx : f x' = (f x).set j u) : ∀ (l : List α) (k : Nat), l[k]? = some x → (l.set k x').flatMap f = (l.flatMap f).set (k * sz + j) u
  | [], k, h => by simp at h
  | y :: r, 0, h => by
    simp at h; subst h
    rw [List.set_cons_zero, List.flatMap_cons, List.flatMap_cons, hx, List.set_append_left _ _ (by rw [hf]; omega)]; simp
  | y :: r, k + 1, h => by
    have e : (k + 1) * sz = k * sz + sz := by rw [Nat.add_mul]; omega
    rw [List.set_cons_succ, List.flatMap_cons, List.flatMap_cons, List.set_append_right _ _ (by rw [hf]; omega), hf, show (k + 1) * sz + j - sz = k * sz + j by omega]
    rw [flat_set hf hj hx r k (by simpa using h)]
end

section
variable {α : Type} {f : α → List Value} {sz : Nat}
theorem flat_made (hf : ∀ x, (f x).length = sz) {x0 : α} {z : Array Value} (hz : z.toList = f x0) (hs : 0 < sz) (n : Nat) : (madeCells z (n * sz)).toList = (List.replicate n x0).flatMap f := by
  apply List.ext_getElem?
  intro i
  have hzs : z.size = sz := by rw [← Array.length_toList, hz, hf]
  by_cases hi : i < n * sz
  · have hj : i % sz < sz := Nat.mod_lt _ hs
    have hk : i / sz < n := Nat.div_lt_of_lt_mul (by rwa [Nat.mul_comm])
    have h := flat_get hf hj (List.replicate n x0) (i / sz) (x := x0) (by simp [hk])
    rw [Nat.div_add_mod'] at h
    rw [h, ← hz]
    simp [madeCells, hi, hzs, hj]
  · rw [List.getElem?_eq_none (by rw [Array.length_toList, size_madeCells]; omega), List.getElem?_eq_none (by rw [flat_len hf]; simp; omega)]
end

theorem View.alloc2 {w : World} {v : Value} {sz n : Nat} {xs : List Value} {S : List Nat} (h : View w v sz n xs S) (o1 o2 : Obj) : View ((w.alloc o1).alloc o2) v sz n xs S := View.then h (((Keeps.refl [] w).alloc o1).alloc o2)

/-- v reads as the elements l; f: an element's cells -/
def EV {α : Type} (f : α → List Value) (sz : Nat) (w : World) (v : Value) (l : List α) (S : List Nat) : Prop := View w v sz l.length (l.flatMap f) S
/-- v owns the elements l (e: their type) -/
def ER {α : Type} (f : α → List Value) (sz : Nat) (w : World) (v : Value) (e : TypeId) (l : List α) (S : List Nat) : Prop := Row w v e sz l.length (l.flatMap f) S

section
variable {α : Type} {f : α → List Value} {sz : Nat} {w w' : World} {v : Value} {l : List α} {S T : List Nat} {e : TypeId}
theorem ER.ev (h : ER f sz w v e l S) : EV f sz w v l S := Row.view h
theorem EV.keep (h : EV f sz w v l S) (k : Keeps T w w') (hn : ∀ x ∈ S, x ∉ T) : EV f sz w' v l S := View.keep h k hn
theorem EV.then (h : EV f sz w v l S) (k : Keeps [] w w') : EV f sz w' v l S := View.then h k
theorem ER.keep (h : ER f sz w v e l S) (k : Keeps T w w') (hn : ∀ x ∈ S, x ∉ T) : ER f sz w' v e l S := Row.keep h k hn
theorem ER.then (h : ER f sz w v e l S) (k : Keeps [] w w') : ER f sz w' v e l S := Row.then h k
theorem EV.shape (h : EV f sz w v l S) : ∃ ao cap, v = .slice ao l.length cap := View.shape h
theorem ER.shape (h : ER f sz w v e l S) : ∃ ao cap, v = .slice ao l.length cap := Row.shape h
theorem EV.le (h : EV f sz w v l S) : l.length ≤ maxLen := View.le h
theorem ER.le (h : ER f sz w v e l S) : l.length ≤ maxLen := Row.le h
theorem EV.lt (h : EV f sz w v l S) : ∀ k ∈ S, k < w.heap.size := View.lt h
theorem ER.lt (h : ER f sz w v e l S) : ∀ k ∈ S, k < w.heap.size := Row.lt h
theorem EV.nil (f : α → List Value) (sz : Nat) (w : World) : EV f sz w (.slice none 0 0) [] [] := View.nil w sz
theorem ER.nil (f : α → List Value) (sz : Nat) (w : World) (e : TypeId) : ER f sz w (.slice none 0 0) e [] [] := Row.nil w e sz
theorem ER.made (hf : ∀ x, (f x).length = sz) {x0 : α} {z : Array Value} {n : Nat} (hz : z.toList = f x0) (hs : 0 < sz) (h : Row w v e sz n (madeCells z (n * sz)).toList S) : ER f sz w v e (List.replicate n x0) S := by
  unfold ER; rw [flat_made hf hz hs] at h; rw [List.length_replicate]; exact h
theorem ER.lit (f : α → List Value) (sz : Nat) (w : World) (e : TypeId) (b : Nat) (hb : b = w.heap.size) : ER f sz (w.alloc (.cells #[] e)) (.slice (some ⟨b, 0, none⟩) 0 0) e [] [b] := by
  subst hb; exact Row.lit w [] e sz 0 (by simp) (by simp [maxLen])
theorem EV.cells {ao : Option Addr} {m cap : Nat} (hf : ∀ x, (f x).length = sz) (h : EV f sz w (.slice ao m cap) l S) (hp : 0 < l.length) :
    ∃ g off, ao = some ⟨g, off, none⟩ ∧ S = [g] ∧ g < w.heap.size ∧ ∀ k x j, l[k]? = some x → j < sz → w.cell? ⟨g, off + (k * sz + j), none⟩ = (f x)[j]? := by
  obtain ⟨g, off, h1, h2, h3, h4⟩ := View.cell h hp
  refine ⟨g, off, h1, h2, h3, fun k x j hk hj => ?_⟩
  have hkl := (List.getElem?_eq_some_iff.1 hk).1
  have h5 : (k + 1) * sz ≤ l.length * sz := Nat.mul_le_mul_right _ hkl
  rw [Nat.add_mul] at h5
  rw [h4 _ (by rw [flat_len hf]; omega), flat_get hf hj l k hk]
theorem ER.cells {ao : Option Addr} {m cap : Nat} (hf : ∀ x, (f x).length = sz) (h : ER f sz w (.slice ao m cap) e l S) (hp : 0 < l.length) :
    ∃ g off, ao = some ⟨g, off, none⟩ ∧ S = [g] ∧ g < w.heap.size ∧ (∀ k x j, l[k]? = some x → j < sz → w.cell? ⟨g, off + (k * sz + j), none⟩ = (f x)[j]?) ∧ ∀ k, w.frozen? ⟨g, off + k, none⟩ = false := by
  obtain ⟨g, off, h1, h2, h3, h4, h5⟩ := Row.cells h hp
  refine ⟨g, off, h1, h2, h3, fun k x j hk hj => ?_, h5⟩
  have hkl := (List.getElem?_eq_some_iff.1 hk).1
  have h6 : (k + 1) * sz ≤ l.length * sz := Nat.mul_le_mul_right _ hkl
  rw [Nat.add_mul] at h6
  rw [h4 _ (by rw [flat_len hf]; omega), flat_get hf hj l k hk]
theorem ER.stored {g off m cap : Nat} (hf : ∀ x, (f x).length = sz) (h : ER f sz w (.slice (some ⟨g, off, none⟩) m cap) e l S) {k j : Nat} {x x' : α} {u : Value} (hk : l[k]? = some x) (hj : j < sz) (hx : f x' = (f x).set j u) :
    ER f sz (w.setCell ⟨g, off + (k * sz + j), none⟩ u) (.slice (some ⟨g, off, none⟩) m cap) e (l.set k x') S ∧ Keeps S w (w.setCell ⟨g, off + (k * sz + j), none⟩ u) := by
  have hkl := (List.getElem?_eq_some_iff.1 hk).1
  have h6 : (k + 1) * sz ≤ l.length * sz := Nat.mul_le_mul_right _ hkl
  rw [Nat.add_mul] at h6
  have := Row.stored h (k * sz + j) (by rw [flat_len hf]; omega) u
  refine ⟨?_, this.2⟩
  unfold ER
  rw [flat_set hf hj hx l k hk, List.length_set]
  exact this.1
end
end Go.Proofs.Ytopkfhmdgheghaa
