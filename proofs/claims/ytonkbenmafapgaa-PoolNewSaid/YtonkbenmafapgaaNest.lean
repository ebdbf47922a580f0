/-
  A slice of slices of ints that is owned: the outer row, and each inner one, in blocks of their own.
  Conditions: none.
-/
import Derived.Test.YtonkbenmafapgaaElems
namespace Go.Proofs.Ytonkbenmafapgaa
open Go.RowKit
set_option linter.unusedVariables false
set_option linter.unusedSimpArgs false
set_option linter.unnecessarySimpa false

/-- the outer slice v owns the cells vs (type es, blocks T); cell k owns the numbers ll[k] (type e, blocks Us[k]) -/
def NR (w : World) (v : Value) (es e : TypeId) (ll : List (List Int)) (T : List Nat) (Us : List (List Nat)) : Prop :=
  ∃ vs : List Value, Row w v es 1 ll.length vs T ∧ Us.length = ll.length ∧
    (∀ (k : Nat) x U l, vs[k]? = some x → Us[k]? = some U → ll[k]? = some l → IR w x e l U) ∧
    (∀ U ∈ Us, ∀ x ∈ U, x ∉ T) ∧ (∀ (i j : Nat) A B, i ≠ j → Us[i]? = some A → Us[j]? = some B → ∀ x ∈ A, x ∉ B)

/-- s[:k] of an owned row -/
theorem IR.prefix {w : World} {g off cap : Nat} {e : TypeId} {l : List Int} {S : List Nat} (h : IR w (.slice (some ⟨g, off, none⟩) l.length cap) e l S) (k : Nat) (hk : k ≤ l.length) :
    IR w (.slice (some ⟨g, off, none⟩) k cap) e (l.take k) S := by
  obtain ⟨h0, ao, cap', h1, h2, h3, h4⟩ := h
  obtain ⟨rfl, rfl⟩ := by simpa using h1
  rcases h4 with ⟨h4, _⟩ | ⟨g', off', cur, h4, rfl, hb, hl, hc⟩
  · cases h4
  · obtain ⟨rfl, rfl⟩ := by simpa using h4
    have e : (l.take k).length = k := by simp; omega
    refine ⟨by simp, _, cap, by rw [e], by rw [e]; omega, h3, .inr ⟨g, off, cur, rfl, rfl, hb, hl, fun j hj => ?_⟩⟩
    have hj' : j < k := by simp at hj; omega
    rw [hc j (by simp; omega)]
    simp [hj', List.getElem?_take]

section
variable {w w' : World} {v : Value} {es e : TypeId} {ll : List (List Int)} {T S : List Nat} {Us : List (List Nat)}
theorem NR.shape (h : NR w v es e ll T Us) : ∃ ao cap, v = .slice ao ll.length cap := by
  obtain ⟨vs, h, _⟩ := h; exact h.shape
theorem NR.le (h : NR w v es e ll T Us) : ll.length ≤ maxLen := by
  obtain ⟨vs, h, _⟩ := h; exact h.le
theorem NR.keep (h : NR w v es e ll T Us) (k : Keeps S w w') (h1 : ∀ x ∈ T, x ∉ S) (h2 : ∀ U ∈ Us, ∀ x ∈ U, x ∉ S) : NR w' v es e ll T Us := by
  obtain ⟨vs, hr, hl, hi, hd, hp⟩ := h
  exact ⟨vs, hr.keep k h1, hl, fun j x U l a b c => (hi j x U l a b c).keep k (h2 U (List.mem_of_getElem? b)), hd, hp⟩
theorem NR.then (h : NR w v es e ll T Us) (k : Keeps [] w w') : NR w' v es e ll T Us := h.keep k (by simp) (by simp)
theorem NR.lt (h : NR w v es e ll T Us) : (∀ x ∈ T, x < w.heap.size) ∧ ∀ U ∈ Us, ∀ x ∈ U, x < w.heap.size := by
  obtain ⟨vs, hr, hl, hi, hd, hp⟩ := h
  refine ⟨hr.lt, fun U hU x hx => ?_⟩
  obtain ⟨k, hk⟩ := List.mem_iff_getElem?.1 hU
  have hkl : k < ll.length := by rw [← hl]; exact (List.getElem?_eq_some_iff.1 hk).1
  have hvl : k < vs.length := by rw [hr.len]; omega
  exact (hi k _ U _ (List.getElem?_eq_getElem hvl) hk (List.getElem?_eq_getElem hkl)).lt x hx
/-- one inner slice -/
theorem NR.get {ao : Option Addr} {m cap : Nat} (h : NR w (.slice ao m cap) es e ll T Us) {k : Nat} {l : List Int} (hk : ll[k]? = some l) :
    ∃ g off x U, ao = some ⟨g, off, none⟩ ∧ T = [g] ∧ g < w.heap.size ∧ w.cell? ⟨g, off + k, none⟩ = some x ∧ w.frozen? ⟨g, off + k, none⟩ = false ∧ IR w x e l U ∧ Us[k]? = some U ∧ g ∉ U := by
  obtain ⟨vs, hr, hl, hi, hd, hp⟩ := h
  have hkl := (List.getElem?_eq_some_iff.1 hk).1
  have hvl : k < vs.length := by rw [hr.len]; omega
  have hul : k < Us.length := by omega
  obtain ⟨g, off, rfl, rfl, hg, hc, hf⟩ := hr.cells (by omega)
  have hx := List.getElem?_eq_getElem hvl
  have hu := List.getElem?_eq_getElem hul
  exact ⟨g, off, _, _, rfl, rfl, hg, (hc k hvl).trans hx, hf k, hi k _ _ _ hx hu hk, hu, fun hm => hd _ (List.mem_of_getElem? hu) g hm (by simp)⟩
/-- one inner slice is another one: in w' it owns l' (blocks U', old ones of it or new), and its value x' is stored -/
theorem NR.put {g off m cap : Nat} (h : NR w (.slice (some ⟨g, off, none⟩) m cap) es e ll T Us) {k : Nat} {l l' : List Int} {U U' : List Nat} {x' : Value} (hk : ll[k]? = some l) (hU : Us[k]? = some U)
    (kp : Keeps U w w') (hr' : IR w' x' e l' U') (hn : ∀ x ∈ U', x ∈ U ∨ w.heap.size ≤ x) :
    NR (w'.setCell ⟨g, off + k, none⟩ x') (.slice (some ⟨g, off, none⟩) m cap) es e (ll.set k l') T (Us.set k U') ∧ Keeps (T ++ U) w (w'.setCell ⟨g, off + k, none⟩ x') := by
  have hlt := NR.lt h
  obtain ⟨vs, hr, hl, hi, hd, hp⟩ := h
  have hkl := (List.getElem?_eq_some_iff.1 hk).1
  have hvl : k < vs.length := by rw [hr.len]; omega
  have hTU : ∀ x ∈ T, x ∉ U := fun x hx hu => hd U (List.mem_of_getElem? hU) x hu hx
  have hr2 := hr.keep kp hTU
  obtain ⟨hs, hks⟩ := hr2.stored k hvl x'
  have hTU' : ∀ x ∈ U', x ∉ T := fun x hx ht => by
    rcases hn x hx with h | h
    · exact hTU x ht h
    · have := hlt.1 x ht; omega
  have hother : ∀ (j : Nat) B, j ≠ k → Us[j]? = some B → ∀ x ∈ B, x ∉ U' := fun j B hj hB x hx hx' => by
    rcases hn x hx' with h | h
    · exact hp j k B U hj hB hU x hx h
    · have := hlt.2 B (List.mem_of_getElem? hB) x hx; omega
  refine ⟨⟨vs.set k x', by rw [List.length_set]; exact hs, by simp [hl], ?_, ?_, ?_⟩, ?_⟩
  · intro j x A l2 a b c
    by_cases hj : k = j
    · subst hj
      rw [List.getElem?_set_self hvl] at a
      rw [List.getElem?_set_self (by omega)] at b c
      cases a; cases b; cases c
      exact hr'.keep hks hTU'
    · rw [List.getElem?_set_ne hj] at a b c
      exact ((hi j x A l2 a b c).keep kp (fun x hx => hp j k A U (fun e => hj e.symm) b hU x hx)).keep hks (fun x hx => hd A (List.mem_of_getElem? b) x hx)
  · intro A hA x hx
    rcases List.mem_or_eq_of_mem_set hA with h | rfl
    · exact hd A h x hx
    · exact hTU' x hx
  · intro i j A B hij hA hB x hx hxB
    by_cases hi' : k = i
    · subst hi'
      rw [List.getElem?_set_self (by omega)] at hA
      cases hA
      rw [List.getElem?_set_ne hij] at hB
      exact hother j B (fun e => hij e.symm) hB x hxB hx
    · rw [List.getElem?_set_ne hi'] at hA
      by_cases hj' : k = j
      · subst hj'
        rw [List.getElem?_set_self (by omega)] at hB
        cases hB
        exact hother i A (fun e => hi' e.symm) hA x hx hxB
      · rw [List.getElem?_set_ne hj'] at hB
        exact hp i j A B hij hA hB x hx hxB
  · exact (kp.mono (T := T ++ U) (fun x hx => by simp [hx])).trans (hks.mono (T := T ++ U) (fun x hx => by simp [hx])) (fun x hx => .inl hx)
end
end Go.Proofs.Ytonkbenmafapgaa
