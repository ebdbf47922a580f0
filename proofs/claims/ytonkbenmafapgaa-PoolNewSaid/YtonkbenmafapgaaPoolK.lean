/-
  Package pool, for PoolNew: the plain law: Of answers as Right does.
  Conditions: none.
-/
import Derived.Test.YtonkbenmafapgaaPoolJ
namespace Go.Proofs.Ytonkbenmafapgaa
set_option linter.unusedVariables false
set_option linter.unusedSimpArgs false
set_option linter.unnecessarySimpa false
namespace Po
theorem live_iff {f : Int} {H : List Bool} {x : Int} : live f H x = true ↔ 0 ≤ x ∧ x < f ∧ H.getD x.toNat false = false := by
  simp [live, and_assoc]
theorem settle_iff (f : Int) : ∀ (L : List Int) (H : List Bool), f ≤ H.length → ((settle f H L).2 = true ↔ (∀ x ∈ L, 0 ≤ x ∧ x < f) ∧ L.Nodup ∧ ∀ x ∈ L, H.getD x.toNat false = false)
  | [], H, _ => by simp [settle]
  | x :: r, H, hf => by
    rw [settle_cons]
    by_cases h : live f H x = true
    · rw [if_pos h, settle_iff f r _ (by simpa using hf)]
      obtain ⟨h1, h2, h3⟩ := live_iff.1 h
      have hx : x.toNat < H.length := by omega
      constructor
      · rintro ⟨a, b, c⟩
        refine ⟨fun y hy => ?_, List.nodup_cons.2 ⟨fun hm => ?_, b⟩, fun y hy => ?_⟩
        · rcases List.mem_cons.1 hy with rfl | hy
          · exact ⟨h1, h2⟩
          · exact a y hy
        · have := c x hm
          rw [getD_set _ _ _ _ _ hx, if_pos rfl] at this
          cases this
        · rcases List.mem_cons.1 hy with rfl | hy
          · exact h3
          · have := c y hy
            rw [getD_set _ _ _ _ _ hx] at this
            by_cases e : x.toNat = y.toNat
            · rw [if_pos e] at this; cases this
            · rwa [if_neg e] at this
      · rintro ⟨a, b, c⟩
        obtain ⟨b1, b2⟩ := List.nodup_cons.1 b
        refine ⟨fun y hy => a y (by simp [hy]), b2, fun y hy => ?_⟩
        have hxy : x ≠ y := fun e => b1 (e ▸ hy)
        have hy1 := (a y (by simp [hy])).1
        rw [getD_set _ _ _ _ _ hx, if_neg (by omega)]
        exact c y (by simp [hy])
    · rw [if_neg h]
      simp only [Bool.false_eq_true, false_iff]
      rintro ⟨a, b, c⟩
      exact h (live_iff.2 ⟨(a x (by simp)).1, (a x (by simp)).2, c x (by simp)⟩)
theorem once_iff {f : Int} {L : List Int} : once f L = true ↔ (∀ x ∈ L, 0 ≤ x ∧ x < f) ∧ L.Nodup := by
  unfold once
  rw [decide_eq_true_iff]
  have hg : ∀ i (h : i < L.length), L.getD i 0 = L[i] := fun i h => by simp [List.getD, h]
  constructor
  · intro h
    refine ⟨fun x hx => ?_, List.pairwise_iff_getElem.2 fun i j hi hj hij e => ?_⟩
    · obtain ⟨i, hi, rfl⟩ := List.mem_iff_getElem.1 hx
      have := h i hi
      rw [hg i hi] at this
      exact ⟨this.1, this.2.1⟩
    · have := (h j hj).2.2
      rw [hg j hj] at this
      exact this (List.mem_iff_getElem.2 ⟨i, by simp; omega, by simp [e]⟩)
  · rintro ⟨a, b⟩ i hi
    rw [hg i hi]
    refine ⟨(a _ (List.getElem_mem hi)).1, (a _ (List.getElem_mem hi)).2, fun hm => ?_⟩
    obtain ⟨j, hj, e⟩ := List.mem_iff_getElem.1 hm
    have hj2 : j < i := by simp at hj; omega
    exact List.pairwise_iff_getElem.1 b j i (by omega) hi hj2 (by simpa using e)
theorem of_right (size most f : Int) (C : List (List Int)) (M : List Int) : of size most f C M = right size most f C M := by
  unfold of right
  by_cases h1 : fits size C.length most = true
  · by_cases h2 : 0 ≤ f ∧ f ≤ size
    · have hs := (fits_le h1).1
      have hf : f ≤ ((List.replicate size.toNat false).length : Int) := by simp; omega
      have e : (settle f (List.replicate size.toNat false) (C.flatten ++ M)).2 = once f (M ++ C.flatten) := by
        rw [Bool.eq_iff_iff, settle_iff f _ _ hf, once_iff]
        have hr : ∀ j, (List.replicate size.toNat false).getD j false = false := fun j => by
          rw [List.getD_eq_getElem?_getD, List.getElem?_replicate]; split <;> rfl
        have hn : (C.flatten ++ M).Nodup ↔ (M ++ C.flatten).Nodup := by
          rw [List.nodup_append, List.nodup_append]
          constructor
          · rintro ⟨a, b, c⟩; exact ⟨b, a, fun x hx y hy e => c y hy x hx e.symm⟩
          · rintro ⟨a, b, c⟩; exact ⟨b, a, fun x hx y hy e => c y hy x hx e.symm⟩
        constructor
        · rintro ⟨a, b, _⟩
          exact ⟨fun x hx => a x (by rw [List.mem_append] at hx ⊢; exact hx.symm), hn.1 b⟩
        · rintro ⟨a, b⟩
          exact ⟨fun x hx => a x (by rw [List.mem_append] at hx ⊢; exact hx.symm), hn.2 b, fun x _ => hr _⟩
      rw [e]
    · have : (decide (0 ≤ f) && decide (f ≤ size)) = false := by
        rw [Bool.eq_false_iff]; simpa using h2
      rw [Bool.and_assoc (fits _ _ _), this]; simp
  · rw [Bool.eq_false_iff.2 h1]; simp
end Po
end Go.Proofs.Ytonkbenmafapgaa
