/-
  Package pool, for PoolNew: what Of makes keeps the pool's law.
  Conditions: none.
-/
import Derived.Test.YtonkbenmafapgaaPoolK
namespace Go.Proofs.Ytonkbenmafapgaa
set_option linter.unusedVariables false
set_option linter.unusedSimpArgs false
set_option linter.unnecessarySimpa false
namespace Po
theorem settle_get (f : Int) : ∀ (L : List Int) (H : List Bool), f ≤ H.length → (settle f H L).2 = true → ∀ j : Nat, (settle f H L).1.getD j false = (H.getD j false || decide ((j : Int) ∈ L))
  | [], H, _, _, j => by simp [settle]
  | x :: r, H, hf, h, j => by
    rw [settle_cons] at h ⊢
    by_cases hl : live f H x = true
    · rw [if_pos hl] at h ⊢
      obtain ⟨h1, h2, h3⟩ := live_iff.1 hl
      have hx : x.toNat < H.length := by omega
      rw [settle_get f r _ (by simpa using hf) h j, getD_set _ _ _ _ _ hx]
      by_cases e : x.toNat = j
      · have ex : (j : Int) = x := by omega
        rw [if_pos e]; simp [ex]
      · have ex : ¬ (j : Int) = x := by omega
        rw [if_neg e]
        simp [ex]
    · rw [if_neg hl] at h; cases h
theorem of_inv {n m f : Nat} {C : List (List Int)} {M : List Int} {H : List Bool} (h : of n m f C M = true) (hs : settle f (List.replicate n false) (C.flatten ++ M) = (H, true)) : Inv n m ⟨C, M, f, H⟩ := by
  unfold of at h
  simp only [Bool.and_eq_true, decide_eq_true_eq] at h
  obtain ⟨⟨⟨⟨h1, h2⟩, h3⟩, h4⟩, h5⟩ := h
  obtain ⟨a1, a2, a3, a4, a5, a6⟩ := fits_le h1
  have hf : (f : Int) ≤ ((List.replicate n false).length : Int) := by simp; omega
  have h5' : (settle f (List.replicate n false) (C.flatten ++ M)).2 = true := by rw [hs]
  obtain ⟨b1, b2, b3⟩ := (settle_iff f _ _ hf).1 h5'
  have hget := settle_get f _ _ hf h5'
  rw [hs] at hget
  have hlen := settle_len f (List.replicate n false) (C.flatten ++ M)
  rw [hs] at hlen
  have hcnt : ∀ a, cnt ⟨C, M, f, H⟩ a = (C.flatten ++ M).count a := fun a => by
    unfold cnt; rw [List.count_append, Nat.add_comm]
  have h9 : f ≤ n := by omega
  have hone : ∀ a, (C.flatten ++ M).count a ≤ 1 := fun a => List.nodup_iff_count.1 b2 a
  refine ⟨by omega, by omega, by omega, by simpa using hlen, h9, fun a => by rw [hcnt]; exact hone a, fun a ha => ?_, fun x hx => ?_, fun c hc => by have := h4 c hc; omega⟩
  · rw [hcnt] at ha
    exact b1 a (List.count_pos_iff.1 ha)
  · have := hget x
    rw [hcnt]
    have hr : (List.replicate n false).getD x false = false := by
      rw [List.getD_eq_getElem?_getD, List.getElem?_replicate]; split <;> rfl
    rw [hr, Bool.false_or] at this
    rw [this]
    exact decide_eq_decide.2 List.count_pos_iff.symm
end Po
end Go.Proofs.Ytonkbenmafapgaa
