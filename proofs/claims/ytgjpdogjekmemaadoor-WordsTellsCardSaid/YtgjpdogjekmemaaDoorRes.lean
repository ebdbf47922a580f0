/-
  What a function answers that has structs among its results, each read whole out of its variable.
  Conditions: none; nothing of the program stands here.
-/
import Derived.Test.YtgjpdogjekmemaaDoorCore
namespace Go.Proofs.YtgjpdogjekmemaaDoor
open Go.RowKit
set_option linter.unusedVariables false
set_option linter.unusedSimpArgs false
set_option linter.unnecessarySimpa false
section
variable {P : Program} {fn : Func} {tmps : Array Value} {w : World}
theorem results_c {a : Nat} {t : TypeId} {b : Nat} {v : Value} (hr : fn.results = #[.cell a t]) (ht : tmps.getD a undef = .pointer (some ⟨b, 0, none⟩)) (hl : (loadVar t ⟨b, 0, none⟩).run P w = .ok v w) : (results fn tmps).run P w = .ok v w := by
  rw [Array.getD_eq_getD_getElem?] at ht
  unfold results
  rw [hr]
  simp [Array.mapM_eq_mapM_toList, Sem.run_bind, ht, asAddr, hl]
theorem results_ct {a c : Nat} {t : TypeId} {b : Nat} {v u : Value} (hr : fn.results = #[.cell a t, .tmp c]) (ht : tmps.getD a undef = .pointer (some ⟨b, 0, none⟩)) (hu : tmps.getD c undef = u) (hl : (loadVar t ⟨b, 0, none⟩).run P w = .ok v w) : (results fn tmps).run P w = .ok (.tuple #[v, u]) w := by
  rw [Array.getD_eq_getD_getElem?] at ht hu
  unfold results
  rw [hr]
  simp [Array.mapM_eq_mapM_toList, Sem.run_bind, ht, hu, asAddr, hl]
theorem results_ctt {a c d : Nat} {t : TypeId} {b : Nat} {v u x : Value} (hr : fn.results = #[.cell a t, .tmp c, .tmp d]) (ht : tmps.getD a undef = .pointer (some ⟨b, 0, none⟩)) (hu : tmps.getD c undef = u) (hx : tmps.getD d undef = x) (hl : (loadVar t ⟨b, 0, none⟩).run P w = .ok v w) : (results fn tmps).run P w = .ok (.tuple #[v, u, x]) w := by
  rw [Array.getD_eq_getD_getElem?] at ht hu hx
  unfold results
  rw [hr]
  simp [Array.mapM_eq_mapM_toList, Sem.run_bind, ht, hu, hx, asAddr, hl]
end
theorem Blk.there {w : World} {g : Nat} {cs : List Value} {t : TypeId} (h : Blk w g cs t) {n : Nat} (hn : n = cs.length) : w.there g 0 n := by
  intro j hj
  refine ⟨?_, by rw [Nat.zero_add]; exact h.free j⟩
  rw [Nat.zero_add, h.cell]
  simp; omega
/-- a block stored whole -/
theorem Blk.put_from {t : TypeId} {g : Nat} : ∀ (cs p z : List Value) (w : World), z.length = cs.length → Blk w g (p ++ z) t → Blk (w.setCells g p.length cs) g (p ++ cs) t ∧ Keeps [g] w (w.setCells g p.length cs)
  | [], p, z, w, h, hb => by
    have : z = [] := List.length_eq_zero_iff.1 h
    subst this
    exact ⟨hb, Keeps.refl _ _⟩
  | c :: cs, p, [], w, h, hb => by simp at h
  | c :: cs, p, x :: z, w, h, hb => by
    have h1 := hb.set p.length c
    have e : (p ++ x :: z).set p.length c = (p ++ [c]) ++ z := by simp
    rw [e] at h1
    obtain ⟨h2, k2⟩ := Blk.put_from cs (p ++ [c]) z (w.setCell ⟨g, p.length, none⟩ c) (by simpa using h) h1
    simp only [List.length_append, List.length_cons, List.length_nil, Nat.zero_add] at h2 k2
    rw [World.setCells]
    refine ⟨by simpa using h2, ((Keeps.refl [g] w).setCell (by simp) c).trans k2 (fun x hx => .inl hx)⟩
theorem Blk.put {t : TypeId} {g : Nat} {w : World} {zs : List Value} (h : Blk w g zs t) (cs : List Value) (hl : zs.length = cs.length) : Blk (w.setCells g 0 cs) g cs t ∧ Keeps [g] w (w.setCells g 0 cs) := by
  have := Blk.put_from cs [] zs w hl h
  simpa using this
section
variable {α : Type} {E : World → List Value → α → List Nat → Prop} {sz : Nat} {w : World} {v : Value} {e : TypeId} {l : List α} {T S S2 : List Nat}
theorem GV.nilS (h : ∀ x ∈ S, x < w.heap.size) : GV E sz w (.slice none 0 0) [] S := (GV.nil E sz w).mono (by simp) h
theorem GR.sub (h : GR E sz w v e l T S) (hS : ∀ x ∈ S, x ∈ S2) (hl : ∀ x ∈ S2, x < w.heap.size) (hd : ∀ x ∈ T, x ∉ S2) : GR E sz w v e l T S2 := by
  obtain ⟨xs, h1, h2, h3, h4, h5⟩ := h
  exact ⟨xs, h1, h2.mono hS, hl, hd, h5⟩
theorem IV.none (w : World) (ao : Option Addr) : IV w (.slice ao 0 0) [] [] := ⟨by simp, ao, 0, rfl, Nat.le_refl _, by simp [maxLen], .inl ⟨rfl, rfl⟩⟩
end
end Go.Proofs.YtgjpdogjekmemaaDoor
