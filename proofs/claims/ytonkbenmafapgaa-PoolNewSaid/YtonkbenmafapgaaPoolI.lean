/-
  Package pool, for PoolNew: a row, the middle, fresh: stored.
  Conditions: none.
-/
import Derived.Test.YtonkbenmafapgaaRef05R
namespace Go.Proofs.Ytonkbenmafapgaa
open Go.RowKit
set_option linter.unusedVariables false
set_option linter.unusedSimpArgs false
set_option linter.unnecessarySimpa false

theorem apart_iff {A B F D E : List Nat} : Apart [A, B, F, D, E] ↔ ((∀ x ∈ A, x ∉ B ∧ x ∉ F ∧ x ∉ D ∧ x ∉ E) ∧ (∀ x ∈ B, x ∉ F ∧ x ∉ D ∧ x ∉ E) ∧ (∀ x ∈ F, x ∉ D ∧ x ∉ E) ∧ (∀ x ∈ D, x ∉ E)) := by
  simp only [Apart, List.pairwise_cons, List.mem_cons, List.not_mem_nil, or_false, forall_eq_or_imp, forall_eq, List.Pairwise.nil, and_true, false_implies, implies_true]
  constructor
  · rintro ⟨⟨a1, a2, a3, a4⟩, ⟨b1, b2, b3⟩, ⟨c1, c2⟩, d1⟩
    exact ⟨fun x hx => ⟨a1 x hx, a2 x hx, a3 x hx, a4 x hx⟩, fun x hx => ⟨b1 x hx, b2 x hx, b3 x hx⟩, fun x hx => ⟨c1 x hx, c2 x hx⟩, d1⟩
  · rintro ⟨a, b, c, d⟩
    exact ⟨⟨fun x hx => (a x hx).1, fun x hx => (a x hx).2.1, fun x hx => (a x hx).2.2.1, fun x hx => (a x hx).2.2.2⟩, ⟨fun x hx => (b x hx).1, fun x hx => (b x hx).2.1, fun x hx => (b x hx).2.2⟩, ⟨fun x hx => (c x hx).1, fun x hx => (c x hx).2⟩, d⟩

section
variable {w : World} {b : Nat} {size most f : Int} {C : List (List Int)} {M : List Int} {H : List Bool} {S : List Nat}
theorem Pl.setf (h : Pl w (.pointer (some ⟨b, 0, none⟩)) size most C M f H S) (f' : Int) :
    w.cell? ⟨b, 4, none⟩ = some (.int .i64 f) ∧ w.frozen? ⟨b, 4, none⟩ = false ∧ Pl (w.setCell ⟨b, 4, none⟩ (.int .i64 f')) (.pointer (some ⟨b, 0, none⟩)) size most C M f' H S ∧ Keeps S w (w.setCell ⟨b, 4, none⟩ (.int .i64 f')) := by
  obtain ⟨b', vc, vm, vh, T1, Us, Tm, Th, hbb, hb, hc, hm, hh, ha, rfl⟩ := h
  cases hbb
  have k : Keeps [b] w (w.setCell ⟨b, 4, none⟩ (.int .i64 f')) := (Keeps.refl _ w).setCell (by simp) _
  have p := (apart_iff.1 ha).1 b (by simp)
  refine ⟨hb.cell 4, hb.free 4, ⟨b, vc, vm, vh, T1, Us, Tm, Th, rfl, by simpa using hb.set 4 (.int .i64 f'), hc.keep k (fun x hx h => ?_) (fun U hU x hx h => ?_), hm.keep k (fun x hx h => ?_), hh.keep k (fun x hx h => ?_), ha, rfl⟩, k.mono (by simp)⟩
  all_goals (have h2 : x = b := by simpa using h); subst h2
  · exact p.1 hx
  · exact p.2.1 (List.mem_flatten.2 ⟨U, hU, hx⟩)
  · exact p.2.2.1 hx
  · exact p.2.2.2 hx

theorem Pl.mid (h : Pl w (.pointer (some ⟨b, 0, none⟩)) size most C M f H S) :
    (∃ v0, w.cell? ⟨b, 3, none⟩ = some v0) ∧ w.frozen? ⟨b, 3, none⟩ = false ∧ b ∈ S ∧ ∀ w' v' M' U', Keeps [] w w' → IR w' v' 3 M' U' → (∀ x ∈ U', w.heap.size ≤ x) →
      ∃ S', Pl (w'.setCell ⟨b, 3, none⟩ v') (.pointer (some ⟨b, 0, none⟩)) size most C M' f H S' ∧ Keeps S w (w'.setCell ⟨b, 3, none⟩ v') ∧ ∀ x ∈ S', x ∈ S ∨ w.heap.size ≤ x := by
  have hlt := h.lt
  obtain ⟨b', vc, vm, vh, T1, Us, Tm, Th, hbb, hb, hc, hm, hh, ha, rfl⟩ := h
  cases hbb
  refine ⟨⟨_, hb.cell 3⟩, hb.free 3, by simp, fun w' v' M' U' k hr hU => ?_⟩
  have hbl := hb.lt
  have k2 : Keeps [b] w' (w'.setCell ⟨b, 3, none⟩ v') := (Keeps.refl _ w').setCell (by simp) _
  have p := (apart_iff.1 ha).1 b (by simp)
  have ap := apart_iff.1 ha
  refine ⟨b :: (T1 ++ Us.flatten ++ U' ++ Th), ⟨b, vc, v', vh, T1, Us, U', Th, rfl, by simpa using (hb.keep k (by simp)).set 3 v', (hc.keep k (by simp) (by simp)).keep k2 (fun x hx h => ?_) (fun U hU x hx h => ?_), hr.keep k2 (fun x hx h => ?_), (hh.keep k (by simp)).keep k2 (fun x hx h => ?_), ?_, rfl⟩, ?_, ?_⟩
  · have h2 : x = b := by simpa using h
    subst h2; exact p.1 hx
  · have h2 : x = b := by simpa using h
    subst h2; exact p.2.1 (List.mem_flatten.2 ⟨U, hU, hx⟩)
  · have h2 : x = b := by simpa using h
    have := hU x hx; omega
  · have h2 : x = b := by simpa using h
    subst h2; exact p.2.2.2 hx
  · have hn : ∀ x ∈ b :: (T1 ++ Us.flatten ++ Tm ++ Th), x ∉ U' := fun x hx h => by have := hlt x hx; have := hU x h; omega
    refine apart_iff.2 ⟨fun x hx => ⟨(ap.1 x hx).1, (ap.1 x hx).2.1, hn x (by simp at hx; simp [hx]), (ap.1 x hx).2.2.2⟩, fun x hx => ⟨(ap.2.1 x hx).1, hn x (by simp [hx]), (ap.2.1 x hx).2.2⟩, fun x hx => ⟨hn x (List.mem_cons_of_mem _ (List.mem_append_left _ (List.mem_append_left _ (List.mem_append_right _ hx)))), (ap.2.2.1 x hx).2⟩, fun x hx h => hn x (by simp [h]) hx⟩
  · exact (k.mono (by simp)).trans k2 (fun x hx => by simp at hx; simp [hx])
  · intro x hx
    simp only [List.mem_cons, List.mem_append] at hx ⊢
    rcases hx with h | ((h | h) | h) | h
    · exact .inl (.inl h)
    · exact .inl (.inr (.inl (.inl (.inl h))))
    · exact .inl (.inr (.inl (.inl (.inr h))))
    · exact .inr (hU x h)
    · exact .inl (.inr (.inr h))

theorem Pl.row (h : Pl w (.pointer (some ⟨b, 0, none⟩)) size most C M f H S) {n : Nat} (hn : n < C.length) :
    ∃ g off cap, w.cell? ⟨b, 2, none⟩ = some (.slice (some ⟨g, off, none⟩) C.length cap) ∧ b ∈ S ∧ (∃ v0, w.cell? ⟨g, off + n, none⟩ = some v0) ∧ w.frozen? ⟨g, off + n, none⟩ = false ∧ ∀ w' v' l' U', Keeps [] w w' → IR w' v' 3 l' U' → (∀ x ∈ U', w.heap.size ≤ x) →
      ∃ S', Pl (w'.setCell ⟨g, off + n, none⟩ v') (.pointer (some ⟨b, 0, none⟩)) size most (C.set n l') M f H S' ∧ Keeps S w (w'.setCell ⟨g, off + n, none⟩ v') ∧ ∀ x ∈ S', x ∈ S ∨ w.heap.size ≤ x := by
  have hlt := h.lt
  obtain ⟨b', vc, vm, vh, T1, Us, Tm, Th, hbb, hb, hc, hm, hh, ha, rfl⟩ := h
  cases hbb
  obtain ⟨ao, cap, rfl⟩ := hc.shape
  have hk := List.getElem?_eq_getElem hn
  obtain ⟨g, off, x, U, rfl, rfl, hg, c6, f6, hr, hU, hTU⟩ := hc.get hk
  refine ⟨g, off, cap, hb.cell 2, by simp, ⟨x, c6⟩, f6, fun w' v' l' U' k hr' hU' => ?_⟩
  have k2 : Keeps [g] w' (w'.setCell ⟨g, off + n, none⟩ v') := (Keeps.refl _ w').setCell (by simp) _
  have ap := apart_iff.1 ha
  have hfl : ∀ x ∈ (Us.set n U').flatten, x ∈ Us.flatten ∨ w.heap.size ≤ x := fun x hx => by
    rcases flatten_set_mem hx with h | h
    · exact .inl h
    · exact .inr (hU' x h)
  have hput := hc.put2 hk hU k (by simp) (by simp) hr' (fun x hx => .inr (hU' x hx))
  refine ⟨b :: ([g] ++ (Us.set n U').flatten ++ Tm ++ Th), ⟨b, _, vm, vh, [g], Us.set n U', Tm, Th, rfl, ((hb.keep k (by simp))).keep k2 (fun h => ?_), by simpa using hput, (hm.keep k (by simp)).keep k2 (fun x hx h => ?_), (hh.keep k (by simp)).keep k2 (fun x hx h => ?_), ?_, rfl⟩, ?_, ?_⟩
  · exact (ap.1 b (by simp)).1 h
  · exact (ap.2.1 x h).2.1 hx
  · exact (ap.2.1 x h).2.2 hx
  · have hn2 : ∀ y ∈ b :: ([g] ++ Us.flatten ++ Tm ++ Th), ∀ x ∈ (Us.set n U').flatten, x = y → x ∈ Us.flatten := fun y hy x hx e => by
      rcases hfl x hx with h | h
      · exact h
      · have := hlt y hy; omega
    refine apart_iff.2 ⟨fun x hx => ⟨(ap.1 x hx).1, fun h => (ap.1 x hx).2.1 (hn2 x (by simp at hx; simp [hx]) x h rfl), (ap.1 x hx).2.2⟩, fun x hx => ⟨fun h => (ap.2.1 x hx).1 (hn2 x (by simp at hx; simp [hx]) x h rfl), (ap.2.1 x hx).2⟩, fun x hx => ⟨fun h => (ap.2.2.1 x (hn2 x (by simp [h]) x hx rfl)).1 h, fun h => (ap.2.2.1 x (hn2 x (by simp [h]) x hx rfl)).2 h⟩, ap.2.2.2⟩
  · exact (k.mono (by simp)).trans k2 (fun x hx => by simp at hx; simp [hx])
  · intro x hx
    simp only [List.mem_cons, List.mem_append] at hx ⊢
    rcases hx with h | ((h | h) | h) | h
    · exact .inl (.inl h)
    · exact .inl (.inr (.inl (.inl (.inl h))))
    · rcases hfl x h with h | h
      · exact .inl (.inr (.inl (.inl (.inr h))))
      · exact .inr h
    · exact .inl (.inr (.inl (.inr h)))
    · exact .inl (.inr (.inr h))
end
end Go.Proofs.Ytonkbenmafapgaa
