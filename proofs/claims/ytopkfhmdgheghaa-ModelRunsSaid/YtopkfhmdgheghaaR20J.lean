/-
  slices.Clone of numbers and of channels: contracts; channels whose rows are looked at alone.
  Conditions: rows of no more than 100000.
-/
import Derived.Test.YtopkfhmdgheghaaR20F
import Derived.Test.YtopkfhmdgheghaaModelQ
namespace Go.Proofs.Ytopkfhmdgheghaa
open Go.RowKit
set_option linter.unusedVariables false
set_option linter.unusedSimpArgs false
set_option linter.unnecessarySimpa false

theorem GV.map {α : Type} {E F : World → List Value → α → List Nat → Prop} {sz : Nat} {w : World} {v : Value} {l : List α} {S : List Nat} (h : GV E sz w v l S) (hf : ∀ cs a U, E w cs a U → F w cs a U) : GV F sz w v l S := by
  obtain ⟨xs, T, h1, h2, h3⟩ := h
  exact ⟨xs, T, h1, fun k a hk => by obtain ⟨U, u1, u2⟩ := h2 k a hk; exact ⟨U, hf _ _ _ u1, u2⟩, h3⟩
theorem GV.raw {w : World} {v : Value} {l : List Int} {S : List Nat} (h : GV (numE .i64) 1 w v l S) : GV rawE 1 w v l S := h.map (fun cs a U h => ⟨h.1, h.2.2⟩)
theorem KR.raw {w : World} {v : Value} {e : TypeId} {l : List Int} {S : List Nat} (h : KR .i64 w v e l S) : GV rawE 1 w v l S := by
  unfold KR at h
  refine ⟨_, S, Row.view h, fun k a hk => ⟨[], ⟨?_, rfl⟩, by simp⟩, fun x hx => hx, h.lt, fun y hy => ?_⟩
  · unfold chunk
    have hkl := (List.getElem?_eq_some_iff.1 hk).1
    rw [Nat.mul_one, List.drop_eq_getElem_cons (by simpa using hkl)]
    simp [List.getElem?_eq_getElem hkl] at hk ⊢
    exact hk
  · obtain ⟨n, _, rfl⟩ := List.mem_map.1 hy; rfl
theorem CR.gv {w : World} {v : Value} {cs : List Md.Ch} {N : Nat} {T : List Nat} {Us : List (List Nat)} {col : Nat → Nat} (h : CR w v cs N T Us col) : GV chE 3 w v cs (T ++ Us.flatten) := by
  have hlt := h.lt
  obtain ⟨⟨xs, hr, hp⟩, h3, _⟩ := h
  have hlen := hr.len
  have hk : ∀ k, k < cs.length → ∃ c U bv, cs[k]? = some c ∧ xs[k * 3]? = some (.int .i64 c.cap) ∧ xs[k * 3 + 1]? = some bv ∧ xs[k * 3 + 2]? = some (.bool c.closed) ∧ KR .i64 w bv 2 c.buf U ∧ U ∈ Us := fun k hk => by
    have h1 : cs[k]? = some cs[k] := List.getElem?_eq_getElem hk
    have h2 : Us[k]? = some (Us[k]'(by omega)) := List.getElem?_eq_getElem (by omega)
    obtain ⟨bv, x0, x1, x2, x3, _⟩ := hp k _ _ h1 h2
    exact ⟨_, _, bv, h1, x0, x1, x2, x3, List.mem_of_getElem? h2⟩
  refine ⟨xs, T, hr.view, fun k a hka => ?_, fun x hx => by simp [hx], fun x hx => ?_, fun y hy => ?_⟩
  · have hkl := (List.getElem?_eq_some_iff.1 hka).1
    obtain ⟨c, U, bv, hc, x0, x1, x2, x3, x4⟩ := hk k hkl
    obtain rfl : c = a := by rw [hc] at hka; cases hka; rfl
    refine ⟨U, ⟨bv, ?_, x3.raw⟩, fun x hx => by simp only [List.mem_append, List.mem_flatten]; exact .inr ⟨_, x4, hx⟩⟩
    apply List.ext_getElem?
    intro j
    by_cases hj : j < 3
    · rw [chunk_get hj]
      match j, hj with
      | 0, _ => exact x0
      | 1, _ => exact x1
      | 2, _ => exact x2
    · rw [List.getElem?_eq_none (by unfold chunk; rw [List.length_take]; omega), List.getElem?_eq_none (by simp; omega)]
  · rcases List.mem_append.1 hx with h | h
    · exact hlt.1 x h
    · obtain ⟨U, hU, hxU⟩ := List.mem_flatten.1 h
      exact hlt.2 U hU x hxU
  · obtain ⟨j, hj⟩ := List.mem_iff_getElem?.1 hy
    have hjl := (List.getElem?_eq_some_iff.1 hj).1
    have hm : j < cs.length * 3 := by omega
    obtain ⟨c, U, bv, _, x0, x1, x2, x3, _⟩ := hk (j / 3) (by omega)
    have hr3 : j % 3 = 0 ∨ j % 3 = 1 ∨ j % 3 = 2 := by omega
    rcases hr3 with e | e | e
    · rw [show j = j / 3 * 3 by omega, x0] at hj; cases hj; rfl
    · rw [show j = j / 3 * 3 + 1 by omega, x1] at hj
      cases hj
      obtain ⟨ao, cap, rfl⟩ := x3.shape
      rfl
    · rw [show j = j / 3 * 3 + 2 by omega, x2] at hj; cases hj; rfl

/-- what slices.Clone answers: a row of its own of the same elements -/
def CloneTo {α : Type} (E : World → List Value → α → List Nat → Prop) (sz : Nat) (t : TypeId) (l : List α) (S : List Nat) (w : World) (e : Ending) (w' : World) : Prop :=
  ∃ v T S', e = .returned v ∧ GR E sz w' v t l T S' ∧ Keeps [] w w' ∧ (∀ x ∈ T, w.heap.size ≤ x) ∧ ∀ x ∈ S', x ∈ S
theorem elemI64s : Elem Try.prog 22 2 1 8 (.int .i64 0) := ⟨Try.underlying22, by kernel_rfl, rfl, by decide, by decide⟩
theorem elemMChan : Elem Try.prog 101 136 3 40 (.agg #[.int .i64 0, .slice none 0 0, .bool false]) := ⟨Try.underlying101, by kernel_rfl, rfl, by decide, by decide⟩

set_option maxRecDepth 100000 in
set_option maxHeartbeats 400000 in
theorem clone_i64s (w : World) (v : Value) (l : List Int) (S : List Nat) (h : GV rawE 1 w v l S) (hb : l.length ≤ 100000) :
    Calls Try.prog 93 #[v] w (CloneTo rawE 1 2 l S w) := by
  have HV := Lib.hid h
  have HB := Lib.hid hb
  have hle := h.le
  unfold maxLen at hle
  obtain ⟨av, cv, rfl⟩ := h.shape
  clear hb
  cases av with
  | none =>
    have h0 : l.length = 0 := by
      by_cases hp : 0 < l.length
      · obtain ⟨g, off, e, _⟩ := h.addr hp; cases e
      · omega
    obtain rfl := List.eq_nil_of_length_eq_zero h0
    clear h
    have hnil : ∀ w : World, (binOp .eql 22 (.slice none ([] : List Int).length cv) (.slice none 0 0)).run Try.prog w = .ok (.bool true) w := fun _ => rfl
    have hnil2 : ∀ w : World, (binOp .eql 22 (.slice none 0 cv) (.slice none 0 0)).run Try.prog w = .ok (.bool true) w := fun _ => rfl
    go_enter Try.func93, Try.ntmps93
    go_wp2_with fail
    go_ret
    exact ⟨_, [], [], rfl, GR.nil _ _ _ _, Keeps.refl _ _, by simp, by simp⟩
  | some a =>
    have HR := Lib.hid (GR.lit rawE 1 w 2 _ rfl)
    have HU := Lib.hid h.lt
    clear h
    have hnil : ∀ w : World, (binOp .eql 22 (.slice (some a) l.length cv) (.slice none 0 0)).run Try.prog w = .ok (.bool false) w := fun _ => rfl
    go_enter Try.func93, Try.ntmps93
    go_wp2_with (at_builtin; go_must (refine wp_gapps elemI64s rawE_kept HR.out (HV.out.then rawE_kept ((Keeps.refl [] w).alloc _)) (fun y hy => by have := HU.out y hy; simp; omega) (by have := HB.out; simp; omega) ?_))
    intro ao7 cap7 w7 T7 r7 k7 s7
    have R7 : Hid (GR rawE 1 w7 (.slice ao7 l.length cap7) 2 l T7 S) := Lib.hid (by simpa using r7)
    have K7 : Hid (Keeps [] w w7) := Lib.hid (((Keeps.refl [] w).alloc _).trans k7 (fun x hx => by simp at hx; subst hx; exact .inr (Nat.le_refl _)))
    have S7 : Hid (∀ x ∈ T7, w.heap.size ≤ x) := Lib.hid (fun x hx => by
      rcases s7 x hx with h | h
      · first | omega | (simp at h; omega)
      · first | omega | (simp at h; omega))
    clear r7 k7 s7
    go_wp2_with fail
    go_ret
    exact ⟨_, T7, S, rfl, R7.out, K7.out, S7.out, fun x hx => hx⟩

set_option maxRecDepth 100000 in
set_option maxHeartbeats 400000 in
theorem clone_chans (w : World) (v : Value) (l : List Md.Ch) (S : List Nat) (h : GV chE 3 w v l S) (hb : l.length ≤ 100000) :
    Calls Try.prog 92 #[v] w (CloneTo chE 3 136 l S w) := by
  have HV := Lib.hid h
  have HB := Lib.hid hb
  have hle := h.le
  unfold maxLen at hle
  obtain ⟨av, cv, rfl⟩ := h.shape
  clear hb
  cases av with
  | none =>
    have h0 : l.length = 0 := by
      by_cases hp : 0 < l.length
      · obtain ⟨g, off, e, _⟩ := h.addr hp; cases e
      · omega
    obtain rfl := List.eq_nil_of_length_eq_zero h0
    clear h
    have hnil : ∀ w : World, (binOp .eql 101 (.slice none ([] : List Md.Ch).length cv) (.slice none 0 0)).run Try.prog w = .ok (.bool true) w := fun _ => rfl
    have hnil2 : ∀ w : World, (binOp .eql 101 (.slice none 0 cv) (.slice none 0 0)).run Try.prog w = .ok (.bool true) w := fun _ => rfl
    go_enter Try.func92, Try.ntmps92
    go_wp2_with fail
    go_ret
    exact ⟨_, [], [], rfl, GR.nil _ _ _ _, Keeps.refl _ _, by simp, by simp⟩
  | some a =>
    have HR := Lib.hid (GR.lit chE 3 w 136 _ rfl)
    have HU := Lib.hid h.lt
    clear h
    have hnil : ∀ w : World, (binOp .eql 101 (.slice (some a) l.length cv) (.slice none 0 0)).run Try.prog w = .ok (.bool false) w := fun _ => rfl
    go_enter Try.func92, Try.ntmps92
    go_wp2_with (at_builtin; go_must (refine wp_gapps elemMChan chE_kept HR.out (HV.out.then chE_kept ((Keeps.refl [] w).alloc _)) (fun y hy => by have := HU.out y hy; simp; omega) (by have := HB.out; simp; omega) ?_))
    intro ao7 cap7 w7 T7 r7 k7 s7
    have R7 : Hid (GR chE 3 w7 (.slice ao7 l.length cap7) 136 l T7 S) := Lib.hid (by simpa using r7)
    have K7 : Hid (Keeps [] w w7) := Lib.hid (((Keeps.refl [] w).alloc _).trans k7 (fun x hx => by simp at hx; subst hx; exact .inr (Nat.le_refl _)))
    have S7 : Hid (∀ x ∈ T7, w.heap.size ≤ x) := Lib.hid (fun x hx => by
      rcases s7 x hx with h | h
      · first | omega | (simp at h; omega)
      · first | omega | (simp at h; omega))
    clear r7 k7 s7
    go_wp2_with fail
    go_ret
    exact ⟨_, T7, S, rfl, R7.out, K7.out, S7.out, fun x hx => hx⟩
end Go.Proofs.Ytopkfhmdgheghaa
