/-
  Slices whose elements lead to other blocks (slices of slices, of structs with slices): read (GV), or built (GR). Over any program.
  Conditions: none.
-/
import Derived.Test.YtopkfhmdgheghaaElems
namespace Go.Proofs.Ytopkfhmdgheghaa
open Go.RowKit
set_option linter.unusedVariables false
set_option linter.unusedSimpArgs false
set_option linter.unnecessarySimpa false

/-- what cells of an element mean, kept over what does not touch its blocks -/
structure Kept {α : Type} (E : World → List Value → α → List Nat → Prop) : Prop where
  keep : ∀ {w w' : World} {cs : List Value} {a : α} {U T : List Nat}, E w cs a U → Keeps T w w' → (∀ x ∈ U, x ∉ T) → E w' cs a U
  lt : ∀ {w : World} {cs : List Value} {a : α} {U : List Nat}, E w cs a U → ∀ x ∈ U, x < w.heap.size

def chunk (xs : List Value) (sz k : Nat) : List Value := (xs.drop (k * sz)).take sz
theorem chunk_get {xs : List Value} {sz k j : Nat} (hj : j < sz) : (chunk xs sz k)[j]? = xs[k * sz + j]? := by
  unfold chunk; rw [List.getElem?_take, if_pos hj, List.getElem?_drop]
theorem chunk_len {xs : List Value} {sz n k : Nat} (h : xs.length = n * sz) (hk : k < n) : (chunk xs sz k).length = sz := by
  have : (k + 1) * sz ≤ n * sz := Nat.mul_le_mul_right _ hk
  rw [Nat.add_mul] at this
  unfold chunk; rw [List.length_take, List.length_drop]; omega
theorem chunk_left {xs ys : List Value} {sz n k : Nat} (h : xs.length = n * sz) (hk : k < n) : chunk (xs ++ ys) sz k = chunk xs sz k := by
  apply List.ext_getElem?
  intro j
  have : (k + 1) * sz ≤ n * sz := Nat.mul_le_mul_right _ hk
  rw [Nat.add_mul] at this
  by_cases hj : j < sz
  · rw [chunk_get hj, chunk_get hj, List.getElem?_append_left (by omega)]
  · rw [List.getElem?_eq_none (by unfold chunk; rw [List.length_take]; omega), List.getElem?_eq_none (by unfold chunk; rw [List.length_take]; omega)]
theorem chunk_right {xs ys : List Value} {sz n k : Nat} (h : xs.length = n * sz) : chunk (xs ++ ys) sz (n + k) = chunk ys sz k := by
  apply List.ext_getElem?
  intro j
  by_cases hj : j < sz
  · rw [chunk_get hj, chunk_get hj, Nat.add_mul, List.getElem?_append_right (by omega), h]
    congr 1; omega
  · rw [List.getElem?_eq_none (by unfold chunk; rw [List.length_take]; omega), List.getElem?_eq_none (by unfold chunk; rw [List.length_take]; omega)]
theorem chunk_one {ys : List Value} {sz : Nat} (h : ys.length = sz) : chunk ys sz 0 = ys := by
  unfold chunk; rw [Nat.zero_mul, List.drop_zero, List.take_of_length_le (by omega)]

def Parts {α : Type} (E : World → List Value → α → List Nat → Prop) (sz : Nat) (w : World) (xs : List Value) (l : List α) (S : List Nat) : Prop :=
  ∀ (k : Nat) a, l[k]? = some a → ∃ U, E w (chunk xs sz k) a U ∧ ∀ x ∈ U, x ∈ S
/-- v reads as the elements l, which lead to blocks in S -/
def GV {α : Type} (E : World → List Value → α → List Nat → Prop) (sz : Nat) (w : World) (v : Value) (l : List α) (S : List Nat) : Prop :=
  ∃ xs T, View w v sz l.length xs T ∧ Parts E sz w xs l S ∧ (∀ x ∈ T, x ∈ S) ∧ (∀ x ∈ S, x < w.heap.size) ∧ ∀ y ∈ xs, y.oneCell' = true
/-- v owns a row (type e, blocks T) of the elements l, which lead to blocks in S -/
def GR {α : Type} (E : World → List Value → α → List Nat → Prop) (sz : Nat) (w : World) (v : Value) (e : TypeId) (l : List α) (T S : List Nat) : Prop :=
  ∃ xs, Row w v e sz l.length xs T ∧ Parts E sz w xs l S ∧ (∀ x ∈ S, x < w.heap.size) ∧ (∀ x ∈ T, x ∉ S) ∧ ∀ y ∈ xs, y.oneCell' = true

section
variable {α : Type} {E : World → List Value → α → List Nat → Prop} {sz : Nat} {w w' : World} {v : Value} {l : List α} {S T S2 : List Nat} {e : TypeId}
theorem Parts.keep (KE : Kept E) {xs : List Value} (h : Parts E sz w xs l S) (k : Keeps T w w') (hn : ∀ x ∈ S, x ∉ T) : Parts E sz w' xs l S := fun i a hi => by
  obtain ⟨U, h1, h2⟩ := h i a hi
  exact ⟨U, KE.keep h1 k (fun x hx => hn x (h2 x hx)), h2⟩
theorem Parts.mono {xs : List Value} (h : Parts E sz w xs l S) (hS : ∀ x ∈ S, x ∈ S2) : Parts E sz w xs l S2 := fun i a hi => by
  obtain ⟨U, h1, h2⟩ := h i a hi
  exact ⟨U, h1, fun x hx => hS x (h2 x hx)⟩
theorem GV.keep (KE : Kept E) (h : GV E sz w v l S) (k : Keeps T w w') (hn : ∀ x ∈ S, x ∉ T) : GV E sz w' v l S := by
  obtain ⟨xs, U, h1, h2, h3, h4, h5⟩ := h
  exact ⟨xs, U, h1.keep k (fun x hx => hn x (h3 x hx)), h2.keep KE k hn, h3, fun x hx => Nat.lt_of_lt_of_le (h4 x hx) k.size, h5⟩
theorem GV.then (KE : Kept E) (h : GV E sz w v l S) (k : Keeps [] w w') : GV E sz w' v l S := h.keep KE k (by simp)
theorem GV.mono (h : GV E sz w v l S) (hS : ∀ x ∈ S, x ∈ S2) (hl : ∀ x ∈ S2, x < w.heap.size) : GV E sz w v l S2 := by
  obtain ⟨xs, U, h1, h2, h3, h4, h5⟩ := h
  exact ⟨xs, U, h1, h2.mono hS, fun x hx => hS x (h3 x hx), hl, h5⟩
theorem GV.lt (h : GV E sz w v l S) : ∀ x ∈ S, x < w.heap.size := by
  obtain ⟨xs, U, h1, h2, h3, h4, h5⟩ := h; exact h4
theorem GV.shape (h : GV E sz w v l S) : ∃ ao cap, v = .slice ao l.length cap := by
  obtain ⟨xs, U, h1, _⟩ := h; exact h1.shape
theorem GV.le (h : GV E sz w v l S) : l.length ≤ maxLen := by
  obtain ⟨xs, U, h1, _⟩ := h; exact h1.le
theorem GV.get {ao : Option Addr} {m cap : Nat} (h : GV E sz w (.slice ao m cap) l S) {k : Nat} {a : α} (hk : l[k]? = some a) :
    ∃ g off cs U, ao = some ⟨g, off, none⟩ ∧ g ∈ S ∧ g < w.heap.size ∧ cs.length = sz ∧ (∀ j, j < sz → w.cell? ⟨g, off + (k * sz + j), none⟩ = cs[j]?) ∧ E w cs a U ∧ ∀ x ∈ U, x ∈ S := by
  obtain ⟨xs, T, h1, h2, h3, h4, h5⟩ := h
  have hkl := (List.getElem?_eq_some_iff.1 hk).1
  obtain ⟨g, off, rfl, rfl, hg, hc⟩ := h1.cell (by omega)
  obtain ⟨U, he, hU⟩ := h2 k a hk
  have hlen := h1.len
  have h6 : (k + 1) * sz ≤ l.length * sz := Nat.mul_le_mul_right _ hkl
  rw [Nat.add_mul] at h6
  exact ⟨g, off, chunk xs sz k, U, rfl, h3 g (by simp), hg, chunk_len hlen hkl, fun j hj => by rw [hc _ (by omega), chunk_get hj], he, hU⟩
theorem GV.addr {ao : Option Addr} {m cap : Nat} (h : GV E sz w (.slice ao m cap) l S) (h0 : 0 < l.length) : ∃ g off, ao = some ⟨g, off, none⟩ ∧ g ∈ S ∧ g < w.heap.size := by
  obtain ⟨g, off, cs, U, h1, h2, h3, _⟩ := h.get (List.getElem?_eq_getElem h0)
  exact ⟨g, off, h1, h2, h3⟩
theorem GV.nil (E : World → List Value → α → List Nat → Prop) (sz : Nat) (w : World) : GV E sz w (.slice none 0 0) [] [] :=
  ⟨[], [], View.nil w sz, fun k a h => by simp at h, by simp, by simp, by simp⟩
theorem GR.nil (E : World → List Value → α → List Nat → Prop) (sz : Nat) (w : World) (e : TypeId) : GR E sz w (.slice none 0 0) e [] [] [] :=
  ⟨[], Row.nil w e sz, fun k a h => by simp at h, by simp, by simp, by simp⟩
theorem GR.lit (E : World → List Value → α → List Nat → Prop) (sz : Nat) (w : World) (e : TypeId) (b : Nat) (hb : b = w.heap.size) : GR E sz (w.alloc (.cells #[] e)) (.slice (some ⟨b, 0, none⟩) 0 0) e [] [b] [] := by
  subst hb
  exact ⟨[], Row.lit w [] e sz 0 (by simp) (by simp [maxLen]), fun k a h => by simp at h, by simp, by simp, by simp⟩
theorem GR.gv (h : GR E sz w v e l T S) : GV E sz w v l (T ++ S) := by
  obtain ⟨xs, h1, h2, h3, h4, h5⟩ := h
  exact ⟨xs, T, h1.view, h2.mono (fun x hx => by simp [hx]), fun x hx => by simp [hx], fun x hx => by
    rcases List.mem_append.1 hx with h | h
    · exact h1.lt x h
    · exact h3 x h, h5⟩
theorem GR.keep (KE : Kept E) (h : GR E sz w v e l T S) (k : Keeps S2 w w') (h1 : ∀ x ∈ T, x ∉ S2) (h2 : ∀ x ∈ S, x ∉ S2) : GR E sz w' v e l T S := by
  obtain ⟨xs, h3, h4, h5, h6, h7⟩ := h
  exact ⟨xs, h3.keep k h1, h4.keep KE k h2, fun x hx => Nat.lt_of_lt_of_le (h5 x hx) k.size, h6, h7⟩
theorem GR.then (KE : Kept E) (h : GR E sz w v e l T S) (k : Keeps [] w w') : GR E sz w' v e l T S := h.keep KE k (by simp) (by simp)
theorem GR.shape (h : GR E sz w v e l T S) : ∃ ao cap, v = .slice ao l.length cap := by
  obtain ⟨xs, h1, _⟩ := h; exact h1.shape
theorem GR.lt (h : GR E sz w v e l T S) : (∀ x ∈ T, x < w.heap.size) ∧ ∀ x ∈ S, x < w.heap.size := by
  obtain ⟨xs, h1, _, h3, _⟩ := h; exact ⟨h1.lt, h3⟩
theorem GR.le (h : GR E sz w v e l T S) : l.length ≤ maxLen := by
  obtain ⟨xs, h1, _⟩ := h; exact h1.le
theorem GR.addr {ao : Option Addr} {m cap : Nat} (h : GR E sz w (.slice ao m cap) e l T S) (h0 : 0 < l.length) : ∃ g off, ao = some ⟨g, off, none⟩ ∧ T = [g] ∧ g < w.heap.size := by
  obtain ⟨xs, h1, _⟩ := h
  obtain ⟨g, off, h2, h3, h4, _⟩ := h1.cells h0
  exact ⟨g, off, h2, h3, h4⟩
/-- an element of one cell is stored -/
theorem GR.stored {g off m cap : Nat} (KE : Kept E) (h : GR E 1 w (.slice (some ⟨g, off, none⟩) m cap) e l T S) (k : Nat) (hk : k < l.length) {x : Value} {a : α} {U : List Nat} (he : E w [x] a U) (hU : ∀ y ∈ U, y ∉ T) (h1 : x.oneCell' = true) :
    GR E 1 (w.setCell ⟨g, off + k, none⟩ x) (.slice (some ⟨g, off, none⟩) m cap) e (l.set k a) T (S ++ U) ∧ Keeps T w (w.setCell ⟨g, off + k, none⟩ x) ∧ w.frozen? ⟨g, off + k, none⟩ = false ∧ ∃ y, w.cell? ⟨g, off + k, none⟩ = some y := by
  obtain ⟨xs, h2, h3, h4, h5, h6⟩ := h
  have hlen := h2.len
  obtain ⟨r1, r2⟩ := h2.stored k (by omega) x
  obtain ⟨g', off', e1, rfl, hg, hc, hf⟩ := h2.cells (by omega)
  obtain ⟨rfl, rfl⟩ := by simpa using e1
  have hcell := hc k (by omega)
  rw [List.getElem?_eq_getElem (show k < xs.length by omega)] at hcell
  refine ⟨⟨xs.set k x, by rw [List.length_set]; exact r1, ?_, ?_, ?_, ?_⟩, r2, hf k, _, hcell⟩
  · intro i b hi
    by_cases e : k = i
    · subst e
      rw [List.getElem?_set_self hk] at hi
      cases hi
      refine ⟨U, KE.keep ?_ r2 hU, fun y hy => by simp [hy]⟩
      have : chunk (xs.set k x) 1 k = [x] := by
        unfold chunk
        rw [Nat.mul_one, List.drop_eq_getElem_cons (by simp; omega)]
        simp
      rw [this]; exact he
    · rw [List.getElem?_set_ne e] at hi
      obtain ⟨V, v1, v2⟩ := h3 i b hi
      refine ⟨V, KE.keep ?_ r2 (fun y hy hT => h5 y hT (v2 y hy)), fun y hy => by simp [v2 y hy]⟩
      have : chunk (xs.set k x) 1 i = chunk xs 1 i := by
        apply List.ext_getElem?
        intro j
        by_cases hj : j < 1
        · rw [chunk_get hj, chunk_get hj, List.getElem?_set_ne (by omega)]
        · rw [List.getElem?_eq_none (by unfold chunk; rw [List.length_take]; omega), List.getElem?_eq_none (by unfold chunk; rw [List.length_take]; omega)]
      rw [this]; exact v1
  · intro y hy
    have hsz := r2.size
    rcases List.mem_append.1 hy with h | h
    · have := h4 y h; omega
    · have := KE.lt he y h; omega
  · intro y hy h
    rcases List.mem_append.1 h with h | h
    · exact h5 y hy h
    · exact hU y h hy
  · intro y hy
    rcases List.mem_or_eq_of_mem_set hy with h | rfl
    · exact h6 y h
    · exact h1
end

section
variable {α : Type} {F : World → List Value → α → List Nat → Prop} {P : Program} {t e : TypeId} {sz bytes : Nat} {z : Value}
theorem parts_app (KE : Kept F) {w w' : World} {xs ys : List Value} {l r : List α} {S S2 T : List Nat} (hl : xs.length = l.length * sz) (h : Parts F sz w xs l S) (h2 : Parts F sz w ys r S2) (k : Keeps T w w') (hS : ∀ x ∈ S, x ∉ T) (hS2 : ∀ x ∈ S2, x ∉ T) :
    Parts F sz w' (xs ++ ys) (l ++ r) (S ++ S2) := by
  intro i a hi
  by_cases hlt : i < l.length
  · rw [List.getElem?_append_left hlt] at hi
    obtain ⟨U, h1, h3⟩ := h i a hi
    rw [chunk_left hl hlt]
    exact ⟨U, KE.keep h1 k (fun x hx => hS x (h3 x hx)), fun x hx => by simp [h3 x hx]⟩
  · rw [List.getElem?_append_right (by omega)] at hi
    obtain ⟨U, h1, h3⟩ := h2 (i - l.length) a hi
    have e : i = l.length + (i - l.length) := by omega
    rw [e, chunk_right hl]
    exact ⟨U, KE.keep h1 k (fun x hx => hS2 x (h3 x hx)), fun x hx => by simp [h3 x hx]⟩

/-- append(s, x...) -/
theorem wp_gapps (EL : Elem P t e sz bytes z) (KE : Kept F) {w : World} {ops : Array Oper} {rest : List Oper} {o : Oper} {a : Act} {Q : Exit → Act → World → Prop} {s x : Operand}
    {v u : Value} {l r : List α} {T S S2 : List Nat} (h : GR F sz w v e l T S) (hu : GV F sz w u r S2) (hd : ∀ y ∈ S2, y ∉ T) (hb : (l.length + r.length) * bytes ≤ 140737488355328)
    (hK : ∀ ao cap w' T', GR F sz w' (.slice ao (l.length + r.length) cap) e (l ++ r) T' (S ++ S2) → Keeps T w w' → (∀ k ∈ T', k ∈ T ∨ w.heap.size ≤ k) → wpList P ops Q rest (a.put o.dst (.slice ao (l.length + r.length) cap)) w')
    (hg : o.guard = none := by rfl) (hop : o.op = Op.call { callee := Callee.builtin Builtin.append, args := #[s, x], argTypes := #[t, t] } := by rfl) (hs : a.eval s = v := by rfl) (hx : a.eval x = u := by rfl) :
    wpList P ops Q (o :: rest) a w := by
  obtain ⟨xs, h1, h2, h3, h4, h5⟩ := h
  obtain ⟨ys, V, u1, u2, u3, u4, u5⟩ := hu
  refine wp_app EL h1 u1 u5 hb (fun ao cap w' T' r1 r2 r3 => hK ao cap w' T' ⟨xs ++ ys, by rw [List.length_append]; exact r1, parts_app KE h1.len h2 u2 r2 (fun y hy hT => h4 y hT hy) hd, ?_, ?_, ?_⟩ r2 r3) hg hop hs hx
  · intro y hy
    have := r2.size
    rcases List.mem_append.1 hy with h | h
    · have := h3 y h; omega
    · have := u4 y h; omega
  · intro y hy h
    rcases r3 y hy with hT | hn
    · rcases List.mem_append.1 h with h | h
      · exact h4 y hT h
      · exact hd y h hT
    · rcases List.mem_append.1 h with h | h
      · have := h3 y h; omega
      · have := u4 y h; omega
  · intro y hy
    rcases List.mem_append.1 hy with h | h
    · exact h5 y h
    · exact u5 y h

/-- append(s, x): one element, which stands in the newest block -/
theorem wp_gapp1 (EL : Elem P t e sz bytes z) (KE : Kept F) {w : World} {ops : Array Oper} {rest : List Oper} {o : Oper} {a : Act} {Q : Exit → Act → World → Prop} {s x : Operand}
    {v : Value} {l : List α} {b : α} {ys : List Value} {bx : Nat} {T S U : List Nat} (h : GR F sz w v e l T S) (he : F w ys b U) (hy : ys.length = sz) (hd : ∀ y ∈ U, y ∉ T) (h1 : ∀ y ∈ ys, y.oneCell' = true) (hb : (l.length + 1) * bytes ≤ 140737488355328)
    (hK : ∀ ao cap w' T', GR F sz w' (.slice ao (l.length + 1) cap) e (l ++ [b]) T' (S ++ U) → Keeps T w w' → (∀ k ∈ T', k ∈ T ∨ w.heap.size ≤ k) → wpList P ops Q rest (a.put o.dst (.slice ao (l.length + 1) cap)) w')
    (hg : o.guard = none := by rfl) (hop : o.op = Op.call { callee := Callee.builtin Builtin.append, args := #[s, x], argTypes := #[t, t] } := by rfl) (hs : a.eval s = v := by rfl) (hx : a.eval x = .slice (some ⟨bx, 0, none⟩) 1 1 := by rfl) (hbx : bx = w.heap.size := by first | rfl | simp) :
    wpList P ops Q (o :: rest) a (w.alloc (.cells ys.toArray e)) := by
  obtain ⟨xs, g1, g2, g3, g4, g5⟩ := h
  have hp : Parts F sz w ys [b] U := fun i c hi => by
    match i, hi with
    | 0, hi => simp at hi; subst hi; exact ⟨U, by rw [chunk_one hy]; exact he, fun x hx => hx⟩
    | i + 1, hi => simp at hi
  refine wp_app1 EL (m := 1) g1 (by rw [hy, Nat.one_mul]) one_le_max h1 hb (fun ao cap w' T' r1 r2 r3 => hK ao cap w' T' ⟨xs ++ ys, by rw [List.length_append]; exact r1, parts_app KE g1.len g2 hp r2 (fun y hy hT => g4 y hT hy) hd, ?_, ?_, ?_⟩ r2 r3) hg hop hs hx hbx
  · intro y hy
    have := r2.size
    rcases List.mem_append.1 hy with h | h
    · have := g3 y h; omega
    · have := KE.lt he y h; omega
  · intro y hy h
    rcases r3 y hy with hT | hn
    · rcases List.mem_append.1 h with h | h
      · exact g4 y hT h
      · exact hd y h hT
    · rcases List.mem_append.1 h with h | h
      · have := g3 y h; omega
      · have := KE.lt he y h; omega
  · intro y hy
    rcases List.mem_append.1 hy with h | h
    · exact g5 y h
    · exact h1 y h
end

/-- an element that is a slice of numbers -/
def intsE (w : World) (cs : List Value) (l : List Int) (U : List Nat) : Prop := ∃ v, cs = [v] ∧ IV w v l U
theorem intsE_kept : Kept intsE :=
  ⟨fun h k hn => by obtain ⟨v, h1, h2⟩ := h; exact ⟨v, h1, h2.keep k hn⟩, fun h => by obtain ⟨v, h1, h2⟩ := h; exact h2.lt⟩
end Go.Proofs.Ytopkfhmdgheghaa
