/-
  What an argument of whatever depth reads as: numbers, bools, strings, slices of such, structs of such, opened once for all.
  Conditions: none.
-/
import Derived.Test.YtopkfhmdgheghaaGen
import Derived.Test.YtopkfhmdgheghaaArg
namespace Go.Proofs.Ytopkfhmdgheghaa
open Go.RowKit Go.ChangeShapes Go.WideShapes Go.Deep
set_option linter.unusedVariables false
set_option linter.unusedSimpArgs false
set_option linter.unnecessarySimpa false

/-- a number of kind k, in one cell -/
def numE (k : IntKind) (w : World) (cs : List Value) (n : Int) (U : List Nat) : Prop := cs = [.int k n] ∧ (Lit.int k n).wf = true ∧ U = []
def bitE (w : World) (cs : List Value) (b : Bool) (U : List Nat) : Prop := cs = [.bool b] ∧ U = []
def strE (w : World) (cs : List Value) (s : ByteArray) (U : List Nat) : Prop := cs = [.string s] ∧ s.size ≤ maxLen ∧ U = []
/-- a slice, in one cell, of elements E (sz cells each) -/
def rowE {α : Type} (E : World → List Value → α → List Nat → Prop) (sz : Nat) (w : World) (cs : List Value) (l : List α) (U : List Nat) : Prop := ∃ v, cs = [v] ∧ GV E sz w v l U

theorem numE_kept (k : IntKind) : Kept (numE k) := ⟨fun h _ _ => h, fun h x hx => by obtain ⟨_, _, rfl⟩ := h; simp at hx⟩
theorem bitE_kept : Kept bitE := ⟨fun h _ _ => h, fun h x hx => by obtain ⟨_, rfl⟩ := h; simp at hx⟩
theorem strE_kept : Kept strE := ⟨fun h _ _ => h, fun h x hx => by obtain ⟨_, _, rfl⟩ := h; simp at hx⟩
theorem rowE_kept {α : Type} {E : World → List Value → α → List Nat → Prop} {sz : Nat} (K : Kept E) : Kept (rowE E sz) :=
  ⟨fun h k hn => by obtain ⟨v, h1, h2⟩ := h; exact ⟨v, h1, h2.keep K k hn⟩, fun h => by obtain ⟨v, h1, h2⟩ := h; exact h2.lt⟩

structure Opens (P : Program) (t : TypeId) {α : Type} (E : World → List Value → α → List Nat → Prop) (sz : Nat) : Prop where
  pos : 0 < sz
  kept : Kept E
  cells : P.cellsOf t = sz
  op : ∀ {H : Type} {enc : TypeId × Value → H} {W : World} {fuel : Nat} {cs : List Value} {x : DataW H × List MemPlace}, DataW.trod enc P W 0 (fun _ => true) true fuel t cs = some x → cs.length = sz ∧ (∀ y ∈ cs, y.oneCell' = true) ∧ ∃ a U, E W cs a U

section
variable {P : Program} {t e : TypeId}
theorem opens_num {k : IntKind} (ht : P.underlying t = some (.int k)) (hc : P.cellsOf t = 1) : Opens P t (numE k) 1 :=
  ⟨Nat.one_pos, numE_kept k, hc, fun h => by
    obtain ⟨n, rfl, _, hw⟩ := DataW.trod_int ht h
    exact ⟨rfl, by simp [Value.oneCell'], n, [], rfl, hw, rfl⟩⟩
theorem opens_bit (ht : P.underlying t = some .bool) (hc : P.cellsOf t = 1) : Opens P t bitE 1 :=
  ⟨Nat.one_pos, bitE_kept, hc, fun h => by
    obtain ⟨b, rfl, _⟩ := DataW.trod_bool ht h
    exact ⟨rfl, by simp [Value.oneCell'], b, [], rfl, rfl⟩⟩
theorem opens_str (ht : P.underlying t = some .string) (hc : P.cellsOf t = 1) : Opens P t strE 1 :=
  ⟨Nat.one_pos, strE_kept, hc, fun h => by
    obtain ⟨s, rfl, _, hs⟩ := DataW.trod_string ht h
    exact ⟨rfl, by simp [Value.oneCell'], s, [], rfl, hs, rfl⟩⟩

theorem opens_row {α : Type} {E : World → List Value → α → List Nat → Prop} {sz : Nat} (ht : P.underlying t = some (.slice e)) (hc : P.cellsOf t = 1) (he : Opens P e E sz) : Opens P t (rowE E sz) 1 := by
  refine ⟨Nat.one_pos, rowE_kept he.kept, hc, ?_⟩
  intro H enc W fuel cs x h
  rcases open_slice ht h with ⟨rfl, _⟩ | ⟨a, len, cap, m, n, D, Pl, rfl, hb, hl, hm, hmm, _, hx⟩
  · exact ⟨rfl, by simp [Value.oneCell'], [], [], _, rfl, GV.nil _ _ _⟩
  refine ⟨rfl, by simp [Value.oneCell'], ?_⟩
  by_cases hz : len = 0
  · subst hz
    exact ⟨[], [], _, rfl, [], [], ⟨by simp, _, _, rfl, hl, hm, .inl ⟨rfl, rfl⟩⟩, fun k a h => by simp at h, by simp, by simp, by simp⟩
  have hmc : len ≤ m := by rw [hmm]; simp; omega
  have hcell : ∀ k, k < len → ∃ cs', cs'.length = sz ∧ (∀ y ∈ cs', y.oneCell' = true) ∧ (∀ f, f < sz → W.cell? (a.add (k * sz + f)) = cs'[f]?) ∧ ∃ b U, E W cs' b U := by
    intro k hk
    obtain ⟨cs', h1, h2⟩ := hx k (by omega)
    rw [he.cells] at h1
    obtain ⟨e1, e2, e3⟩ := he.op h2
    refine ⟨cs', e1, e2, fun f hf => ?_, e3⟩
    obtain ⟨_, _, hcc⟩ := World.cells?_some h1
    have := hcc f (by omega)
    rwa [Go.Deep.add_add] at this
  obtain ⟨g, off, spot⟩ := a
  have hpos := he.pos
  obtain ⟨cs0, l0, _, c0, b0, U0, _⟩ := hcell 0 (by omega)
  have hu0 := c0 0 hpos
  rw [List.getElem?_eq_getElem (by omega)] at hu0
  have hspot : spot = none := by simpa [Addr.add] using World.cell?_spot hu0
  subst hspot
  have hgl : g < W.heap.size := by rw [add_plain] at hu0; exact block_lt_of_cell hu0
  haveI : Inhabited (List Value × α × List Nat) := ⟨([], b0, [])⟩
  obtain ⟨F, hF⟩ := choose_lt (α := List Value × α × List Nat) (p := fun k y => y.1.length = sz ∧ (∀ z ∈ y.1, z.oneCell' = true) ∧ (∀ f, f < sz → W.cell? ⟨g, off + (k * sz + f), none⟩ = y.1[f]?) ∧ E W y.1 y.2.1 y.2.2) (fun k hk => by
    obtain ⟨cs', h1, h2, h3, b, U, h4⟩ := hcell k hk
    exact ⟨(cs', b, U), h1, h2, fun f hf => by have := h3 f hf; rwa [add_plain] at this, h4⟩)
  have hflat : ∀ (j : Nat) (l : List Nat), (∀ k ∈ l, k < len) → (l.flatMap fun k => (F k).1).length = l.length * sz := by
    intro j l hl
    induction l with
    | nil => simp
    | cons k l ih =>
      rw [List.flatMap_cons, List.length_append, (hF k (hl k (by simp))).1, ih (fun q hq => hl q (by simp [hq])), List.length_cons, Nat.add_mul]; omega
  have hget : ∀ (f : Nat), f < sz → ∀ (l : List Nat), (∀ k ∈ l, k < len) → ∀ (i k : Nat), l[i]? = some k → (l.flatMap fun k => (F k).1)[i * sz + f]? = (F k).1[f]? := by
    intro f hf l
    induction l with
    | nil => intro _ i k h; simp at h
    | cons q l ih =>
      intro hl i k h
      have hq := (hF q (hl q (by simp))).1
      match i with
      | 0 =>
        simp at h; subst h
        rw [List.flatMap_cons, List.getElem?_append_left (by omega)]; simp
      | i + 1 =>
        have e : (i + 1) * sz = i * sz + sz := by rw [Nat.add_mul]; omega
        rw [List.flatMap_cons, List.getElem?_append_right (by omega), hq, show (i + 1) * sz + f - sz = i * sz + f by omega]
        exact ih (fun k hk => hl k (by simp [hk])) i k (by simpa using h)
  have hrl : ∀ k ∈ List.range len, k < len := fun k hk => List.mem_range.1 hk
  have hxl : ((List.range len).flatMap fun k => (F k).1).length = len * sz := by rw [hflat 0 _ hrl]; simp
  have hdiv : ∀ j, j < len * sz → j / sz < len ∧ j % sz < sz ∧ j / sz * sz + j % sz = j := fun j hj =>
    ⟨Nat.div_lt_of_lt_mul (by rw [Nat.mul_comm]; exact hj), Nat.mod_lt _ hpos, Nat.div_add_mod' _ _⟩
  refine ⟨(List.range len).map fun k => (F k).2.1, g :: (List.range len).flatMap fun k => (F k).2.2, _, rfl, (List.range len).flatMap fun k => (F k).1, [g], ?_, ?_, by simp, ?_, ?_⟩
  · refine ⟨by rw [hxl]; simp, _, _, by simp, by simpa using hl, hm, .inr ⟨g, off, rfl, rfl, hgl, fun j hj => ?_⟩⟩
    rw [hxl] at hj
    obtain ⟨d1, d2, d3⟩ := hdiv j hj
    have h1 := (hF _ d1).2.2.1 _ d2
    rw [d3] at h1
    have h2 := hget _ d2 _ hrl (j / sz) (j / sz) (by simp [d1])
    rw [d3] at h2
    rw [h1, h2]
  · intro k b hk
    obtain ⟨hk1, rfl⟩ := List.getElem?_eq_some_iff.1 hk
    have hk2 : k < len := by simpa using hk1
    refine ⟨(F k).2.2, ?_, fun y hy => List.mem_cons_of_mem _ (List.mem_flatMap.2 ⟨k, List.mem_range.2 hk2, hy⟩)⟩
    have hch : chunk ((List.range len).flatMap fun k => (F k).1) sz k = (F k).1 := by
      apply List.ext_getElem?
      intro f
      by_cases hf : f < sz
      · rw [chunk_get hf]; exact hget f hf _ hrl k k (by simp [hk2])
      · rw [List.getElem?_eq_none (by unfold chunk; rw [List.length_take]; omega), List.getElem?_eq_none (by rw [(hF k hk2).1]; omega)]
    rw [hch]
    simpa using (hF k hk2).2.2.2
  · intro y hy
    rcases List.mem_cons.1 hy with rfl | hy
    · exact hgl
    · obtain ⟨k, hk, hy⟩ := List.mem_flatMap.1 hy
      exact he.kept.lt (hF k (List.mem_range.1 hk)).2.2.2 y hy
  · intro y hy
    obtain ⟨k, hk, hy⟩ := List.mem_flatMap.1 hy
    exact (hF k (List.mem_range.1 hk)).2.1 y hy

/-- field i of a struct (off: its place), opened -/
theorem Opens.field {α : Type} {E : World → List Value → α → List Nat → Prop} {sz : Nat} {H : Type} {enc : TypeId × Value → H} {W : World} {n : Nat} {cs : List Value} {y : Option (DataW H × List MemPlace)} {f : Field} {off : Nat}
    (he : Opens P e E sz) (hf : f.type = e) (ho : f.offset = off) (hy : y.isSome = true) (h : DataW.trod enc P W 0 (fun _ => true) true n f.type ((cs.drop f.offset).take (P.cellsOf f.type)) = y) :
    (∀ z ∈ (cs.drop off).take sz, z.oneCell' = true) ∧ ((cs.drop off).take sz).length = sz ∧ ∃ a U, E W ((cs.drop off).take sz) a U := by
  obtain ⟨y', rfl⟩ := Option.isSome_iff_exists.1 hy
  subst hf ho
  rw [he.cells] at h
  obtain ⟨h1, h2, h3⟩ := he.op h
  exact ⟨h2, h1, h3⟩

/-- an argument of one cell -/
theorem Opens.arg1 {α : Type} {E : World → List Value → α → List Nat → Prop} {H : Type} {enc : TypeId × Value → H} {W : World} {v : Value} {d : DataW H} {p : List MemPlace}
    (he : Opens P t E 1) (hv : v.cells = #[v]) (h : DataW.Trod enc P W 0 (fun _ => true) true t v d p) : ∃ a U, E W [v] a U := by
  obtain ⟨fuel, hfu⟩ := h
  have := (he.op (show DataW.trod enc P W 0 (fun _ => true) true fuel t [v] = some (d, p) by simpa [hv] using hfu)).2.2
  exact this
/-- a slice as an argument -/
theorem Opens.row {α : Type} {E : World → List Value → α → List Nat → Prop} {sz : Nat} {H : Type} {enc : TypeId × Value → H} {W : World} {r : Reach} {b0 : Nat} {v : Value} {d : DataW H} {p : List MemPlace}
    (he : Opens P t (rowE E sz) 1) (ht : P.underlying t = some (.slice e)) (hv : Value.okWide P W r b0 t v) (h : DataW.Trod enc P W 0 (fun _ => true) true t v d p) : ∃ l S, GV E sz W v l S := by
  obtain ⟨ao, len, cap, rfl⟩ := okWide_slice ht hv
  obtain ⟨l, S, v', h1, h2⟩ := he.arg1 rfl h
  obtain rfl : _ = v' := by simpa using h1
  exact ⟨l, S, h2⟩
/-- a struct as an argument -/
theorem Opens.agg {α : Type} {E : World → List Value → α → List Nat → Prop} {sz : Nat} {fs : Array Field} {H : Type} {enc : TypeId × Value → H} {W : World} {r : Reach} {b0 : Nat} {v : Value} {d : DataW H} {p : List MemPlace}
    (he : Opens P t E sz) (ht : P.underlying t = some (.struct fs)) (hv : Value.okWide P W r b0 t v) (h : DataW.Trod enc P W 0 (fun _ => true) true t v d p) :
    ∃ cs a U, v = .agg cs ∧ cs.size = sz ∧ E W cs.toList a U ∧ ∀ y ∈ cs.toList, y.oneCell' = true := by
  obtain ⟨cs, rfl, hsz⟩ := okWide_struct ht hv
  obtain ⟨fuel, hfu⟩ := h
  obtain ⟨h1, h2, a, U, h3⟩ := he.op (show DataW.trod enc P W 0 (fun _ => true) true fuel t cs.toList = some (d, p) by simpa [Value.cells] using hfu)
  exact ⟨cs, a, U, rfl, by simpa using h1, h3, h2⟩
end

/-- numbers, one cell each, as the elder word says it -/
theorem GV.iv {w : World} {v : Value} {l : List Int} {S : List Nat} (h : GV (numE .i64) 1 w v l S) : (∃ T, IV w v l T ∧ ∀ x ∈ T, x ∈ S) ∧ ∀ x ∈ l, (Lit.int .i64 x).wf = true := by
  obtain ⟨xs, T, h1, h2, h3, _⟩ := h
  have hlen := h1.len
  have hx : ∀ (k : Nat) a, l[k]? = some a → xs[k]? = some (.int .i64 a) ∧ (Lit.int .i64 a).wf = true := fun k a hk => by
    obtain ⟨U, ⟨h5, h6, _⟩, _⟩ := h2 k a hk
    have := chunk_get (xs := xs) (sz := 1) (k := k) (j := 0) (by omega)
    rw [h5] at this
    exact ⟨by simpa using this.symm, h6⟩
  have e : xs = l.map (Value.int .i64) := by
    apply List.ext_getElem?
    intro k
    by_cases hk : k < l.length
    · rw [(hx k _ (List.getElem?_eq_getElem hk)).1]; simp [hk]
    · rw [List.getElem?_eq_none (by omega), List.getElem?_eq_none (by simp; omega)]
  subst e
  refine ⟨⟨T, h1, h3⟩, fun x hx' => ?_⟩
  obtain ⟨k, hk, rfl⟩ := List.getElem_of_mem hx'
  exact (hx k _ (List.getElem?_eq_getElem hk)).2
/-- rows of numbers -/
theorem GV.ints {w : World} {v : Value} {l : List (List Int)} {S : List Nat} (h : GV (rowE (numE .i64) 1) 1 w v l S) : GV intsE 1 w v l S ∧ ∀ r ∈ l, ∀ x ∈ r, (Lit.int .i64 x).wf = true := by
  obtain ⟨xs, T, h1, h2, h3, h4, h5⟩ := h
  refine ⟨⟨xs, T, h1, fun k a hk => ?_, h3, h4, h5⟩, fun r hr => ?_⟩
  · obtain ⟨U, ⟨v', h6, h7⟩, h8⟩ := h2 k a hk
    obtain ⟨⟨T', h9, h10⟩, _⟩ := h7.iv
    exact ⟨T', ⟨v', h6, h9⟩, fun x hx => h8 x (h10 x hx)⟩
  · obtain ⟨k, hk, rfl⟩ := List.getElem_of_mem hr
    obtain ⟨U, ⟨v', h6, h7⟩, h8⟩ := h2 k _ (List.getElem?_eq_getElem hk)
    exact h7.iv.2
end Go.Proofs.Ytopkfhmdgheghaa
