/-
  Maps keyed by int, whatever their elements: what a key holds is a value, or nothing. Over any program.
  Conditions: none.
-/
import Derived.Test.YtopkfhmdgheghaaBase
import Derived.Maps.OwnSet
import Derived.Maps.RangeWalk
namespace Go.Proofs.Ytopkfhmdgheghaa
open Go.RowKit Go.Maps
set_option linter.unusedVariables false
set_option linter.unusedSimpArgs false
set_option linter.unnecessarySimpa false

/-- an element reads as the very value -/
def valElem (v : Value) : Option (DataW Value × List MemPlace) := some (.held v, [])
def i64L (g : Int) : Lit := .int .i64 g
def wf64L (g : Int) : Prop := (Lit.int .i64 g).wf = true
/-- block b is a map of at most n entries; f: what a key holds -/
def MapV (P : Program) (k : TypeId) (w : World) (b n : Nat) (f : Int → Option Value) : Prop :=
  ∃ D, w.ownsMap P k valElem b n D ∧ ∀ g, wf64L g → Maps.has D (i64L g) = (f g).isSome ∧ ∀ z, D.atKey (i64L g) (.held z) = .held ((f g).getD z)

section
variable {P : Program} {k : TypeId} {w w' : World} {b n : Nat} {f : Int → Option Value}
theorem ownsMap_keep {R : Value → Option (DataW Value × List MemPlace)} {D : DataW Value} {T : List Nat} (h : w.ownsMap P k R b n D) (kp : Keeps T w w') (hb : b ∉ T) : w'.ownsMap P k R b n D := by
  have hlt := h.lt
  obtain ⟨es, clock, h1, h2, h3, h4⟩ := h
  exact ⟨es, clock, (kp.block b hlt hb).trans h1, h2, h3, h4⟩
theorem MapV.lt (h : MapV P k w b n f) : b < w.heap.size := by obtain ⟨D, h1, _⟩ := h; exact h1.lt
theorem MapV.keep {T : List Nat} (h : MapV P k w b n f) (kp : Keeps T w w') (hb : b ∉ T) : MapV P k w' b n f := by
  obtain ⟨D, h1, h2⟩ := h
  exact ⟨D, ownsMap_keep h1 kp hb, h2⟩
theorem MapV.then (h : MapV P k w b n f) (kp : Keeps [] w w') : MapV P k w' b n f := h.keep kp (by simp)
theorem MapV.mono {m : Nat} (h : MapV P k w b n f) (hm : n ≤ m) : MapV P k w b m f := by
  obtain ⟨D, h1, h2⟩ := h
  exact ⟨D, h1.mono hm, h2⟩
theorem MapV.made (P : Program) (k : TypeId) (w : World) : MapV P k (w.alloc (.map #[] 0)) w.heap.size 0 (fun _ => none) :=
  ⟨_, World.ownsMap_made w P k valElem, fun g _ => ⟨rfl, fun z => rfl⟩⟩
theorem keeps_turned (h : w.mapTurned w' b) : Keeps [b] w w' := (Keeps.refl [b] w).grown h.grown (fun x hx => by cases hx; exact .inl (by simp))
theorem ikey {g : Int} (hg : wf64L g) : WideAt.IsKeyLit (i64L g) := by
  first
    | exact trivial
    | (simp [WideAt.IsKeyLit, i64L])
    | (unfold WideAt.IsKeyLit; exact hg)
theorem i64L_ne {a c : Int} (h : a ≠ c) : i64L a ≠ i64L c := fun e => h (by injection e)
/-- v, ok := m[g] -/
theorem wp_mapGet {e : TypeId} {z : Value} (hk : P.underlying k = some (.int .i64)) {t : TypeId} (ht : P.underlying t = some (.map k e)) (hz : ∀ w, (zeroValue e).run P w = .ok z w)
    {ops : Array Oper} {rest : List Oper} {o : Oper} {a : Act} {Q : Exit → Act → World → Prop} {m x : Operand} {g : Int} (hw : wf64L g) (h : MapV P k w b n f)
    (hK : wpList P ops Q rest (a.put o.dst (.tuple #[(f g).getD z, .bool (f g).isSome])) w)
    (hg : o.guard = none := by rfl) (hop : o.op = Op.lookup t m x true := by rfl) (hm : a.eval m = .map (some b) := by rfl) (hx : a.eval x = .int .i64 g := by rfl) : wpList P ops Q (o :: rest) a w := by
  obtain ⟨D, h1, h2⟩ := h
  obtain ⟨r1, r2⟩ := h2 g hw
  refine wpList_lookup_own_ok w hg m x t hop k e (int_keyed hk) ht valElem (hz w) (.held z) [] rfl b n D hm h1 _ (i64L g) hx (keyOf_int_mk hk hw) (fun v ps hv => ?_)
  rw [r2 z] at hv
  simp only [valElem, Option.some.injEq, Prod.mk.injEq, DataW.held.injEq] at hv
  rw [hv.1, r1]
  exact hK
/-- m[g] = v -/
theorem wp_mapSet {e : TypeId} (hk : P.underlying k = some (.int .i64)) {t : TypeId} (ht : P.underlying t = some (.map k e))
    {ops : Array Oper} {rest : List Oper} {o : Oper} {a : Act} {Q : Exit → Act → World → Prop} {m x v : Operand} {g : Int} {u : Value} (hw : wf64L g) (h : MapV P k w b n f) (hn : n < maxLen)
    (hK : ∀ w', MapV P k w' b (n + 1) (fun c => if c = g then some u else f c) → Keeps [b] w w' → wpList P ops Q rest (a.put o.dst undef) w')
    (hg : o.guard = none := by rfl) (hop : o.op = Op.mapUpdate t m x v := by rfl) (hm : a.eval m = .map (some b) := by rfl) (hx : a.eval x = .int .i64 g := by rfl) (hv : a.eval v = u := by rfl) : wpList P ops Q (o :: rest) a w := by
  obtain ⟨D, h1, h2⟩ := h
  refine wpList_mapUpdate_in w hg m x v t hop k e (int_keyed hk) ht valElem b n D hm h1 hn _ _ (i64L g) hx hv (keyOf_int_mk hk hw) (.held u) [] rfl (fun w' q1 q2 => hK w' ⟨_, q1, fun c hc => ?_⟩ (keeps_turned q2))
  dsimp only
  by_cases e : c = g
  · subst e
    rw [if_pos rfl]
    exact ⟨has_put_same h1.isMap (ikey hw) _, fun z => atKey_put_same h1.isMap (ikey hw) _ _⟩
  · rw [if_neg e]
    exact ⟨(has_put_other (i64L_ne e) _).trans (h2 c hc).1, fun z => (atKey_put_other (i64L_ne e) _ _).trans ((h2 c hc).2 z)⟩
/-- delete(m, g) -/
theorem wp_mapDel {e : TypeId} (hk : P.underlying k = some (.int .i64)) {t : TypeId} (ht : P.underlying t = some (.map k e))
    {ops : Array Oper} {rest : List Oper} {o : Oper} {a : Act} {Q : Exit → Act → World → Prop} {m x : Operand} {g : Int} (hw : wf64L g) (h : MapV P k w b n f)
    (hK : ∀ w', MapV P k w' b n (fun c => if c = g then none else f c) → Keeps [b] w w' → wpList P ops Q rest (a.put o.dst (.tuple #[])) w')
    (hg : o.guard = none := by rfl) (hop : o.op = Op.call { callee := Callee.builtin Builtin.delete, args := #[m, x], argTypes := #[t, k] } := by rfl) (hm : a.eval m = .map (some b) := by rfl) (hx : a.eval x = .int .i64 g := by rfl) : wpList P ops Q (o :: rest) a w := by
  obtain ⟨D, h1, h2⟩ := h
  refine wpList_delete_own w hg m x t k hop e (int_keyed hk) ht valElem b n D hm h1 _ (i64L g) hx (keyOf_int_mk hk hw) (fun w' q1 q2 => hK w' ⟨_, q1, fun c hc => ?_⟩ (keeps_turned q2))
  dsimp only
  by_cases e : c = g
  · subst e
    rw [if_pos rfl]
    exact ⟨has_del_same, fun z => atKey_del_same _⟩
  · rw [if_neg e]
    exact ⟨(has_del_other (i64L_ne e)).trans (h2 c hc).1, fun z => (atKey_del_other (i64L_ne e) _).trans ((h2 c hc).2 z)⟩
end
end Go.Proofs.Ytopkfhmdgheghaa
