/-
  for k, v := range m: maps keyed by int, whatever their elements. Over any program.
  Conditions: none.
-/
import Derived.Test.YtopkfhmdgheghaaMapV
namespace Go.Proofs.Ytopkfhmdgheghaa
open Go.RowKit Go.Maps
set_option linter.unusedVariables false
set_option linter.unusedSimpArgs false
set_option linter.unnecessarySimpa false

/-- a loop over the map b is under way (block r); left: which keys are still to come; cnt: how many -/
def MapR (P : Program) (k : TypeId) (w : World) (b r n : Nat) (f : Int → Option Value) (left : Int → Bool) (cnt : Nat) : Prop :=
  ∃ D lf, w.ranges P k valElem b r n D lf cnt ∧ (∀ g, wf64L g → Maps.has D (i64L g) = (f g).isSome ∧ ∀ z, D.atKey (i64L g) (.held z) = .held ((f g).getD z)) ∧ ∀ g, wf64L g → lf (i64L g) = left g
section
variable {P : Program} {k : TypeId} {w w' : World} {b r n cnt : Nat} {f : Int → Option Value} {left : Int → Bool}
theorem MapR.keep {T : List Nat} (h : MapR P k w b r n f left cnt) (kp : Keeps T w w') (hb : b ∉ T) (hr : r ∉ T) : MapR P k w' b r n f left cnt := by
  obtain ⟨D, lf, h1, h2, h3⟩ := h
  refine ⟨D, lf, ?_, h2, h3⟩
  have l1 := h1.owns.lt
  have l2 := h1.lt
  obtain ⟨es, clock, since, seen, c0, q1, q2, q3, q4, q5, rest⟩ := h1
  exact ⟨es, clock, since, seen, c0, (kp.block b l1 hb).trans q1, q2, q3, q4, (kp.block r l2 hr).trans q5, rest⟩
theorem MapR.then (h : MapR P k w b r n f left cnt) (kp : Keeps [] w w') : MapR P k w' b r n f left cnt := h.keep kp (by simp) (by simp)
theorem MapR.left_eq (h : MapR P k w b r n f left cnt) : w.rangeLeft b r = cnt := by obtain ⟨D, lf, h1, _⟩ := h; exact h1.left_eq
theorem lit_same {x g : Int} : (i64L g).sameKey (i64L x) = decide (g = x) := by simp [i64L, Lit.sameKey]
/-- range m -/
theorem wp_range {e : TypeId} (hk : P.underlying k = some (.int .i64)) {t : TypeId} (ht : P.underlying t = some (.map k e))
    {ops : Array Oper} {rest : List Oper} {o : Oper} {a : Act} {Q : Exit → Act → World → Prop} {m : Operand} (h : MapV P k w b n f)
    (hK : ∀ w' cnt, MapR P k w' b w.heap.size n f (fun g => (f g).isSome) cnt → Keeps [] w w' → w'.heap.size = w.heap.size + 1 → wpList P ops Q rest (a.put o.dst (.pointer (some ⟨w.heap.size, 0, none⟩))) w')
    (hg : o.guard = none := by rfl) (hop : o.op = Op.range t m := by rfl) (hm : a.eval m = .map (some b) := by rfl) : wpList P ops Q (o :: rest) a w := by
  obtain ⟨D, h1, h2⟩ := h
  refine wpList_range_own w hg m t hop k e (int_keyed hk) ht valElem b n D hm h1 (fun w' q1 q2 q3 => hK w' _ ⟨D, _, q1, h2, fun g hw => (h2 g hw).1⟩ ((Keeps.refl [] w).grown q2 (by simp)) q3)
/-- the step -/
theorem wp_next (hk : P.underlying k = some (.int .i64))
    {ops : Array Oper} {rest : List Oper} {o : Oper} {a : Act} {Q : Exit → Act → World → Prop} {it : Operand} (h : MapR P k w b r n f left cnt) (hf : ∀ g, left g = true → (f g).isSome = true)
    (hDone : cnt = 0 → (∀ g, wf64L g → left g = false) → wpList P ops Q rest (a.put o.dst (.tuple #[.bool false])) w)
    (hMore : ∀ (x : Int) (v : Value) (w' : World) (cnt' : Nat), wf64L x → left x = true → f x = some v → MapR P k w' b r n f (fun z => left z && !decide (z = x)) cnt' → cnt' < cnt → Keeps [r] w w' → w'.heap.size = w.heap.size →
      (Instr.entry (.pointer (some ⟨r, 0, none⟩))).run P w' = .ok (.tuple #[.int .i64 x, v]) w' → wpList P ops Q rest (a.put o.dst (.tuple #[.bool true, .int .i64 x, v])) w')
    (hg : o.guard = none := by rfl) (hop : o.op = Op.next it false := by rfl) (hit : a.eval it = .pointer (some ⟨r, 0, none⟩) := by rfl) : wpList P ops Q (o :: rest) a w := by
  obtain ⟨D, lf, h1, h2, h3⟩ := h
  refine wpList_next_ranges w hg it hop k (int_keyed hk) valElem (Value.int .i64) id (fun key kl hkey => by obtain ⟨x, rfl, _⟩ := Maps.keyOf_int_inv hk hkey; exact ⟨x, rfl⟩) (fun v _ _ => ⟨v, rfl⟩) b r n D lf cnt hit h1 ?_ ?_
  · intro hc hl
    exact hDone hc (fun g hw => by rw [← h3 g hw]; exact hl _)
  · intro x c kl y w' cnt' hkey hl hR hat hrg hlt hgr hsz hen
    obtain ⟨x', ex, rfl, hwx⟩ := Maps.keyOf_int_inv hk hkey
    obtain rfl : x = x' := by simpa using ex
    have hlx : left x = true := by rw [← h3 x hwx]; exact hl
    have hfx : f x = some c := by
      have h5 := (h2 x hwx).2 (.int .i64 0)
      have h6 := hat (.held (.int .i64 0))
      have h7 : y = (.held c, []) := by simpa [valElem] using hR.symm
      rw [h7] at h6
      have h8 := h5.symm.trans h6
      have h9 := hf x hlx
      cases hfx : f x with
      | none => rw [hfx] at h9; cases h9
      | some v => rw [hfx] at h8; simpa using h8
    exact hMore x c w' cnt' hwx hlx hfx ⟨D, _, hrg, h2, fun g hw => by show (_ && _) = (left g && !decide (g = x)); rw [← h3 g hw]; congr 1; rw [show (Lit.int IntKind.i64 x) = i64L x from rfl, lit_same]⟩ hlt ((Keeps.refl [r] w).grown hgr (fun j hj => by cases hj; exact .inl (by simp))) hsz hen
end
end Go.Proofs.Ytopkfhmdgheghaa
