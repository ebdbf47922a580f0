/-
  Slices of ints that are read or owned, as lists of numbers.
  Conditions: none.
-/
import Derived.Test.YtopkfhmdgheghaaFlat
namespace Go.Proofs.Ytopkfhmdgheghaa
open Go.RowKit
set_option linter.unusedVariables false
set_option linter.unusedSimpArgs false
set_option linter.unnecessarySimpa false

/-- v reads as the numbers l. -/
def IV (w : World) (v : Value) (l : List Int) (S : List Nat) : Prop := View w v 1 l.length (l.map (Value.int .i64)) S
/-- v owns the numbers l (e: the element type). -/
def IR (w : World) (v : Value) (e : TypeId) (l : List Int) (S : List Nat) : Prop := Row w v e 1 l.length (l.map (Value.int .i64)) S

section
variable {w w' : World} {v : Value} {l : List Int} {S T : List Nat} {e : TypeId}
theorem IR.iv (h : IR w v e l S) : IV w v l S := Row.view h
theorem IV.keep (h : IV w v l S) (k : Keeps T w w') (hn : ∀ x ∈ S, x ∉ T) : IV w' v l S := View.keep h k hn
theorem IV.then (h : IV w v l S) (k : Keeps [] w w') : IV w' v l S := View.then h k
theorem IR.keep (h : IR w v e l S) (k : Keeps T w w') (hn : ∀ x ∈ S, x ∉ T) : IR w' v e l S := Row.keep h k hn
theorem IR.then (h : IR w v e l S) (k : Keeps [] w w') : IR w' v e l S := Row.then h k
theorem IV.drewN (h : IV w v l S) (n : Nat) : IV (w.drewN n) v l S := View.then h ((Keeps.refl [] w).drewN n)
theorem IV.alloc (h : IV w v l S) (o : Obj) : IV (w.alloc o) v l S := View.then h ((Keeps.refl [] w).alloc o)
theorem IR.alloc (h : IR w v e l S) (o : Obj) : IR (w.alloc o) v e l S := Row.alloc h o
theorem IV.shape (h : IV w v l S) : ∃ ao cap, v = .slice ao l.length cap := View.shape h
theorem IR.shape (h : IR w v e l S) : ∃ ao cap, v = .slice ao l.length cap := Row.shape h
theorem IV.le (h : IV w v l S) : l.length ≤ maxLen := View.le h
theorem IR.le (h : IR w v e l S) : l.length ≤ maxLen := Row.le h
theorem IV.lt (h : IV w v l S) : ∀ k ∈ S, k < w.heap.size := View.lt h
theorem IR.lt (h : IR w v e l S) : ∀ k ∈ S, k < w.heap.size := Row.lt h
theorem IV.nil (w : World) : IV w (.slice none 0 0) [] [] := View.nil w 1
theorem IR.nil (w : World) (e : TypeId) : IR w (.slice none 0 0) e [] [] := Row.nil w e 1
theorem IR.lit0 (w : World) (e : TypeId) : IR (w.alloc (.cells #[] e)) (.slice (some ⟨w.heap.size, 0, none⟩) 0 0) e [] [w.heap.size] := Row.lit w [] e 1 0 rfl (by simp [maxLen])
theorem IR.lit (w : World) (e : TypeId) (b : Nat) (hb : b = w.heap.size) : IR (w.alloc (.cells #[] e)) (.slice (some ⟨b, 0, none⟩) 0 0) e [] [b] := by subst hb; exact IR.lit0 w e
theorem IV.cells {ao : Option Addr} {m cap : Nat} (h : IV w (.slice ao m cap) l S) (hp : 0 < l.length) :
    ∃ g off, ao = some ⟨g, off, none⟩ ∧ S = [g] ∧ g < w.heap.size ∧ ∀ k, k < l.length → w.cell? ⟨g, off + k, none⟩ = some (.int .i64 (l.getD k 0)) := by
  obtain ⟨g, off, h1, h2, h3, h4⟩ := View.cell h hp
  refine ⟨g, off, h1, h2, h3, fun k hk => ?_⟩
  rw [h4 k (by simpa using hk)]; simp [List.getD, hk]
theorem IR.cells {ao : Option Addr} {m cap : Nat} (h : IR w (.slice ao m cap) e l S) (hp : 0 < l.length) :
    ∃ g off, ao = some ⟨g, off, none⟩ ∧ S = [g] ∧ g < w.heap.size ∧ (∀ k, k < l.length → w.cell? ⟨g, off + k, none⟩ = some (.int .i64 (l.getD k 0))) ∧ ∀ k, w.frozen? ⟨g, off + k, none⟩ = false := by
  obtain ⟨g, off, h1, h2, h3, h4, h5⟩ := Row.cells h hp
  refine ⟨g, off, h1, h2, h3, fun k hk => ?_, h5⟩
  rw [h4 k (by simpa using hk)]; simp [List.getD, hk]
theorem IR.stored {g off m cap : Nat} (h : IR w (.slice (some ⟨g, off, none⟩) m cap) e l S) (j : Nat) (hj : j < l.length) (u : Int) :
    IR (w.setCell ⟨g, off + j, none⟩ (.int .i64 u)) (.slice (some ⟨g, off, none⟩) m cap) e (l.set j u) S ∧ Keeps S w (w.setCell ⟨g, off + j, none⟩ (.int .i64 u)) := by
  have := Row.stored h j (by simpa using hj) (.int .i64 u)
  refine ⟨?_, this.2⟩
  unfold IR
  simpa using this.1
end

/-- l[1:] -/
theorem IV.tail {w : World} {g off cap : Nat} {l : List Int} {S : List Nat} (h : IV w (.slice (some ⟨g, off, none⟩) l.length cap) l S) (h0 : 0 < l.length) :
    ∃ S', IV w (.slice (if cap = 1 then some ⟨g, off, none⟩ else some ⟨g, off + 1, none⟩) (l.length - 1) (cap - 1)) l.tail S' ∧ ∀ k ∈ S', k ∈ S := by
  obtain ⟨g', off', e, rfl, hg, hc⟩ := h.cells h0
  obtain ⟨rfl, rfl⟩ := by simpa using e
  obtain ⟨hl, ao, cap', e', hnc, hcm, _⟩ := h
  obtain ⟨rfl, rfl⟩ := by simpa using e'
  by_cases h1 : cap = 1
  · have hl1 : l.length = 1 := by omega
    have htl : l.tail = [] := List.eq_nil_of_length_eq_zero (by simp; omega)
    refine ⟨[], ⟨by rw [htl]; simp, some ⟨g, off, none⟩, cap - 1, by rw [htl, if_pos h1]; simp [hl1], by rw [htl]; simp, by omega, .inl ⟨by rw [htl]; rfl, rfl⟩⟩, by simp⟩
  · refine ⟨[g], ⟨by simp, some ⟨g, off + 1, none⟩, cap - 1, by rw [if_neg h1]; simp, by simp; omega, by omega, .inr ⟨g, off + 1, rfl, rfl, hg, fun j hj => ?_⟩⟩, fun k hk => hk⟩
    have hj' : j + 1 < l.length := by simp at hj; omega
    rw [show off + 1 + j = off + (j + 1) by omega, hc (j + 1) hj']
    simp [List.getD, hj']

section
variable {P : Program} {t e : TypeId} {bytes : Nat} {z : Value}
/-- append(s, x...): numbers to numbers. -/
theorem wp_apps (E : Elem P t e 1 bytes z) {w : World} {ops : Array Oper} {rest : List Oper} {o : Oper} {a : Act} {Q : Exit → Act → World → Prop} {s x : Operand}
    {v u : Value} {l r : List Int} {S T : List Nat} (h : IR w v e l S) (hu : IV w u r T) (hb : (l.length + r.length) * bytes ≤ 140737488355328)
    (hK : ∀ ao cap w' S', IR w' (.slice ao (l.length + r.length) cap) e (l ++ r) S' → Keeps S w w' → (∀ k ∈ S', k ∈ S ∨ w.heap.size ≤ k) → wpList P ops Q rest (a.put o.dst (.slice ao (l.length + r.length) cap)) w')
    (hg : o.guard = none := by rfl) (hop : o.op = Op.call { callee := Callee.builtin Builtin.append, args := #[s, x], argTypes := #[t, t] } := by rfl) (hs : a.eval s = v := by rfl) (hx : a.eval x = u := by rfl) :
    wpList P ops Q (o :: rest) a w :=
  wp_app E h hu (oc_ints r) hb (fun ao cap w' S' r1 r2 r3 => hK ao cap w' S' (by unfold IR; simpa using r1) r2 r3) hg hop hs hx
/-- append(s, n): one number more. -/
theorem wp_appn (E : Elem P t e 1 bytes z) {w : World} {ops : Array Oper} {rest : List Oper} {o : Oper} {a : Act} {Q : Exit → Act → World → Prop} {s x : Operand}
    {v : Value} {l : List Int} {n : Int} {bx : Nat} {S : List Nat} (h : IR w v e l S) (hb : (l.length + 1) * bytes ≤ 140737488355328)
    (hK : ∀ ao cap w' S', IR w' (.slice ao (l.length + 1) cap) e (l ++ [n]) S' → Keeps S w w' → (∀ k ∈ S', k ∈ S ∨ w.heap.size ≤ k) → wpList P ops Q rest (a.put o.dst (.slice ao (l.length + 1) cap)) w')
    (hg : o.guard = none := by rfl) (hop : o.op = Op.call { callee := Callee.builtin Builtin.append, args := #[s, x], argTypes := #[t, t] } := by rfl) (hs : a.eval s = v := by rfl) (hx : a.eval x = .slice (some ⟨bx, 0, none⟩) 1 1 := by rfl) (hbx : bx = w.heap.size := by first | rfl | simp) :
    wpList P ops Q (o :: rest) a (w.alloc (.cells #[.int .i64 n] e)) :=
  wp_app1 E (m := 1) (ys := [.int .i64 n]) h rfl one_le_max oc_int hb (fun ao cap w' S' r1 r2 r3 => hK ao cap w' S' (by unfold IR; simpa using r1) r2 r3) hg hop hs hx hbx
/-- append(s, x...) in a region that draws its order. -/
theorem step_apps (E : Elem P t e 1 bytes z) {w : World} {ops : Array Oper} {o : Oper} {a : Act} {K : Act → World → Prop} {Q : Exit → Act → World → Prop} {F : Prop} {s x : Operand}
    {v u : Value} {l r : List Int} {S T : List Nat} (h : IR w v e l S) (hu : IV w u r T) (hb : (l.length + r.length) * bytes ≤ 140737488355328)
    (hK : ∀ ao cap w' S', IR w' (.slice ao (l.length + r.length) cap) e (l ++ r) S' → Keeps S w w' → (∀ k ∈ S', k ∈ S ∨ w.heap.size ≤ k) → K (a.put o.dst (.slice ao (l.length + r.length) cap)) w')
    (hg : o.guard = none := by rfl) (hop : o.op = Op.call { callee := Callee.builtin Builtin.append, args := #[s, x], argTypes := #[t, t] } := by rfl) (hs : a.eval s = v := by rfl) (hx : a.eval x = u := by rfl) :
    if Region.wanted o (yielded ops a.tmps) = true then Oper.wp P o a w K Q else F :=
  step_app E h hu (oc_ints r) hb (fun ao cap w' S' r1 r2 r3 => hK ao cap w' S' (by unfold IR; simpa using r1) r2 r3) hg hop hs hx
/-- append(s, n) in a region that draws its order. -/
theorem step_appn (E : Elem P t e 1 bytes z) {w : World} {ops : Array Oper} {o : Oper} {a : Act} {K : Act → World → Prop} {Q : Exit → Act → World → Prop} {F : Prop} {s x : Operand}
    {v : Value} {l : List Int} {n : Int} {bx : Nat} {S : List Nat} (h : IR w v e l S) (hb : (l.length + 1) * bytes ≤ 140737488355328)
    (hK : ∀ ao cap w' S', IR w' (.slice ao (l.length + 1) cap) e (l ++ [n]) S' → Keeps S w w' → (∀ k ∈ S', k ∈ S ∨ w.heap.size ≤ k) → K (a.put o.dst (.slice ao (l.length + 1) cap)) w')
    (hg : o.guard = none := by rfl) (hop : o.op = Op.call { callee := Callee.builtin Builtin.append, args := #[s, x], argTypes := #[t, t] } := by rfl) (hs : a.eval s = v := by rfl) (hx : a.eval x = .slice (some ⟨bx, 0, none⟩) 1 1 := by rfl) (hbx : bx = w.heap.size := by first | rfl | simp) :
    if Region.wanted o (yielded ops a.tmps) = true then Oper.wp P o a (w.alloc (.cells #[.int .i64 n] e)) K Q else F :=
  step_app1 E (m := 1) (ys := [.int .i64 n]) h rfl one_le_max oc_int hb (fun ao cap w' S' r1 r2 r3 => hK ao cap w' S' (by unfold IR; simpa using r1) r2 r3) hg hop hs hx hbx
end

/-- a list of numbers is another one, element by element -/
theorem same_iff (a b : List Int) (h : a.length = b.length) (hj : ∀ j, j < a.length → a.getD j 0 = b.getD j 0) : a = b := by
  apply List.ext_getElem h
  intro i h1 h2
  have := hj i h1
  simpa [List.getD, h1, h2] using this
end Go.Proofs.Ytopkfhmdgheghaa
