/-
  Owned rows of numbers of a kind (bytes and the like): one or two more, in the walk and in a region that draws.
  Conditions: none.
-/
import Derived.Test.YtopkfhmdgheghaaRow
import Derived.Test.YtopkfhmdgheghaaGen
import Derived.Test.YtopkfhmdgheghaaRep
namespace Go.Proofs.Ytopkfhmdgheghaa
open Go.RowKit
set_option linter.unusedVariables false
set_option linter.unusedSimpArgs false
set_option linter.unnecessarySimpa false

def KR (k : IntKind) (w : World) (v : Value) (e : TypeId) (l : List Int) (S : List Nat) : Prop := Row w v e 1 l.length (l.map (Value.int k)) S
section
variable {k : IntKind} {w w' : World} {v : Value} {l : List Int} {S T : List Nat} {e : TypeId}
theorem KR.keep (h : KR k w v e l S) (kp : Keeps T w w') (hn : ∀ x ∈ S, x ∉ T) : KR k w' v e l S := Row.keep h kp hn
theorem KR.then (h : KR k w v e l S) (kp : Keeps [] w w') : KR k w' v e l S := Row.then h kp
theorem KR.shape (h : KR k w v e l S) : ∃ ao cap, v = .slice ao l.length cap := Row.shape h
theorem KR.le (h : KR k w v e l S) : l.length ≤ maxLen := Row.le h
theorem KR.lt (h : KR k w v e l S) : ∀ x ∈ S, x < w.heap.size := Row.lt h
theorem KR.nil (k : IntKind) (w : World) (e : TypeId) : KR k w (.slice none 0 0) e [] [] := Row.nil w e 1
theorem KR.lit (k : IntKind) (w : World) (l : List Int) (e : TypeId) (b : Nat) (hb : b = w.heap.size) (hl : l.length ≤ 1000) : KR k (w.alloc (.cells (l.map (Value.int k)).toArray e)) (.slice (some ⟨b, 0, none⟩) l.length l.length) e l [b] := by
  subst hb
  exact Row.lit w (l.map (Value.int k)) e 1 l.length (by simp) (by simp [maxLen]; omega)
theorem GV.of_nums {w : World} {v : Value} {k : IntKind} {l : List Int} {S : List Nat} (h : View w v 1 l.length (l.map (Value.int k)) S) (hw : ∀ x ∈ l, (Lit.int k x).wf = true) : GV (numE k) 1 w v l S := by
  refine ⟨_, S, h, fun i a hi => ⟨[], ⟨?_, hw a (List.mem_of_getElem? hi), rfl⟩, by simp⟩, fun x hx => hx, h.lt, fun y hy => ?_⟩
  · have hl := (List.getElem?_eq_some_iff.1 hi).1
    apply List.ext_getElem?
    intro j
    by_cases hj : j < 1
    · have : j = 0 := by omega
      subst this
      rw [chunk_get (by omega)]
      simp [hi]
    · rw [List.getElem?_eq_none (by unfold chunk; rw [List.length_take]; omega), List.getElem?_eq_none (by simp; omega)]
  · obtain ⟨x, _, rfl⟩ := List.mem_map.1 hy; rfl
theorem KR.gv (h : KR k w v e l S) (hw : ∀ x ∈ l, (Lit.int k x).wf = true) : GV (numE k) 1 w v l S := GV.of_nums (Row.view h) hw
theorem GV.lit (w : World) (l : List Int) (k : IntKind) (e : TypeId) (b : Nat) (hb : b = w.heap.size) (hl : l.length ≤ 1000) (hw : ∀ x ∈ l, (Lit.int k x).wf = true) :
    GV (numE k) 1 (w.alloc (.cells (l.map (Value.int k)).toArray e)) (.slice (some ⟨b, 0, none⟩) l.length l.length) l [b] := (KR.lit k w l e b hb hl).gv hw
/-- what a row of numbers reads as -/
theorem GV.view_nums {w : World} {v : Value} {k : IntKind} {l : List Int} {S : List Nat} (h : GV (numE k) 1 w v l S) : ∃ T, View w v 1 l.length (l.map (Value.int k)) T ∧ ∀ x ∈ T, x ∈ S := by
  obtain ⟨xs, T, h1, h2, h3, _⟩ := h
  have hlen := h1.len
  have hx : ∀ (i : Nat) a, l[i]? = some a → xs[i]? = some (.int k a) := fun i a hk => by
    obtain ⟨U, ⟨h5, h6, _⟩, _⟩ := h2 i a hk
    have := chunk_get (xs := xs) (sz := 1) (k := i) (j := 0) (by omega)
    rw [h5] at this
    simpa using this.symm
  have e : xs = l.map (Value.int k) := by
    apply List.ext_getElem?
    intro i
    by_cases hk : i < l.length
    · rw [hx i _ (List.getElem?_eq_getElem hk)]; simp [hk]
    · rw [List.getElem?_eq_none (by omega), List.getElem?_eq_none (by simp; omega)]
  subst e
  exact ⟨T, h1, h3⟩
end
theorem wf_u8 {x : Int} (h : 0 ≤ x ∧ x ≤ 255) : (Lit.int .u8 x).wf = true := by
  simp [Lit.wf, IntKind.min, IntKind.max, IntKind.signed, IntKind.bits]; omega
theorem wf_i64 {x : Int} (h : -9223372036854775808 ≤ x ∧ x ≤ 9223372036854775807) : (Lit.int .i64 x).wf = true := by
  simp [Lit.wf, IntKind.min, IntKind.max, IntKind.signed, IntKind.bits]; omega
theorem oc_two {k : IntKind} {n m : Int} : ∀ y ∈ [Value.int k n, Value.int k m], y.oneCell' = true := by intro y hy; simp at hy; rcases hy with rfl | rfl <;> rfl
theorem two_le_max : 2 ≤ maxLen := by simp [maxLen]

section
variable {P : Program} {t e : TypeId} {bytes : Nat} {z : Value} {k : IntKind}
/-- append(s, n) -/
theorem wp_appk1 (E : Elem P t e 1 bytes z) {w : World} {ops : Array Oper} {rest : List Oper} {o : Oper} {a : Act} {Q : Exit → Act → World → Prop} {s x : Operand}
    {v : Value} {l : List Int} {n : Int} {bx : Nat} {S : List Nat} (h : KR k w v e l S) (hb : (l.length + 1) * bytes ≤ 140737488355328)
    (hK : ∀ ao cap w' S', KR k w' (.slice ao (l.length + 1) cap) e (l ++ [n]) S' → Keeps S w w' → (∀ k ∈ S', k ∈ S ∨ w.heap.size ≤ k) → wpList P ops Q rest (a.put o.dst (.slice ao (l.length + 1) cap)) w')
    (hg : o.guard = none := by rfl) (hop : o.op = Op.call { callee := Callee.builtin Builtin.append, args := #[s, x], argTypes := #[t, t] } := by rfl) (hs : a.eval s = v := by rfl) (hx : a.eval x = .slice (some ⟨bx, 0, none⟩) 1 1 := by rfl) (hbx : bx = w.heap.size := by first | rfl | simp) :
    wpList P ops Q (o :: rest) a (w.alloc (.cells #[.int k n] e)) :=
  wp_app1 E (m := 1) (ys := [.int k n]) h rfl one_le_max oc_int hb (fun ao cap w' S' r1 r2 r3 => hK ao cap w' S' (by unfold KR; simpa using r1) r2 r3) hg hop hs hx hbx
/-- append(s, n, m) -/
theorem wp_appk2 (E : Elem P t e 1 bytes z) {w : World} {ops : Array Oper} {rest : List Oper} {o : Oper} {a : Act} {Q : Exit → Act → World → Prop} {s x : Operand}
    {v : Value} {l : List Int} {n m : Int} {bx : Nat} {S : List Nat} (h : KR k w v e l S) (hb : (l.length + 2) * bytes ≤ 140737488355328)
    (hK : ∀ ao cap w' S', KR k w' (.slice ao (l.length + 2) cap) e (l ++ [n, m]) S' → Keeps S w w' → (∀ k ∈ S', k ∈ S ∨ w.heap.size ≤ k) → wpList P ops Q rest (a.put o.dst (.slice ao (l.length + 2) cap)) w')
    (hg : o.guard = none := by rfl) (hop : o.op = Op.call { callee := Callee.builtin Builtin.append, args := #[s, x], argTypes := #[t, t] } := by rfl) (hs : a.eval s = v := by rfl) (hx : a.eval x = .slice (some ⟨bx, 0, none⟩) 2 2 := by rfl) (hbx : bx = w.heap.size := by first | rfl | simp) :
    wpList P ops Q (o :: rest) a (w.alloc (.cells #[.int k n, .int k m] e)) :=
  wp_app1 E (m := 2) (ys := [.int k n, .int k m]) h rfl two_le_max oc_two hb (fun ao cap w' S' r1 r2 r3 => hK ao cap w' S' (by unfold KR; simpa using r1) r2 r3) hg hop hs hx hbx
/-- append(s, n, m) in a region that draws its order -/
theorem step_appk2 (E : Elem P t e 1 bytes z) {w : World} {ops : Array Oper} {o : Oper} {a : Act} {K : Act → World → Prop} {Q : Exit → Act → World → Prop} {F : Prop} {s x : Operand}
    {v : Value} {l : List Int} {n m : Int} {bx : Nat} {S : List Nat} (h : KR k w v e l S) (hb : (l.length + 2) * bytes ≤ 140737488355328)
    (hK : ∀ ao cap w' S', KR k w' (.slice ao (l.length + 2) cap) e (l ++ [n, m]) S' → Keeps S w w' → (∀ k ∈ S', k ∈ S ∨ w.heap.size ≤ k) → K (a.put o.dst (.slice ao (l.length + 2) cap)) w')
    (hg : o.guard = none := by rfl) (hop : o.op = Op.call { callee := Callee.builtin Builtin.append, args := #[s, x], argTypes := #[t, t] } := by rfl) (hs : a.eval s = v := by rfl) (hx : a.eval x = .slice (some ⟨bx, 0, none⟩) 2 2 := by rfl) (hbx : bx = w.heap.size := by first | rfl | simp) :
    if Region.wanted o (yielded ops a.tmps) = true then Oper.wp P o a (w.alloc (.cells #[.int k n, .int k m] e)) K Q else F :=
  step_app1 E (m := 2) (ys := [.int k n, .int k m]) h rfl two_le_max oc_two hb (fun ao cap w' S' r1 r2 r3 => hK ao cap w' S' (by unfold KR; simpa using r1) r2 r3) hg hop hs hx hbx
/-- append(s, x...) of numbers that are read -/
theorem wp_appks (E : Elem P t e 1 bytes z) {w : World} {ops : Array Oper} {rest : List Oper} {o : Oper} {a : Act} {Q : Exit → Act → World → Prop} {s x : Operand}
    {v u : Value} {l r : List Int} {S T : List Nat} (h : KR k w v e l S) (hu : View w u 1 r.length (r.map (Value.int k)) T) (hb : (l.length + r.length) * bytes ≤ 140737488355328)
    (hK : ∀ ao cap w' S', KR k w' (.slice ao (l.length + r.length) cap) e (l ++ r) S' → Keeps S w w' → (∀ k ∈ S', k ∈ S ∨ w.heap.size ≤ k) → wpList P ops Q rest (a.put o.dst (.slice ao (l.length + r.length) cap)) w')
    (hg : o.guard = none := by rfl) (hop : o.op = Op.call { callee := Callee.builtin Builtin.append, args := #[s, x], argTypes := #[t, t] } := by rfl) (hs : a.eval s = v := by rfl) (hx : a.eval x = u := by rfl) :
    wpList P ops Q (o :: rest) a w :=
  wp_app E h hu (oc_ints r) hb (fun ao cap w' S' r1 r2 r3 => hK ao cap w' S' (by unfold KR; simpa using r1) r2 r3) hg hop hs hx
end
end Go.Proofs.Ytopkfhmdgheghaa
