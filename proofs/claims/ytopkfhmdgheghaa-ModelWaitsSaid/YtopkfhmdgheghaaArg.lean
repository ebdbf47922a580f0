/-
  A struct of numbers and bools that came in by value is opened.
  Conditions: none.
-/
import Derived.Test.YtopkfhmdgheghaaFlat
namespace Go.Proofs.Ytopkfhmdgheghaa
open Go.RowKit Go.ChangeShapes Go.WideShapes Go.Deep
set_option linter.unusedVariables false
set_option linter.unusedSimpArgs false
set_option linter.unnecessarySimpa false

section
variable {H : Type} {enc : TypeId × Value → H} {P : Program}
theorem open_aggf {t : TypeId} {fs : Array Field} {ks : List (Option IntKind)} {W : World} {r : Reach} {b0 : Nat} {v : Value} {d : DataW H} {p : List MemPlace} (ht : P.underlying t = some (.struct fs)) (hf : flatOf P t = some ks)
    (hv : Value.okWide P W r b0 t v) (h : DataW.Trod enc P W 0 (fun _ => true) true t v d p) :
    ∃ xs : List Value, v = .agg xs.toArray ∧ xs.length = ks.length ∧ ∀ (f : Nat) (q : Option IntKind), ks[f]? = some q → ckOk q (xs.getD f undef) := by
  obtain ⟨cs, rfl, hsz⟩ := okWide_struct ht hv
  obtain ⟨fuel, hfu⟩ := h
  have hfu' : DataW.trod enc P W 0 (fun _ => true) true fuel t cs.toList = some (d, p) := by simpa [Value.cells] using hfu
  obtain ⟨_, e2, e3⟩ := flat_elem hf hfu'
  exact ⟨cs.toList, by simp, e2, e3⟩
end
theorem list1 {α : Type} : ∀ {l : List α}, l.length = 1 → ∃ x0, l = [x0]
  | [x0], _ => ⟨_, rfl⟩
theorem list2 {α : Type} : ∀ {l : List α}, l.length = 2 → ∃ x0 x1, l = [x0, x1]
  | [x0, x1], _ => ⟨_, _, rfl⟩
theorem list3 {α : Type} : ∀ {l : List α}, l.length = 3 → ∃ x0 x1 x2, l = [x0, x1, x2]
  | [x0, x1, x2], _ => ⟨_, _, _, rfl⟩
theorem list4 {α : Type} : ∀ {l : List α}, l.length = 4 → ∃ x0 x1 x2 x3, l = [x0, x1, x2, x3]
  | [x0, x1, x2, x3], _ => ⟨_, _, _, _, rfl⟩
theorem list5 {α : Type} : ∀ {l : List α}, l.length = 5 → ∃ x0 x1 x2 x3 x4, l = [x0, x1, x2, x3, x4]
  | [x0, x1, x2, x3, x4], _ => ⟨_, _, _, _, _, rfl⟩
theorem list6 {α : Type} : ∀ {l : List α}, l.length = 6 → ∃ x0 x1 x2 x3 x4 x5, l = [x0, x1, x2, x3, x4, x5]
  | [x0, x1, x2, x3, x4, x5], _ => ⟨_, _, _, _, _, _, rfl⟩
theorem list7 {α : Type} : ∀ {l : List α}, l.length = 7 → ∃ x0 x1 x2 x3 x4 x5 x6, l = [x0, x1, x2, x3, x4, x5, x6]
  | [x0, x1, x2, x3, x4, x5, x6], _ => ⟨_, _, _, _, _, _, _, rfl⟩
end Go.Proofs.Ytopkfhmdgheghaa
