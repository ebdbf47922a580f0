/-
  A struct that is read whole and stored whole into a new variable: the world behind it is the alloc of its cells.
  Conditions: none; nothing of the program stands here.
-/
import Derived.Test.YtopkfhmdgheghaaBase
import Derived.Deep.MidRow
namespace Go.Proofs.Ytopkfhmdgheghaa
set_option linter.unusedVariables false
set_option linter.unusedSimpArgs false
set_option linter.unnecessarySimpa false

theorem alloc_setCells_from (w : World) (t : TypeId) : ∀ (cs p z : List Value), z.length = cs.length →
    (w.alloc (.cells (p ++ z).toArray t)).setCells w.heap.size p.length cs = w.alloc (.cells (p ++ cs).toArray t)
  | [], p, z, h => by
    have : z = [] := List.length_eq_zero_iff.1 h
    subst this
    rfl
  | c :: cs, p, [], h => by simp at h
  | c :: cs, p, x :: z, h => by
    rw [World.setCells, World.setCell_alloc_at _ _ _ _ _ rfl]
    have e : ((p ++ x :: z).toArray.setIfInBounds p.length c) = ((p ++ [c]) ++ z).toArray := by simp
    have ih := alloc_setCells_from w t cs (p ++ [c]) z (by simpa using h)
    simp only [List.length_append, List.length_cons, List.length_nil, Nat.zero_add] at ih
    rw [e, ih]
    simp

/-- a whole struct is stored into a new variable -/
theorem alloc_setCells (w : World) (t : TypeId) (cs : List Value) (z : Array Value) (h : z.size = cs.length) :
    (w.alloc (.cells z t)).setCells w.heap.size 0 cs.toArray.toList = w.alloc (.cells cs.toArray t) := by
  have := alloc_setCells_from w t cs [] z.toList (by simpa using h)
  simpa using this
theorem there_alloc_new (w : World) (t : TypeId) (z : Array Value) {n : Nat} (h : z.size = n) : (w.alloc (.cells z t)).there w.heap.size 0 n := by
  intro j hj
  refine ⟨?_, World.frozen?_alloc_at _ _ _ _ rfl⟩
  rw [World.cell?_alloc_at _ _ _ _ rfl]
  simp [h, hj]
theorem Blk.range {w : World} {g : Nat} {cs : List Value} {t : TypeId} (h : Blk w g cs t) : w.rangeAt g 0 cs := fun j v hj => by
  rw [Nat.zero_add, h.cell]; exact hj
end Go.Proofs.Ytopkfhmdgheghaa
