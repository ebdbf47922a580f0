/-
  The contract of handoffref02.Same; the chapter's example of pool.
  Conditions: none.
-/
import Derived.Test.YtofnbflkhgammaaPoolE
namespace Go.Proofs.Ytofnbflkhgammaa
open Go.RowKit
set_option linter.unusedVariables false
set_option linter.unusedSimpArgs false
set_option linter.unnecessarySimpa false

theorem PS.shape {w : World} {p : Value} {size most : Nat} {s : Po.St} {S : List Nat} (h : PS w p size most s S) : ∃ b, p = .pointer (some ⟨b, 0, none⟩) := Pl.shape h
theorem PS.lt {w : World} {p : Value} {size most : Nat} {s : Po.St} {S : List Nat} (h : PS w p size most s S) : ∀ k ∈ S, k < w.heap.size := Pl.lt h
theorem PS.keep {w w' : World} {p : Value} {size most : Nat} {s : Po.St} {S T : List Nat} (h : PS w p size most s S) (k : Keeps T w w') (hn : ∀ x ∈ S, x ∉ T) : PS w' p size most s S := Pl.keep h k hn
theorem PS.then {w w' : World} {p : Value} {size most : Nat} {s : Po.St} {S : List Nat} (h : PS w p size most s S) (k : Keeps [] w w') : PS w' p size most s S := Pl.then h k
theorem IV.lit (w : World) (l : List Int) (e : TypeId) (b : Nat) (hb : b = w.heap.size) (hl : l.length ≤ 1000) : IV (w.alloc (.cells (l.map (Value.int .i64)).toArray e)) (.slice (some ⟨b, 0, none⟩) l.length l.length) l [b] := by
  subst hb; exact Row.view (Row.lit w (l.map (Value.int .i64)) e 1 l.length (by simp) (by simp [maxLen]; omega))

/-- what is new since w, and the blocks S of it -/
def Fresh (w w' : World) (S : List Nat) : Prop := Keeps [] w w' ∧ ∀ k ∈ S, w.heap.size ≤ k
theorem Fresh.step {w w1 w2 : World} {S S' : List Nat} (h : Fresh w w1 S) (k : Keeps S w1 w2) (s : ∀ x ∈ S', x ∈ S ∨ w1.heap.size ≤ x) : Fresh w w2 S' :=
  ⟨h.1.trans k (fun x hx => .inr (h.2 x hx)), fun x hx => by
    rcases s x hx with h1 | h1
    · exact h.2 x h1
    · have := h.1.size; omega⟩
theorem Fresh.then {w w1 w2 : World} {S : List Nat} (h : Fresh w w1 S) (k : Keeps [] w1 w2) : Fresh w w2 S := ⟨h.1.then k, h.2⟩

end Go.Proofs.Ytofnbflkhgammaa
