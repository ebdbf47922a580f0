/-
  great of handofflaw20: its contract.
  Conditions: none.
-/
import Derived.Test.YtopkfhmdgheghaaModelV
namespace Go.Proofs.Ytopkfhmdgheghaa
open Go.RowKit
set_option linter.unusedVariables false
set_option linter.unusedSimpArgs false
set_option linter.unnecessarySimpa false

def GrAct (a : ActD) (w : World) (e : Ending) (w' : World) : Prop := ∃ gr : Bool, e = .returned (.bool gr) ∧ (gr = false → a.a.cases.length ≤ 20 ∧ a.b.cases.length ≤ 20) ∧ Keeps [] w w'
set_option maxRecDepth 100000 in
theorem act_great (w : World) (cs : List Value) (a : ActD) (U : List Nat) (h : actE w cs a U) : Calls Try.prog 19 #[.agg cs.toArray] w (GrAct a w) := by
  obtain ⟨va, vb, rfl, h1, h2, _⟩ := h
  have hl1 := h1.le
  have hl2 := h2.le
  unfold maxLen at hl1 hl2
  obtain ⟨aa, ca, rfl⟩ := h1.shape
  obtain ⟨ab, cb, rfl⟩ := h2.shape
  clear h1 h2
  cases g1 : decide (20 < (a.a.cases.length : Int)) <;> cases g2 : decide (20 < (a.b.cases.length : Int))
  all_goals
    have G1 := Lib.hid g1
    have G2 := Lib.hid g2
    go_enter Try.func19, Try.ntmps19
    go_wp2_with fail
    go_ret
    first
      | exact ⟨_, rfl, fun h => by have h1 := G1.out; have h2 := G2.out; simp at h1 h2; omega, (Keeps.refl [] w).alloc _⟩
      | exact ⟨_, rfl, fun h => by simp at h, (Keeps.refl [] w).alloc _⟩
end Go.Proofs.Ytopkfhmdgheghaa
