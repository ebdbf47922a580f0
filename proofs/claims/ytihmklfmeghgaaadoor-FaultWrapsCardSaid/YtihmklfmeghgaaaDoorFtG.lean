/-
  The chapter's example (faultAlive).
  Conditions: the variables hold what the rows list.
-/
import Derived.Test.YtihmklfmeghgaaaDoorFtF
set_option linter.unusedVariables false
set_option linter.unusedSimpArgs false
set_option linter.unnecessarySimpa false
namespace Go.Proofs.YtihmklfmeghgaaaDoor
open Go.RowKit Go.Extern.Stop Go.Stop Go.Extern

theorem aliveText : told ⟨(Lib.itoa 1).toArray⟩ ⟨(Lib.itoa 2).toArray⟩ ⟨tClose.toArray⟩ = ⟨#[103, 111, 114, 111, 117, 116, 105, 110, 101, 32, 49, 44, 32, 111, 112, 101, 114, 97, 116, 105, 111, 110, 32, 50, 58, 32, 99, 108, 111, 115, 101, 32, 111, 102, 32, 99, 108, 111, 115, 101, 100, 32, 99, 104, 97, 110, 110, 101, 108]⟩ := by
  have e1 : Lib.itoa 1 = [49] := by unfold Lib.itoa; rw [if_neg (by decide), show (1 : Int).toNat = 1 from rfl, Lib.decDigits_one (by decide)]; rfl
  have e2 : Lib.itoa 2 = [50] := by unfold Lib.itoa; rw [if_neg (by decide), show (2 : Int).toNat = 2 from rfl, Lib.decDigits_one (by decide)]; rfl
  rw [e1, e2]
  decide

set_option maxHeartbeats 4000000 in
set_option maxRecDepth 100000 in
theorem c_alive {a0 a1 a2 : Addr} {w : World} (h : Std a0 a1 a2 w) :
    Calls Tryd.prog 6 #[] w fun e w' => e = .returned (.bool true) ∧ Below w.heap.size w w' := by
  have C := c_of h 4 1 2 96 (.pointer (some a1)) rfl
  have A : ∀ w1 pb, Below w.heap.size w w1 → ∀ n, n = w1.heap.size → Calls Tryd.prog 12 #[.iface 33 (.pointer (some ⟨pb, 0, none⟩)), .iface 35 (.pointer (some ⟨n, 0, none⟩))] (w1.alloc (.cells #[.pointer none] 33)) fun e w' => e = .returned (.bool true) ∧ ∃ w5, Below w1.heap.size w1 w5 ∧ w5.cell? ⟨n, 0, none⟩ = some (.pointer (some ⟨pb, 0, none⟩)) ∧ w' = w5 := fun w1 pb hb n en => by
    subst en
    refine (as_hit ⟨pb, 0, none⟩ ⟨w1.heap.size, 0, none⟩ (.pointer none) _ (h.kp (allocs hb _)).ty (by simp) (by simp)).mono ?_
    rintro e w' ⟨rfl, rfl⟩
    refine ⟨rfl, _, ?_, ?_, rfl⟩
    · exact (allocs (allocs (allocs (allocs (allocs (Below.refl _ _) _) _) _) _) _).setCell (Nat.le_refl _) _
    · exact World.cell?_setCell_same _ _ _ (Kp.cell (allocs (allocs (allocs (allocs (Below.refl _ _) _) _) _) _) (show (w1.alloc (.cells #[.pointer none] 33)).cell? ⟨w1.heap.size, 0, none⟩ = some (.pointer none) by simp))
  have E : ∀ w1 pb, Below w.heap.size w w1 → w1.cell? ⟨pb, 0, none⟩ = some (.int .i64 1) → w1.cell? ⟨pb, 1, none⟩ = some (.int .i64 2) → w1.cell? ⟨pb, 2, none⟩ = some (.iface 96 (.pointer (some a1))) → Calls Tryd.prog 13 #[.pointer (some ⟨pb, 0, none⟩)] w1 fun e w' => e = .returned (.string ⟨#[103, 111, 114, 111, 117, 116, 105, 110, 101, 32, 49, 44, 32, 111, 112, 101, 114, 97, 116, 105, 111, 110, 32, 50, 58, 32, 99, 108, 111, 115, 101, 32, 111, 102, 32, 99, 108, 111, 115, 101, 100, 32, 99, 104, 97, 110, 110, 101, 108]⟩) ∧ Below w1.heap.size w1 w' := fun w1 pb hb z0 z1 z2 => by
    rw [← aliveText]
    exact c_error (h.kp hb) pb 1 2 a1 _ (by decide) (by decide) (by decide) (by decide) (by decide) z0 z1 z2 (h.kp hb).s1
  clear h
  go_enter Tryd.func6, Tryd.ntmps6
  go_wp2_with (first | (go_at_call 9; with_reducible refine C.mono ?_; rintro e w2 ⟨pb, rfl, hle, z0, z1, z2, kb⟩) | (go_at_call 12; refine (A _ _ kb _ (by simp)).mono ?_; rintro e w6 ⟨rfl, w5, k5, q5, rfl⟩; have y0 := Kp.cell k5 z0; have y1 := Kp.cell k5 z1; have y2 := Kp.cell k5 z2) | (go_at_call 13; refine (E _ _ (Kp.trans kb k5) y0 y1 y2).mono ?_; rintro e w7 ⟨rfl, k7⟩))
  go_ret
  exact ⟨rfl, Kp.trans (Kp.trans kb k5) k7⟩
end Go.Proofs.YtihmklfmeghgaaaDoor
