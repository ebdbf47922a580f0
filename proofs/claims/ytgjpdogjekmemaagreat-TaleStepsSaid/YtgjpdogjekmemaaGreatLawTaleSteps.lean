/-
  The law TaleSteps of handofflaw19: for every input the call returns true, and the arguments read as before.
  Conditions: none.
-/
import Derived.Test.YtgjpdogjekmemaaGreatB1
import Derived.Test.YtgjpdogjekmemaaGreatT1
import Derived.ProofKit
import Derived.OpenShut
import Derived.ShutString
import Derived.ChangeOld
namespace Go.Proofs.YtgjpdogjekmemaaGreat.taleSteps
open Go.ChangeShapes Go.WideShapes Go.ChangeAt Go.RowKit
open Go.ChangeMaps (open_string shut_string)
set_option linter.unusedVariables false
set_option linter.unusedSimpArgs false
set_option linter.unnecessarySimpa false

theorem own : ownKnob Tryz.prog.godebug = none := by kernel_rfl
theorem laidOut : laidOutB Tryz.prog = true := by kernel_rfl

set_option maxRecDepth 100000 in
theorem lifted (os : Os) (started : os.Started) (H : Type) (enc : TypeId × Value → H) :
    ReturnsInHanded {} Tryz.checked os 4 .any (Rows.taleStepsSpec.pre6 enc Tryz.prog Tryz.f4 Rows.taleStepsRow.domain false) (Rows.taleStepsSpec.post enc Tryz.prog Tryz.f4 false true false false) := by
  refine returnsInHanded_of_change (C := Tryz.checked) own started (by kernel_rfl) Tryz.func4
    (ChangeSpec.witness6 (enc := enc) (C := Tryz.checked) false ⟨#[], #[.agg #[.slice none 0 0, .int .i64 0, .int .i64 0, .slice none 0 0], .slice none 0 0, .int .i64 0], []⟩ 8 (by kernel_rfl) (by kernel_rfl) (by kernel_rfl) (by kernel_rfl)) ?_
  intro W base args ds gs before DC hW Nx _
  have zf : ∀ (j : Nat) t v, Tryz.f4.params[j]? = some t → args[j]? = some v → Value.okWide Tryz.prog W .any base t v := DC
  have L4 := hW
  obtain ⟨p, q, DD, hV, rfl, Ny, dF⟩ := hW
  have hA : DataW.TrodAll enc Tryz.prog W 0 (fun _ => true) true Tryz.f4.params.toList args.toList ds p := DD
  rw [Tryz.params4] at hA zf
  obtain ⟨v0, Nz, d0, cV, p0, q0, NA, rfl, rfl, h0, r0⟩ := trodAll_cons hA
  obtain ⟨v1, NB, d1, NC, p1, q1, rfl, rfl, rfl, h1, r1⟩ := trodAll_cons r0
  obtain ⟨v2, JZ, d2, Pe, p2, q2, rfl, rfl, rfl, h2, r2⟩ := trodAll_cons r1
  obtain ⟨rfl, rfl, rfl⟩ := trodAll_nil r2
  obtain rfl : args = #[v0, v1, v2] := by cases args; simp_all
  obtain ⟨rfl, rfl⟩ := trodVars_none hV
  have k0 := h0
  have L5 : ∀ x ∈ p0, x.block < W.heap.size := by obtain ⟨m, hm⟩ := k0; exact DataW.trod_lt m _ _ _ hm
  obtain ⟨zz, a0, U0, rfl, L6, L7, L8⟩ := eI.agg Fl.Kc Tryz.underlying27 (zf 0 27 v0 rfl rfl) h0
  have k1 := h1
  have dH : ∀ x ∈ p1, x.block < W.heap.size := by obtain ⟨m, hm⟩ := k1; exact DataW.trod_lt m _ _ _ hm
  obtain ⟨l1, S1, L9⟩ := eI.row Fl.LW Tryz.underlying28 (zf 1 28 v1 rfl rfl) h1
  obtain ⟨a2, rfl, rfl, rfl, w2⟩ := open_int Tryz.underlying3 (zf 2 3 v2 rfl rfl) h2
  clear DD DC
  refine (Fl.O9 W zz a0 U0 L6 L7 L8 v1 l1 S1 L9 a2 w2).mono fun e W' ⟨he, kp⟩ => ?_
  subst he
  have zg : Below W.heap.size W W' := kp.below
  exact ⟨_, rfl, _, _, _, [], _, [], L4, trodAll_mk1 (shut_bool Tryz.underlying4 _), (trodAll_cons_mk (Below.trod laidOut (by kernel_rfl) (of_decide_eq_true (by kernel_rfl)) k0 zg L5) (trodAll_cons_mk (Below.trod laidOut (by kernel_rfl) (of_decide_eq_true (by kernel_rfl)) k1 zg dH) (trodAll_cons_mk (shut_int Tryz.underlying3 w2) trodAll_mk0))), rfl, zg.frame _, fun h => by cases h⟩

theorem Ma : Rows.taleStepsRow.holds Tryz.pinned (OpenSpec.ofChange Rows.taleStepsSpec) :=
  OpenClaim.holds_of_wide 4 Tryz.f4 rfl rfl rfl rfl rfl rfl rfl ⟨rfl, rfl, rfl, rfl, rfl⟩ rfl rfl rfl rfl rfl (by kernel_rfl) Tryz.func4 (by kernel_rfl)
    (of_decide_eq_true (by kernel_rfl)) (by unfold Func.isWrapper; first | (rw [if_pos (by decide +kernel)]; kernel_rfl) | (rw [if_neg (by decide +kernel)]; exact ⟨rfl, rfl⟩))
    (fun os started H enc _ => lifted os started H enc)

/-- THE STATEMENT -/
theorem proved : Rows.TaleStepsSaid := Ma

#print axioms proved
end Go.Proofs.YtgjpdogjekmemaaGreat.taleSteps
