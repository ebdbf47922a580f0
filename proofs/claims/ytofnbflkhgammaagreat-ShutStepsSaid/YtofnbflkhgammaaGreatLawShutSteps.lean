/-
  The law ShutSteps of handofflaw15: for every input the call returns true, and the arguments read as before.
  Conditions: none.
-/
import Derived.Test.YtofnbflkhgammaaGreatA1
import Derived.Test.YtofnbflkhgammaaGreatH5
import Derived.ProofKit
import Derived.OpenShut
import Derived.ShutString
import Derived.ChangeOld
namespace Go.Proofs.YtofnbflkhgammaaGreat.shutSteps
open Go.ChangeShapes Go.WideShapes Go.ChangeAt Go.RowKit
open Go.ChangeMaps (open_string shut_string)
set_option linter.unusedVariables false
set_option linter.unusedSimpArgs false
set_option linter.unnecessarySimpa false

theorem own : ownKnob Tryz.prog.godebug = none := by kernel_rfl
theorem laidOut : laidOutB Tryz.prog = true := by kernel_rfl

set_option maxRecDepth 100000 in
theorem lifted (os : Os) (started : os.Started) (H : Type) (enc : TypeId × Value → H) :
    ReturnsInHanded {} Tryz.checked os 6 .any (Rows.shutStepsSpec.pre6 enc Tryz.prog Tryz.f6 Rows.shutStepsRow.domain false) (Rows.shutStepsSpec.post enc Tryz.prog Tryz.f6 false true false false) := by
  refine returnsInHanded_of_change (C := Tryz.checked) own started (by kernel_rfl) Tryz.func6
    (ChangeSpec.witness6 (enc := enc) (C := Tryz.checked) false ⟨#[], #[.agg #[.slice none 0 0, .int .i64 0, .int .i64 0, .slice none 0 0], .slice none 0 0], []⟩ 8 (by kernel_rfl) (by kernel_rfl) (by kernel_rfl) (by kernel_rfl)) ?_
  intro W base args ds gs before tE hW NM _
  have ov : ∀ (j : Nat) t v, Tryz.f6.params[j]? = some t → args[j]? = some v → Value.okWide Tryz.prog W .any base t v := tE
  have zJ := hW
  obtain ⟨p, q, tF, hV, rfl, NN, dx⟩ := hW
  have hA : DataW.TrodAll enc Tryz.prog W 0 (fun _ => true) true Tryz.f6.params.toList args.toList ds p := tF
  rw [Tryz.params6] at hA ov
  obtain ⟨v0, NO, d0, cZ, p0, q0, NP, rfl, rfl, h0, r0⟩ := trodAll_cons hA
  obtain ⟨v1, NQ, d1, NS, p1, q1, rfl, rfl, rfl, h1, r1⟩ := trodAll_cons r0
  obtain ⟨rfl, rfl, rfl⟩ := trodAll_nil r1
  obtain rfl : args = #[v0, v1] := by cases args; simp_all
  obtain ⟨rfl, rfl⟩ := trodVars_none hV
  have k0 := h0
  have zK : ∀ x ∈ p0, x.block < W.heap.size := by obtain ⟨m, hm⟩ := k0; exact DataW.trod_lt m _ _ _ hm
  obtain ⟨uR, a0, U0, rfl, zL, zM, zN⟩ := fz.agg Fl.FL Tryz.underlying27 (ov 0 27 v0 rfl rfl) h0
  have k1 := h1
  have zO : ∀ x ∈ p1, x.block < W.heap.size := by obtain ⟨m, hm⟩ := k1; exact DataW.trod_lt m _ _ _ hm
  obtain ⟨l1, S1, zP⟩ := fz.row Fl.Gu Tryz.underlying28 (ov 1 28 v1 rfl rfl) h1
  clear tF tE
  refine (Fl.Zo W uR a0 U0 zL zM zN v1 l1 S1 zP).mono fun e W' ⟨he, kp⟩ => ?_
  subst he
  have pz : Below W.heap.size W W' := kp.below
  exact ⟨_, rfl, _, _, _, [], _, [], zJ, trodAll_mk1 (shut_bool Tryz.underlying4 _), (trodAll_cons_mk (Below.trod laidOut (by kernel_rfl) (of_decide_eq_true (by kernel_rfl)) k0 pz zK) (trodAll_cons_mk (Below.trod laidOut (by kernel_rfl) (of_decide_eq_true (by kernel_rfl)) k1 pz zO) trodAll_mk0)), rfl, pz.frame _, fun h => by cases h⟩

theorem zQ : Rows.shutStepsRow.holds Tryz.pinned (OpenSpec.ofChange Rows.shutStepsSpec) :=
  OpenClaim.holds_of_wide 6 Tryz.f6 rfl rfl rfl rfl rfl rfl rfl ⟨rfl, rfl, rfl, rfl, rfl⟩ rfl rfl rfl rfl rfl (by kernel_rfl) Tryz.func6 (by kernel_rfl)
    (of_decide_eq_true (by kernel_rfl)) (by unfold Func.isWrapper; first | (rw [if_pos (by decide +kernel)]; kernel_rfl) | (rw [if_neg (by decide +kernel)]; exact ⟨rfl, rfl⟩))
    (fun os started H enc _ => lifted os started H enc)

/-- THE STATEMENT -/
theorem proved : Rows.ShutStepsSaid := zQ

#print axioms proved
end Go.Proofs.YtofnbflkhgammaaGreat.shutSteps
