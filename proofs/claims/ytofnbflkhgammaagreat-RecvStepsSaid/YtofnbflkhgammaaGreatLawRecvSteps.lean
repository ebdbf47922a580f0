/-
  The law RecvSteps of handofflaw14: for every input the call returns true, and the arguments read as before.
  Conditions: none.
-/
import Derived.Test.YtofnbflkhgammaaGreatD1
import Derived.Test.YtofnbflkhgammaaGreatRA4
import Derived.ProofKit
import Derived.OpenShut
import Derived.ShutString
import Derived.ChangeOld
namespace Go.Proofs.YtofnbflkhgammaaGreat.recvSteps
open Go.ChangeShapes Go.WideShapes Go.ChangeAt Go.RowKit
open Go.ChangeMaps (open_string shut_string)
set_option linter.unusedVariables false
set_option linter.unusedSimpArgs false
set_option linter.unnecessarySimpa false

theorem own : ownKnob Tryz.prog.godebug = none := by kernel_rfl
theorem laidOut : laidOutB Tryz.prog = true := by kernel_rfl

set_option maxRecDepth 100000 in
theorem lifted (os : Os) (started : os.Started) (H : Type) (enc : TypeId × Value → H) :
    ReturnsInHanded {} Tryz.checked os 12 .any (Rows.recvStepsSpec.pre6 enc Tryz.prog Tryz.f12 Rows.recvStepsRow.domain false) (Rows.recvStepsSpec.post enc Tryz.prog Tryz.f12 false true false false) := by
  refine returnsInHanded_of_change (C := Tryz.checked) own started (by kernel_rfl) Tryz.func12
    (ChangeSpec.witness6 (enc := enc) (C := Tryz.checked) false ⟨#[], #[.agg #[.slice none 0 0, .int .i64 0, .int .i64 0, .slice none 0 0], .slice none 0 0], []⟩ 8 (by kernel_rfl) (by kernel_rfl) (by kernel_rfl) (by kernel_rfl)) ?_
  intro W base args ds gs before ur hW OZ _
  have oR : ∀ (j : Nat) t v, Tryz.f12.params[j]? = some t → args[j]? = some v → Value.okWide Tryz.prog W .any base t v := ur
  have AN := hW
  obtain ⟨p, q, uu, hV, rfl, Fb, dD⟩ := hW
  have hA : DataW.TrodAll enc Tryz.prog W 0 (fun _ => true) true Tryz.f12.params.toList args.toList ds p := uu
  rw [Tryz.params12] at hA oR
  obtain ⟨v0, O0, d0, dm, p0, q0, O1, rfl, rfl, h0, r0⟩ := trodAll_cons hA
  obtain ⟨v1, O2, d1, O3, p1, q1, rfl, rfl, rfl, h1, r1⟩ := trodAll_cons r0
  obtain ⟨rfl, rfl, rfl⟩ := trodAll_nil r1
  obtain rfl : args = #[v0, v1] := by cases args; simp_all
  obtain ⟨rfl, rfl⟩ := trodVars_none hV
  have k0 := h0
  have AO : ∀ x ∈ p0, x.block < W.heap.size := by obtain ⟨m, hm⟩ := k0; exact DataW.trod_lt m _ _ _ hm
  obtain ⟨vU, a0, U0, rfl, AP, AQ, AS⟩ := fE.agg Fl.FL Tryz.underlying27 (oR 0 27 v0 rfl rfl) h0
  have k1 := h1
  have AT : ∀ x ∈ p1, x.block < W.heap.size := by obtain ⟨m, hm⟩ := k1; exact DataW.trod_lt m _ _ _ hm
  obtain ⟨l1, S1, AU⟩ := fE.row Fl.Ht Tryz.underlying28 (oR 1 28 v1 rfl rfl) h1
  clear uu ur
  refine (Fl.abz W vU a0 U0 AP AQ AS v1 l1 S1 AU).mono fun e W' ⟨he, kp⟩ => ?_
  subst he
  have qg : Below W.heap.size W W' := kp.below
  exact ⟨_, rfl, _, _, _, [], _, [], AN, trodAll_mk1 (shut_bool Tryz.underlying4 _), (trodAll_cons_mk (Below.trod laidOut (by kernel_rfl) (of_decide_eq_true (by kernel_rfl)) k0 qg AO) (trodAll_cons_mk (Below.trod laidOut (by kernel_rfl) (of_decide_eq_true (by kernel_rfl)) k1 qg AT) trodAll_mk0)), rfl, qg.frame _, fun h => by cases h⟩

theorem AV : Rows.recvStepsRow.holds Tryz.pinned (OpenSpec.ofChange Rows.recvStepsSpec) :=
  OpenClaim.holds_of_wide 12 Tryz.f12 rfl rfl rfl rfl rfl rfl rfl ⟨rfl, rfl, rfl, rfl, rfl⟩ rfl rfl rfl rfl rfl (by kernel_rfl) Tryz.func12 (by kernel_rfl)
    (of_decide_eq_true (by kernel_rfl)) (by unfold Func.isWrapper; first | (rw [if_pos (by decide +kernel)]; kernel_rfl) | (rw [if_neg (by decide +kernel)]; exact ⟨rfl, rfl⟩))
    (fun os started H enc _ => lifted os started H enc)

/-- THE STATEMENT -/
theorem proved : Rows.RecvStepsSaid := AV

#print axioms proved
end Go.Proofs.YtofnbflkhgammaaGreat.recvSteps
