/-
  The law StateBack of handofflaw12: for every input the call returns true, and the arguments read as before.
  Conditions: none.
-/
import Derived.Test.YtgjpdogjekmemaaGreatS1
import Derived.Test.YtgjpdogjekmemaaGreatS22
import Derived.ProofKit
import Derived.OpenShut
import Derived.ShutString
import Derived.ChangeOld
namespace Go.Proofs.YtgjpdogjekmemaaGreat.stateBack
open Go.ChangeShapes Go.WideShapes Go.ChangeAt Go.RowKit
open Go.ChangeMaps (open_string shut_string)
set_option linter.unusedVariables false
set_option linter.unusedSimpArgs false
set_option linter.unnecessarySimpa false

theorem own : ownKnob Tryz.prog.godebug = none := by kernel_rfl
theorem laidOut : laidOutB Tryz.prog = true := by kernel_rfl

set_option maxRecDepth 100000 in
theorem lifted (os : Os) (started : os.Started) (H : Type) (enc : TypeId × Value → H) :
    ReturnsInHanded {} Tryz.checked os 5 .any (Rows.stateBackSpec.pre6 enc Tryz.prog Tryz.f5 Rows.stateBackRow.domain false) (Rows.stateBackSpec.post enc Tryz.prog Tryz.f5 false true false false) := by
  refine returnsInHanded_of_change (C := Tryz.checked) own started (by kernel_rfl) Tryz.func5
    (ChangeSpec.witness6 (enc := enc) (C := Tryz.checked) false ⟨#[], #[.agg #[.slice none 0 0, .int .i64 0, .int .i64 0, .slice none 0 0], .slice none 0 0], []⟩ 8 (by kernel_rfl) (by kernel_rfl) (by kernel_rfl) (by kernel_rfl)) ?_
  intro W base args ds gs before Gj hW Ru _
  have AS : ∀ (j : Nat) t v, Tryz.f5.params[j]? = some t → args[j]? = some v → Value.okWide Tryz.prog W .any base t v := Gj
  have PU := hW
  obtain ⟨p, q, Gk, hV, rfl, Rv, dJ⟩ := hW
  have hA : DataW.TrodAll enc Tryz.prog W 0 (fun _ => true) true Tryz.f5.params.toList args.toList ds p := Gk
  rw [Tryz.params5] at hA AS
  obtain ⟨v0, Rw, d0, cM, p0, q0, Rx, rfl, rfl, h0, r0⟩ := trodAll_cons hA
  obtain ⟨v1, Ry, d1, Rz, p1, q1, rfl, rfl, rfl, h1, r1⟩ := trodAll_cons r0
  obtain ⟨rfl, rfl, rfl⟩ := trodAll_nil r1
  obtain rfl : args = #[v0, v1] := by cases args; simp_all
  obtain ⟨rfl, rfl⟩ := trodVars_none hV
  have k0 := h0
  have PV : ∀ x ∈ p0, x.block < W.heap.size := by obtain ⟨m, hm⟩ := k0; exact DataW.trod_lt m _ _ _ hm
  obtain ⟨Be, a0, U0, rfl, PW, PX, PY⟩ := eU.agg Fl.MI Tryz.underlying27 (AS 0 27 v0 rfl rfl) h0
  have k1 := h1
  have PZ : ∀ x ∈ p1, x.block < W.heap.size := by obtain ⟨m, hm⟩ := k1; exact DataW.trod_lt m _ _ _ hm
  obtain ⟨l1, S1, P0⟩ := eU.row Fl.Pm Tryz.underlying28 (AS 1 28 v1 rfl rfl) h1
  clear Gk Gj
  refine (Fl.PT W Be a0 U0 PW PX PY v1 l1 S1 P0).mono fun e W' ⟨he, kp⟩ => ?_
  subst he
  have AT : Below W.heap.size W W' := kp.below
  exact ⟨_, rfl, _, _, _, [], _, [], PU, trodAll_mk1 (shut_bool Tryz.underlying4 _), (trodAll_cons_mk (Below.trod laidOut (by kernel_rfl) (of_decide_eq_true (by kernel_rfl)) k0 AT PV) (trodAll_cons_mk (Below.trod laidOut (by kernel_rfl) (of_decide_eq_true (by kernel_rfl)) k1 AT PZ) trodAll_mk0)), rfl, AT.frame _, fun h => by cases h⟩

theorem P4 : Rows.stateBackRow.holds Tryz.pinned (OpenSpec.ofChange Rows.stateBackSpec) :=
  OpenClaim.holds_of_wide 5 Tryz.f5 rfl rfl rfl rfl rfl rfl rfl ⟨rfl, rfl, rfl, rfl, rfl⟩ rfl rfl rfl rfl rfl (by kernel_rfl) Tryz.func5 (by kernel_rfl)
    (of_decide_eq_true (by kernel_rfl)) (by unfold Func.isWrapper; first | (rw [if_pos (by decide +kernel)]; kernel_rfl) | (rw [if_neg (by decide +kernel)]; exact ⟨rfl, rfl⟩))
    (fun os started H enc _ => lifted os started H enc)

/-- THE STATEMENT -/
theorem proved : Rows.StateBackSaid := P4

#print axioms proved
end Go.Proofs.YtgjpdogjekmemaaGreat.stateBack
