/-
  The law OtherBegins of handofflaw17: for every input the call returns true, and the arguments read as before.
  Conditions: none.
-/
import Derived.Test.YtdjhhbpedllnhaaGreatB1
import Derived.Test.YtdjhhbpedllnhaaGreatCO1
import Derived.Test.YtdjhhbpedllnhaaGreatCO4
import Derived.ProofKit
import Derived.OpenShut
import Derived.ShutString
import Derived.ChangeOld
namespace Go.Proofs.YtdjhhbpedllnhaaGreat.otherBegins
open Go.ChangeShapes Go.WideShapes Go.ChangeAt Go.RowKit
open Go.ChangeMaps (open_string shut_string)
set_option linter.unusedVariables false
set_option linter.unusedSimpArgs false
set_option linter.unnecessarySimpa false

theorem own : ownKnob Tryz.prog.godebug = none := by kernel_rfl
theorem laidOut : laidOutB Tryz.prog = true := by kernel_rfl

set_option maxRecDepth 100000 in
theorem lifted (os : Os) (started : os.Started) (H : Type) (enc : TypeId × Value → H) :
    ReturnsInHanded {} Tryz.checked os 5 .any (Rows.otherBeginsSpec.pre6 enc Tryz.prog Tryz.f5 Rows.otherBeginsRow.domain false) (Rows.otherBeginsSpec.post enc Tryz.prog Tryz.f5 false true false false) := by
  refine returnsInHanded_of_change (C := Tryz.checked) own started (by kernel_rfl) Tryz.func5
    (ChangeSpec.witness6 (enc := enc) (C := Tryz.checked) false ⟨#[], #[.agg #[.slice none 0 0, .int .i64 0, .int .i64 0, .slice none 0 0], .slice none 0 0], []⟩ 8 (by kernel_rfl) (by kernel_rfl) (by kernel_rfl) (by kernel_rfl)) ?_
  intro W base args ds gs before tv hW Mc _
  have pI : ∀ (j : Nat) t v, Tryz.f5.params[j]? = some t → args[j]? = some v → Value.okWide Tryz.prog W .any base t v := tv
  have zT := hW
  obtain ⟨p, q, tw, hV, rfl, Me, eP⟩ := hW
  have hA : DataW.TrodAll enc Tryz.prog W 0 (fun _ => true) true Tryz.f5.params.toList args.toList ds p := tw
  rw [Tryz.params5] at hA pI
  obtain ⟨v0, Mf, d0, dh, p0, q0, Mg, rfl, rfl, h0, r0⟩ := trodAll_cons hA
  obtain ⟨v1, Mh, d1, Mi, p1, q1, rfl, rfl, rfl, h1, r1⟩ := trodAll_cons r0
  obtain ⟨rfl, rfl, rfl⟩ := trodAll_nil r1
  obtain rfl : args = #[v0, v1] := by cases args; simp_all
  obtain ⟨rfl, rfl⟩ := trodVars_none hV
  have k0 := h0
  have zU : ∀ x ∈ p0, x.block < W.heap.size := by obtain ⟨m, hm⟩ := k0; exact DataW.trod_lt m _ _ _ hm
  obtain ⟨uW, a0, U0, rfl, zV, zW, zX⟩ := fK.agg Fl.Eo Tryz.underlying27 (pI 0 27 v0 rfl rfl) h0
  have k1 := h1
  have zY : ∀ x ∈ p1, x.block < W.heap.size := by obtain ⟨m, hm⟩ := k1; exact DataW.trod_lt m _ _ _ hm
  obtain ⟨l1, S1, zZ⟩ := fK.row Fl.FN Tryz.underlying28 (pI 1 28 v1 rfl rfl) h1
  clear tw tv
  refine (Fl.aaA W uW a0 U0 zV zW zX v1 l1 S1 zZ).mono fun e W' ⟨he, kp⟩ => ?_
  subst he
  have pJ : Below W.heap.size W W' := kp.below
  exact ⟨_, rfl, _, _, _, [], _, [], zT, trodAll_mk1 (shut_bool Tryz.underlying4 _), (trodAll_cons_mk (Below.trod laidOut (by kernel_rfl) (of_decide_eq_true (by kernel_rfl)) k0 pJ zU) (trodAll_cons_mk (Below.trod laidOut (by kernel_rfl) (of_decide_eq_true (by kernel_rfl)) k1 pJ zY) trodAll_mk0)), rfl, pJ.frame _, fun h => by cases h⟩

theorem Aa : Rows.otherBeginsRow.holds Tryz.pinned (OpenSpec.ofChange Rows.otherBeginsSpec) :=
  OpenClaim.holds_of_wide 5 Tryz.f5 rfl rfl rfl rfl rfl rfl rfl ⟨rfl, rfl, rfl, rfl, rfl⟩ rfl rfl rfl rfl rfl (by kernel_rfl) Tryz.func5 (by kernel_rfl)
    (of_decide_eq_true (by kernel_rfl)) (by unfold Func.isWrapper; first | (rw [if_pos (by decide +kernel)]; kernel_rfl) | (rw [if_neg (by decide +kernel)]; exact ⟨rfl, rfl⟩))
    (fun os started H enc _ => lifted os started H enc)

/-- THE STATEMENT -/
theorem proved : Rows.OtherBeginsSaid := Aa

#print axioms proved
end Go.Proofs.YtdjhhbpedllnhaaGreat.otherBegins
