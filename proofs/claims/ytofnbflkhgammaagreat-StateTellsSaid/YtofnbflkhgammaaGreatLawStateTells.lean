/-
  The law StateTells of handofflaw12: for every input the call returns true, and the arguments read as before.
  Conditions: none.
-/
import Derived.Test.YtofnbflkhgammaaGreatA1
import Derived.Test.YtofnbflkhgammaaGreatC2
import Derived.ProofKit
import Derived.OpenShut
import Derived.ShutString
import Derived.ChangeOld
namespace Go.Proofs.YtofnbflkhgammaaGreat.stateTells
open Go.ChangeShapes Go.WideShapes Go.ChangeAt Go.RowKit
open Go.ChangeMaps (open_string shut_string)
set_option linter.unusedVariables false
set_option linter.unusedSimpArgs false
set_option linter.unnecessarySimpa false

theorem own : ownKnob Tryz.prog.godebug = none := by kernel_rfl
theorem laidOut : laidOutB Tryz.prog = true := by kernel_rfl

set_option maxRecDepth 100000 in
theorem lifted (os : Os) (started : os.Started) (H : Type) (enc : TypeId × Value → H) :
    ReturnsInHanded {} Tryz.checked os 4 .any (Rows.stateTellsSpec.pre6 enc Tryz.prog Tryz.f4 Rows.stateTellsRow.domain false) (Rows.stateTellsSpec.post enc Tryz.prog Tryz.f4 false true false false) := by
  refine returnsInHanded_of_change (C := Tryz.checked) own started (by kernel_rfl) Tryz.func4
    (ChangeSpec.witness6 (enc := enc) (C := Tryz.checked) false ⟨#[], #[.agg #[.slice none 0 0, .int .i64 0, .int .i64 0, .slice none 0 0], .slice none 0 0, .int .i64 0], []⟩ 8 (by kernel_rfl) (by kernel_rfl) (by kernel_rfl) (by kernel_rfl)) ?_
  intro W base args ds gs before tE hW NM _
  have ov : ∀ (j : Nat) t v, Tryz.f4.params[j]? = some t → args[j]? = some v → Value.okWide Tryz.prog W .any base t v := tE
  have zJ := hW
  obtain ⟨p, q, tF, hV, rfl, NN, dx⟩ := hW
  have hA : DataW.TrodAll enc Tryz.prog W 0 (fun _ => true) true Tryz.f4.params.toList args.toList ds p := tF
  rw [Tryz.params4] at hA ov
  obtain ⟨v0, NO, d0, cZ, p0, q0, NP, rfl, rfl, h0, r0⟩ := trodAll_cons hA
  obtain ⟨v1, NQ, d1, NS, p1, q1, rfl, rfl, rfl, h1, r1⟩ := trodAll_cons r0
  obtain ⟨v2, Mg, d2, ds2, p2, q2, rfl, rfl, rfl, h2, r2⟩ := trodAll_cons r1
  obtain ⟨rfl, rfl, rfl⟩ := trodAll_nil r2
  obtain rfl : args = #[v0, v1, v2] := by cases args; simp_all
  obtain ⟨rfl, rfl⟩ := trodVars_none hV
  have k0 := h0
  have zK : ∀ x ∈ p0, x.block < W.heap.size := by obtain ⟨m, hm⟩ := k0; exact DataW.trod_lt m _ _ _ hm
  obtain ⟨uR, a0, U0, rfl, zL, zM, zN⟩ := fz.agg Fl.FL Tryz.underlying27 (ov 0 27 v0 rfl rfl) h0
  have k1 := h1
  have zO : ∀ x ∈ p1, x.block < W.heap.size := by obtain ⟨m, hm⟩ := k1; exact DataW.trod_lt m _ _ _ hm
  obtain ⟨l1, S1, zP⟩ := fz.row Fl.Gu Tryz.underlying28 (ov 1 28 v1 rfl rfl) h1
  obtain ⟨a2, rfl, rfl, rfl, w2⟩ := open_int Tryz.underlying3 (ov 2 3 v2 rfl rfl) h2
  clear tF tE
  refine (Fl.Zv W uR a0 U0 zL zM zN v1 l1 S1 zP a2 w2).mono fun e W' ⟨he, kp⟩ => ?_
  subst he
  have pz : Below W.heap.size W W' := kp.below
  exact ⟨_, rfl, _, _, _, [], _, [], zJ, trodAll_mk1 (shut_bool Tryz.underlying4 _), (trodAll_cons_mk (Below.trod laidOut (by kernel_rfl) (of_decide_eq_true (by kernel_rfl)) k0 pz zK) (trodAll_cons_mk (Below.trod laidOut (by kernel_rfl) (of_decide_eq_true (by kernel_rfl)) k1 pz zO) (trodAll_cons_mk (shut_int Tryz.underlying3 w2) trodAll_mk0))), rfl, pz.frame _, fun h => by cases h⟩

theorem zQ : Rows.stateTellsRow.holds Tryz.pinned (OpenSpec.ofChange Rows.stateTellsSpec) :=
  OpenClaim.holds_of_wide 4 Tryz.f4 rfl rfl rfl rfl rfl rfl rfl ⟨rfl, rfl, rfl, rfl, rfl⟩ rfl rfl rfl rfl rfl (by kernel_rfl) Tryz.func4 (by kernel_rfl)
    (of_decide_eq_true (by kernel_rfl)) (by unfold Func.isWrapper; first | (rw [if_pos (by decide +kernel)]; kernel_rfl) | (rw [if_neg (by decide +kernel)]; exact ⟨rfl, rfl⟩))
    (fun os started H enc _ => lifted os started H enc)

/-- THE STATEMENT -/
theorem proved : Rows.StateTellsSaid := zQ

#print axioms proved
end Go.Proofs.YtofnbflkhgammaaGreat.stateTells
