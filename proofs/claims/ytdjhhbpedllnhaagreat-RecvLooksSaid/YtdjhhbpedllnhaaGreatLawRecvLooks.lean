/-
  The law RecvLooks of handofflaw14: for every input the call returns true, and the arguments read as before.
  Conditions: none.
-/
import Derived.Test.YtdjhhbpedllnhaaGreatA1
import Derived.Test.YtdjhhbpedllnhaaGreatA2
import Derived.Test.YtdjhhbpedllnhaaGreatL1
import Derived.Test.YtdjhhbpedllnhaaGreatL7
import Derived.ProofKit
import Derived.OpenShut
import Derived.ShutString
import Derived.ChangeOld
namespace Go.Proofs.YtdjhhbpedllnhaaGreat.recvLooks
open Go.ChangeShapes Go.WideShapes Go.ChangeAt Go.RowKit
open Go.ChangeMaps (open_string shut_string)
set_option linter.unusedVariables false
set_option linter.unusedSimpArgs false
set_option linter.unnecessarySimpa false

theorem own : ownKnob Tryz.prog.godebug = none := by kernel_rfl
theorem laidOut : laidOutB Tryz.prog = true := by kernel_rfl

set_option maxRecDepth 100000 in
theorem lifted (os : Os) (started : os.Started) (H : Type) (enc : TypeId × Value → H) :
    ReturnsInHanded {} Tryz.checked os 6 .any (Rows.recvLooksSpec.pre6 enc Tryz.prog Tryz.f6 Rows.recvLooksRow.domain false) (Rows.recvLooksSpec.post enc Tryz.prog Tryz.f6 false true false false) := by
  refine returnsInHanded_of_change (C := Tryz.checked) own started (by kernel_rfl) Tryz.func6
    (ChangeSpec.witness6 (enc := enc) (C := Tryz.checked) false ⟨#[], #[.agg #[.slice none 0 0, .int .i64 0, .int .i64 0, .slice none 0 0], .slice none 0 0], []⟩ 8 (by kernel_rfl) (by kernel_rfl) (by kernel_rfl) (by kernel_rfl)) ?_
  intro W base args ds gs before AN hW ZU _
  have vT : ∀ (j : Nat) t v, Tryz.f6.params[j]? = some t → args[j]? = some v → Value.okWide Tryz.prog W .any base t v := AN
  have Hl := hW
  obtain ⟨p, q, AO, hV, rfl, OM, dN⟩ := hW
  have hA : DataW.TrodAll enc Tryz.prog W 0 (fun _ => true) true Tryz.f6.params.toList args.toList ds p := AO
  rw [Tryz.params6] at hA vT
  obtain ⟨v0, ZV, d0, dB, p0, q0, ZW, rfl, rfl, h0, r0⟩ := trodAll_cons hA
  obtain ⟨v1, ZX, d1, ZY, p1, q1, rfl, rfl, rfl, h1, r1⟩ := trodAll_cons r0
  obtain ⟨rfl, rfl, rfl⟩ := trodAll_nil r1
  obtain rfl : args = #[v0, v1] := by cases args; simp_all
  obtain ⟨rfl, rfl⟩ := trodVars_none hV
  have k0 := h0
  have Ho : ∀ x ∈ p0, x.block < W.heap.size := by obtain ⟨m, hm⟩ := k0; exact DataW.trod_lt m _ _ _ hm
  obtain ⟨Ba, a0, U0, rfl, Hp, Hq, Hr⟩ := gi.agg Fl.Le Tryz.underlying27 (vT 0 27 v0 rfl rfl) h0
  have k1 := h1
  have Hs : ∀ x ∈ p1, x.block < W.heap.size := by obtain ⟨m, hm⟩ := k1; exact DataW.trod_lt m _ _ _ hm
  obtain ⟨l1, S1, Ht⟩ := gi.row Fl.Og Tryz.underlying28 (vT 1 28 v1 rfl rfl) h1
  clear AO AN
  refine (Fl.aa5 W Ba a0 U0 Hp Hq Hr v1 l1 S1 Ht).mono fun e W' ⟨he, kp⟩ => ?_
  subst he
  have vU : Below W.heap.size W W' := kp.below
  exact ⟨_, rfl, _, _, _, [], _, [], Hl, trodAll_mk1 (shut_bool Tryz.underlying4 _), (trodAll_cons_mk (Below.trod laidOut (by kernel_rfl) (of_decide_eq_true (by kernel_rfl)) k0 vU Ho) (trodAll_cons_mk (Below.trod laidOut (by kernel_rfl) (of_decide_eq_true (by kernel_rfl)) k1 vU Hs) trodAll_mk0)), rfl, vU.frame _, fun h => by cases h⟩

theorem Hu : Rows.recvLooksRow.holds Tryz.pinned (OpenSpec.ofChange Rows.recvLooksSpec) :=
  OpenClaim.holds_of_wide 6 Tryz.f6 rfl rfl rfl rfl rfl rfl rfl ⟨rfl, rfl, rfl, rfl, rfl⟩ rfl rfl rfl rfl rfl (by kernel_rfl) Tryz.func6 (by kernel_rfl)
    (of_decide_eq_true (by kernel_rfl)) (by unfold Func.isWrapper; first | (rw [if_pos (by decide +kernel)]; kernel_rfl) | (rw [if_neg (by decide +kernel)]; exact ⟨rfl, rfl⟩))
    (fun os started H enc _ => lifted os started H enc)

/-- THE STATEMENT -/
theorem proved : Rows.RecvLooksSaid := Hu

#print axioms proved
end Go.Proofs.YtdjhhbpedllnhaaGreat.recvLooks
