/-
  The law WordsReads of handofflaw11: for every input the call returns true, and the arguments read as before.
  Conditions: none.
-/
import Derived.Test.YtbjnbngpjdoejaaDoorQ22
import Derived.Test.YtbjnbngpjdoejaaDoorTie
import Derived.Test.YtbjnbngpjdoejaaDoorCards
import Derived.ProofKit
import Derived.OpenShut
import Derived.ShutString
import Derived.ChangeOld
import Derived.SevenTiedAt
namespace Go.Proofs.YtbjnbngpjdoejaaDoor.wordsReads
open Go.ChangeShapes Go.WideShapes Go.ChangeAt Go.RowKit
open Go.ChangeMaps (open_string shut_string)
set_option linter.unusedVariables false
set_option linter.unusedSimpArgs false
set_option linter.unnecessarySimpa false

theorem own : ownKnob Tryd.prog.godebug = none := by kernel_rfl
theorem laidOut : laidOutB Tryd.prog = true := by kernel_rfl

set_option maxRecDepth 100000 in
theorem lifted (os : Os) (started : os.Started) (H : Type) (enc : TypeId × Value → H) :
    ReturnsInHanded {} Tryd.checked os 3 .any (fun w args => (Rows.wordsReadsSpec.pre enc Tryd.prog Tryd.f3 [] false w args ∧ laidMetH Tryd.prog Rows.wordsReadsRow.laid w) ∧ sizedMet enc Tryd.prog Tryd.f3 (OpenSpec.ofChange Rows.wordsReadsSpec) false w args)
      (Rows.wordsReadsSpec.post enc Tryd.prog Tryd.f3 false true false false) := by
  refine returnsInHanded_of_calls (C := Tryd.checked) own started (by kernel_rfl)
    (ChangeSpec.witness_at (enc := enc) (C := Tryd.checked) (os := os) (X := fun w _ => laidMetH Tryd.prog Rows.wordsReadsRow.laid w) false (laidWorld os) #[.string ByteArray.empty] 8 rfl (by kernel_rfl) (by kernel_rfl) (by kernel_rfl) (by kernel_rfl) (by kernel_rfl) (laidWorld_met os _)) ?_
  intro w0 tape i _ hsh _ hok hpre _
  obtain ⟨_, _, _, fn', hfn', _, _, _, _, hval0⟩ := hok
  obtain rfl : fn' = Tryd.f3 := Option.some.inj (hfn'.symm.trans Tryd.func3)
  obtain ⟨⟨⟨ds, gs, before, hw, _⟩, hx⟩, _⟩ := hpre
  have hW := DataW.Whole.of_heap (w' := w0.forCall tape i) (by rfl) hw
  have hL : laidMetH Tryd.prog Rows.wordsReadsRow.laid (w0.forCall tape i) := hx.of_heap (by rfl)
  obtain ⟨W, hWe⟩ : ∃ W, w0.forCall tape i = W := ⟨_, rfl⟩
  rw [hWe] at hsh hval0 hW hL ⊢
  obtain ⟨args, hargs0⟩ : ∃ args, i.args = args := ⟨_, rfl⟩
  rw [hargs0] at hval0 hW ⊢
  have hval : ∀ (j : Nat) t v, Tryd.f3.params[j]? = some t → args[j]? = some v → Value.okWide Tryd.prog W .any w0.heap.size t v := hval0
  have key : Calls Tryd.prog 3 args W fun e W' => ∃ v, e = .returned v ∧ Rows.wordsReadsSpec.post enc Tryd.prog Tryd.f3 false true false false W args v W' := by
    have hW' := hW
    obtain ⟨p, q, hA0, hV0, rfl, hfz, hnd⟩ := hW
    have hA : DataW.TrodAll enc Tryd.prog W 0 (fun _ => true) true Tryd.f3.params.toList args.toList ds p := hA0
    rw [Tryd.params3] at hA hval
    obtain ⟨v0, vs0, d0, ds0, p0, q0, hargs, rfl, rfl, h0, r0⟩ := trodAll_cons hA
    obtain ⟨rfl, rfl, rfl⟩ := trodAll_nil r0
    obtain rfl : args = #[v0] := by cases args; simp_all
    have hV : DataW.TrodVars enc Tryd.prog W (fun _ => true) [] gs q := hV0
    obtain ⟨rfl, rfl⟩ : gs = [] ∧ q = [] := by
      cases gs with
      | nil => exact ⟨rfl, hV⟩
      | cons g r => exact absurd hV (by intro h; cases h)
    obtain ⟨s0, rfl, rfl, rfl, w0⟩ := open_string Tryd.underlying9 (hval 0 9 v0 rfl rfl) h0
    clear hA0 hval0
    refine (Fl.wordsReads_walk W s0 (hw_of_laid hL hsh)).mono fun e W' ⟨he, kp⟩ => ?_
    subst he
    have bel : Below W.heap.size W W' := kp.below
    exact ⟨_, rfl, _, _, _, [], _, [], hW', trodAll_mk1 (shut_bool Tryd.underlying4 _), (trodAll_cons_mk (shut_string Tryd.underlying9 w0) trodAll_mk0), rfl, bel.frame _, fun h => by cases h⟩
  refine key.mono fun e W' ⟨v, he, hp⟩ => ?_
  subst he
  rw [← hWe, ← hargs0] at hp
  rw [← hWe, ← hargs0]
  exact ChangeSpec.post_blind hp

theorem over : Rows.WordsReadsSaid :=
  OpenClaim.holds_of_wide 3 Tryd.f3 rfl rfl rfl rfl rfl rfl rfl ⟨rfl, rfl, rfl, rfl, rfl⟩ rfl rfl rfl rfl rfl (by kernel_rfl) Tryd.func3 (by kernel_rfl)
    (of_decide_eq_true (by kernel_rfl)) (by unfold Func.isWrapper; rw [if_neg (of_decide_eq_false (by kernel_rfl))]; exact ⟨rfl, rfl⟩)
    (fun os started H enc _ => lifted os started H enc)

/-- THE STATEMENT -/
theorem proved : Rows.WordsReadsCardSaid :=
  Claim7.holds_tied_plain_at .later [] [.data, .data, .data, .data, .sentinel, .sentinel, .pinned] true (true, "9966ea8d1f232cabbb2a411d9cc6c277fe1b0a13f9773857a11be81555f2dae9") true
    over (fun _ h => by cases h) (by kernel_rfl) (fun _ h => by cases h) wordsReads_row_tie rfl ⟨rfl, rfl⟩ (by kernel_rfl) rfl
    (fun f fn hf hfn => by
      obtain rfl : f = 3 := Option.some.inj ((show Tryd.prog.funcNamed "handoff/handofflaw11.WordsReads" = some 3 by kernel_rfl).symm.trans hf) |>.symm
      obtain rfl : fn = Tryd.f3 := (Option.some.inj (Tryd.func3.symm.trans hfn)).symm
      exact ⟨by kernel_rfl, fun j t ht => by
        rw [Tryd.params3] at ht
        have h3 : t = 9 := by
          rcases j with _ | j
          · simpa using ht.symm
          · simp at ht
        subst h3
        exact (show Tryd.prog.wantsStandIn 9 = false by kernel_rfl)⟩)
    (by kernel_rfl)

#print axioms proved
end Go.Proofs.YtbjnbngpjdoejaaDoor.wordsReads
