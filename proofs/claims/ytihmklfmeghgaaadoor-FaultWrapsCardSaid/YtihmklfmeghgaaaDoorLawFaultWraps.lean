/-
  The law FaultWraps of handofflaw09: for every input the call returns true, and the arguments read as before.
  Conditions: the listed variables hold what the program's text lays (the card ties them).
-/
import Derived.Test.YtihmklfmeghgaaaDoorFtM
import Derived.Test.YtihmklfmeghgaaaDoorFtL
import Derived.Test.YtihmklfmeghgaaaDoorTie
import Derived.Test.YtihmklfmeghgaaaDoorCards
import Derived.ProofKit
import Derived.OpenShut
import Derived.ChangeOld
import Derived.Deep.Slices
import Derived.Deep.Fields
import Derived.SevenTiedAt
set_option linter.unusedVariables false
set_option linter.unusedSimpArgs false
set_option linter.unnecessarySimpa false
namespace Go.Proofs.YtihmklfmeghgaaaDoor.faultWraps
open Go.ChangeShapes Go.WideShapes Go.RowKit Go.Deep

set_option maxRecDepth 100000
theorem laidOut : laidOutB Tryd.prog = true := by kernel_rfl
theorem c3 : Tryd.prog.cellsOf 3 = 1 := by kernel_rfl
theorem c45 : Tryd.prog.cellsOf 45 = 2 := by kernel_rfl

theorem plain (g off j : Nat) : (⟨g, off, none⟩ : Addr).add j = ⟨g, off + j, none⟩ := by unfold Addr.add; split <;> simp_all

section
variable {H : Type} {enc : TypeId × Value → H} {W : World}
/-- an array of two numbers -/
theorem open_two {m : Nat} {cs : List Value} {x : DataW H × List MemPlace} (h : DataW.trod enc Tryd.prog W 0 (fun _ => true) true m 45 cs = some x) : ∃ a b, cs = [.int .i64 a, .int .i64 b] := by
  obtain ⟨xs, k, _, _, hl, hx, hi⟩ := DataW.trod_array Tryd.underlying45 h
  rw [c45] at hl
  match cs, hl with
  | [u, v], _ =>
    have i0 := hi 0 (by omega)
    have i1 := hi 1 (by omega)
    rw [c3] at i0 i1
    rw [List.getElem?_eq_getElem (by omega)] at i0 i1
    obtain ⟨a, e0, _, _⟩ := DataW.trod_int Tryd.underlying3 (show DataW.trod enc Tryd.prog W 0 (fun _ => true) true k 3 [u] = some _ from i0)
    obtain ⟨b, e1, _, _⟩ := DataW.trod_int Tryd.underlying3 (show DataW.trod enc Tryd.prog W 0 (fun _ => true) true k 3 [v] = some _ from i1)
    simp at e0 e1
    exact ⟨a, b, by rw [e0, e1]⟩
theorem c43 : Tryd.prog.cellsOf 43 = 3 := by kernel_rfl
/-- an array of three numbers -/
theorem open_three {m : Nat} {cs : List Value} {x : DataW H × List MemPlace} (h : DataW.trod enc Tryd.prog W 0 (fun _ => true) true m 43 cs = some x) : ∃ a b c, cs = [.int .i64 a, .int .i64 b, .int .i64 c] := by
  obtain ⟨xs, k, _, _, hl, hx, hi⟩ := DataW.trod_array Tryd.underlying43 h
  rw [c43] at hl
  match cs, hl with
  | [u, v, z], _ =>
    have i0 := hi 0 (by omega)
    have i1 := hi 1 (by omega)
    have i2 := hi 2 (by omega)
    rw [c3] at i0 i1 i2
    rw [List.getElem?_eq_getElem (by omega)] at i0 i1 i2
    obtain ⟨a, e0, _, _⟩ := DataW.trod_int Tryd.underlying3 (show DataW.trod enc Tryd.prog W 0 (fun _ => true) true k 3 [u] = some _ from i0)
    obtain ⟨b, e1, _, _⟩ := DataW.trod_int Tryd.underlying3 (show DataW.trod enc Tryd.prog W 0 (fun _ => true) true k 3 [v] = some _ from i1)
    obtain ⟨c, e2, _, _⟩ := DataW.trod_int Tryd.underlying3 (show DataW.trod enc Tryd.prog W 0 (fun _ => true) true k 3 [z] = some _ from i2)
    simp at e0 e1 e2
    exact ⟨a, b, c, by rw [e0, e1, e2]⟩
theorem open_arr {r : Reach} {b0 : Nat} {v : Value} {d : DataW H} {p : List MemPlace} (hv : Value.okWide Tryd.prog W r b0 43 v) (h : DataW.Trod enc Tryd.prog W 0 (fun _ => true) true 43 v d p) :
    ∃ a b c, v = .agg #[.int .i64 a, .int .i64 b, .int .i64 c] := by
  simp only [Value.okWide, Tryd.underlying43] at hv
  obtain ⟨cs, rfl, _, _⟩ := hv
  obtain ⟨fuel, hf⟩ := h
  obtain ⟨a, b, c, e⟩ := open_three (show DataW.trod enc Tryd.prog W 0 (fun _ => true) true fuel 43 cs.toList = some (d, p) by simpa [Value.cells] using hf)
  exact ⟨a, b, c, by cases cs; simp only at e; subst e; rfl⟩
theorem open_pairs {r : Reach} {b0 : Nat} {v : Value} {d : DataW H} {p : List MemPlace} (hv : Value.okWide Tryd.prog W r b0 44 v) (h : DataW.Trod enc Tryd.prog W 0 (fun _ => true) true 44 v d p) :
    ∃ (ao : Option Addr) (n cap : Nat) (zs : Nat → Int × Int), v = .slice ao n cap ∧ ∀ k, k < n → ∃ b o, ao = some ⟨b, o, none⟩ ∧ b < W.heap.size ∧ W.cell? ⟨b, o + k * 2, none⟩ = some (.int .i64 (zs k).1) ∧ W.cell? ⟨b, o + k * 2 + 1, none⟩ = some (.int .i64 (zs k).2) := by
  obtain ⟨ao, len, cap, rfl⟩ := okWide_slice Tryd.underlying44 hv
  obtain ⟨fuel, hf⟩ := h
  have hf' : DataW.trod enc Tryd.prog W 0 (fun _ => true) true fuel 44 [.slice ao len cap] = some (d, p) := by simpa [Value.cells] using hf
  rcases open_slice Tryd.underlying44 hf' with ⟨e, _⟩ | ⟨a, len', cap', m, n, D, Pl, e, hb, hl, hm, hmm, _, hx⟩
  · simp at e
    obtain ⟨rfl, rfl, rfl⟩ := e
    exact ⟨none, 0, 0, fun _ => (0, 0), rfl, fun k hk => by omega⟩
  · simp at e
    obtain ⟨rfl, rfl, rfl⟩ := e
    have hmc : len ≤ m := by rw [hmm]; simp; omega
    have P : ∀ k, ∃ z : Int × Int, k < len → W.cell? (a.add (k * 2)) = some (.int .i64 z.1) ∧ W.cell? (a.add (k * 2 + 1)) = some (.int .i64 z.2) := by
      intro k
      by_cases hk : k < len
      · obtain ⟨cs', h1, h2⟩ := hx k (by omega)
        rw [c45] at h1
        obtain ⟨x, y, rfl⟩ := open_two h2
        obtain ⟨_, _, hcc⟩ := World.cells?_some h1
        refine ⟨(x, y), fun _ => ⟨?_, ?_⟩⟩
        · have := hcc 0 (by omega)
          rwa [Go.Deep.add_add] at this
        · have := hcc 1 (by omega)
          rwa [Go.Deep.add_add] at this
      · exact ⟨(0, 0), fun h => absurd h hk⟩
    obtain ⟨zs, hz⟩ : ∃ zs : Nat → Int × Int, ∀ k, k < len → W.cell? (a.add (k * 2)) = some (.int .i64 (zs k).1) ∧ W.cell? (a.add (k * 2 + 1)) = some (.int .i64 (zs k).2) :=
      ⟨fun k => (P k).choose, fun k hk => (P k).choose_spec hk⟩
    clear P
    refine ⟨some a, len, cap, zs, rfl, fun k hk => ?_⟩
    obtain ⟨q0, q1⟩ := hz k hk
    obtain ⟨g, off, spot⟩ := a
    have hs : spot = none := by
      have z := (hz 0 (by omega)).1
      simpa [Addr.add] using World.cell?_spot z
    subst hs
    rw [plain] at q0 q1
    exact ⟨g, off, rfl, cell_lt q0, q0, by rw [Nat.add_assoc]; exact q1⟩
end

set_option maxRecDepth 100000 in
theorem lifted (os : Os) (started : os.Started) (H : Type) (enc : TypeId × Value → H) :
    ReturnsInHanded {} Tryd.checked os 5 .any (fun w args => (Rows.faultWrapsSpec.pre enc Tryd.prog Tryd.f5 [] false w args ∧ laidMetH Tryd.prog Rows.faultWrapsRow.laid w) ∧ sizedMet enc Tryd.prog Tryd.f5 (OpenSpec.ofChange Rows.faultWrapsSpec) false w args)
      (Rows.faultWrapsSpec.post enc Tryd.prog Tryd.f5 false true false false) := by
  refine returnsInHanded_of_change_and (C := Tryd.checked) (X := fun w _ => laidMetH Tryd.prog Rows.faultWrapsRow.laid w) (fun _ _ _ hh h => h.of_heap hh) own started (by kernel_rfl) Tryd.func5
    (ChangeSpec.witness_at (enc := enc) (C := Tryd.checked) (os := os) (X := fun w _ => laidMetH Tryd.prog Rows.faultWrapsRow.laid w) false (laidWorld os) #[.agg #[.int .i64 0, .int .i64 0, .int .i64 0], .slice none 0 0] 8 rfl (by kernel_rfl) (by kernel_rfl) (by kernel_rfl) (by kernel_rfl) (by kernel_rfl) (laidWorld_met os _)) ?_
  intro W base args ds gs before hval0 hW _ _ hL _
  have hval : ∀ (j : Nat) t v, Tryd.f5.params[j]? = some t → args[j]? = some v → Value.okWide Tryd.prog W .any base t v := hval0
  have hW' := hW
  obtain ⟨p, q, hA0, hV0, rfl, hfz, hnd⟩ := hW
  have hA : DataW.TrodAll enc Tryd.prog W 0 (fun _ => true) true Tryd.f5.params.toList args.toList ds p := hA0
  have hV : DataW.TrodVars enc Tryd.prog W (fun _ => true) [] gs q := hV0
  rw [Tryd.params5] at hA hval
  obtain ⟨v0, vs0, d0, ds0, p0, q0, hargs, rfl, rfl, h0, r0⟩ := trodAll_cons hA
  obtain ⟨v1, vs1, d1, ds1, p1, q1, rfl, rfl, rfl, h1, r1⟩ := trodAll_cons r0
  obtain ⟨rfl, rfl, rfl⟩ := trodAll_nil r1
  obtain rfl : args = #[v0, v1] := by cases args; simp_all
  have k0 := h0
  have lt0 : ∀ x ∈ p0, x.block < W.heap.size := by obtain ⟨m, hm⟩ := k0; exact DataW.trod_lt m _ _ _ hm
  have k1 := h1
  have lt1 : ∀ x ∈ p1, x.block < W.heap.size := by obtain ⟨m, hm⟩ := k1; exact DataW.trod_lt m _ _ _ hm
  obtain ⟨a, b, c, rfl⟩ := open_arr (hval 0 43 v0 rfl rfl) h0
  obtain ⟨ao, n, cap, zs, rfl, hz⟩ := open_pairs (hval 1 44 v1 rfl rfl) h1
  obtain ⟨rfl, rfl⟩ : gs = [] ∧ q = [] := by
    cases gs with
    | nil => exact ⟨rfl, hV⟩
    | cons g r => exact absurd hV (by intro h; cases h)
  obtain ⟨s0, s1, s2, hstd⟩ := std_of_laid hL
  clear hA0 hval0
  refine (wraps_walk a b c hstd ao n cap zs hz).mono fun e W' ⟨he, bel⟩ => ?_
  subst he
  exact ⟨_, rfl, _, _, _, [], _, [], hW', trodAll_mk1 (shut_bool Tryd.underlying4 _), (trodAll_cons_mk (Below.trod laidOut (by kernel_rfl) (of_decide_eq_true (by kernel_rfl)) k0 bel lt0) (trodAll_cons_mk (Below.trod laidOut (by kernel_rfl) (of_decide_eq_true (by kernel_rfl)) k1 bel lt1) trodAll_mk0)), rfl, bel.frame _, fun h => by cases h⟩

theorem over : Rows.FaultWrapsSaid :=
  OpenClaim.holds_of_wide 5 Tryd.f5 rfl rfl rfl rfl rfl rfl rfl ⟨rfl, rfl, rfl, rfl, rfl⟩ rfl rfl rfl rfl rfl (by kernel_rfl) Tryd.func5 (by kernel_rfl)
    (of_decide_eq_true (by kernel_rfl)) (by unfold Func.isWrapper; rw [if_neg (of_decide_eq_false (by kernel_rfl))]; exact ⟨rfl, rfl⟩)
    (fun os started H enc _ => lifted os started H enc)

/-- THE STATEMENT -/
theorem proved : Rows.FaultWrapsCardSaid :=
  Claim7.holds_tied_plain_at .later [] [.data, .data, .data, .handle, .sentinel, .sentinel, .sentinel] true (true, "bbe3cd04dc05a30ab57bb51c087a42684f8a77b7c847b8aca3f1c64cadf056a7") true
    over (fun _ h => by cases h) (by kernel_rfl) (fun _ h => by cases h) faultWraps_row_tie rfl ⟨rfl, rfl⟩ (by kernel_rfl) rfl
    (fun f fn hf hfn => by
      obtain rfl : f = 5 := Option.some.inj ((show Tryd.prog.funcNamed "handoff/handofflaw09.FaultWraps" = some 5 by kernel_rfl).symm.trans hf) |>.symm
      obtain rfl : fn = Tryd.f5 := (Option.some.inj (Tryd.func5.symm.trans hfn)).symm
      exact ⟨by kernel_rfl, fun j t ht => by
        rw [Tryd.params5] at ht
        have h3 : t = 43 ∨ t = 44 := by
          rcases j with _ | _ | j
          all_goals simp at ht
          · exact .inl ht.symm
          · exact .inr ht.symm
        rcases h3 with rfl | rfl
        · exact (show Tryd.prog.wantsStandIn 43 = false by kernel_rfl)
        · exact (show Tryd.prog.wantsStandIn 44 = false by kernel_rfl)⟩)
    (by kernel_rfl)

#print axioms proved
end Go.Proofs.YtihmklfmeghgaaaDoor.faultWraps
