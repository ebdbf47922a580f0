/-
  The document's RightOp: its contract.
  Conditions: none.
-/
import Derived.Test.YtgjpdogjekmemaaDoorPlanR
namespace Go.Proofs.YtgjpdogjekmemaaDoor
open Go.RowKit
set_option linter.unusedVariables false
set_option linter.unusedSimpArgs false
set_option linter.unnecessarySimpa false
namespace Pn
theorem ref_case9 {o : Op} {j : Nat} {c : Cs} (h : o.cases[j]? = some c) (hc : rightCs c = false) : rightOp o = false := right_case h (by rw [okCs_right]; exact hc)
end Pn

set_option maxRecDepth 100000 in
set_option maxHeartbeats 3200000 in
theorem ref10_rightOp_9 (w : World) (o : Pn.Op) (va : Value) (SA : List Nat) (ha : GV caseE 3 w va o.cases SA) (hb : 1 ≤ o.kind ∧ o.kind ≤ 9 ∧ 0 ≤ o.ch ∧ o.ch ≤ 8 ∧ 0 ≤ o.n ∧ o.n ≤ 4 ∧ 0 ≤ o.v ∧ o.v ≤ 255 ∧ o.cases.length ≤ 6) (hk : o.kind = 9) :
    Calls Tryd.prog 25 #[.agg #[.int .i64 o.kind, .int .i64 o.ch, .int .i64 o.n, .int .i64 o.v, va, .bool o.els]] w fun e w' => e = .returned (.bool (Pn.rightOp o)) ∧ Keeps [] w w' := by
  have hla := ha.le
  unfold maxLen at hla
  obtain ⟨ao, cap, rfl⟩ := ha.shape
  have HA := Lib.hid ha
  obtain ⟨q, hq0⟩ : ∃ q, Pn.rightOp o = q := ⟨_, rfl⟩
  rw [hq0]
  have HQ := Lib.hid hq0
  have KA : Hid (Keeps [] w (w.alloc (.cells #[.int .i64 o.kind, .int .i64 o.ch, .int .i64 o.n, .int .i64 o.v, .slice ao o.cases.length cap, .bool o.els] 25))) := Lib.hid ((Keeps.refl [] w).alloc _)
  clear ha hq0
  obtain ⟨b1, b2, b3, b4, b5, b6, b7, b8, b9⟩ := hb
  obtain ⟨k, ch, n, v, cs, els⟩ := o
  simp only at *
  have HS : Hid ((Pn.hasCh k = false → ch = 0) → (Pn.hasV k = false → v = 0) → (k ≠ 1 → n = 0) → (k ≠ 9 → cs = [] ∧ els = false) → (∀ (j : Nat) (c : Pn.Cs), cs[j]? = some c → Pn.rightCs c = true) → true = q) := Lib.hid (fun d1 d2 d3 d4 h => by
    rw [← HQ.out, eq_comm]; unfold Pn.rightOp; rw [decide_eq_true_iff]
    refine ⟨b1, b2, b3, b4, b5, b6, b7, b8, b9, d1, d2, d3, d4, fun c hc => ?_⟩
    obtain ⟨j, hj, rfl⟩ := List.getElem_of_mem hc
    exact h j _ (List.getElem?_eq_getElem hj))
  have HF : Hid (¬ ((Pn.hasCh k = false → ch = 0) ∧ (Pn.hasV k = false → v = 0) ∧ (k ≠ 1 → n = 0) ∧ (k ≠ 9 → cs = [] ∧ els = false)) → false = q) := Lib.hid (fun hn => by
    rw [← HQ.out, eq_comm]; unfold Pn.rightOp; rw [decide_eq_false_iff_not]; rintro ⟨h1, h2, h3, h4, h5, h6, h7, h8, h9, h10, h11, h12, h13, _⟩; exact hn ⟨h10, h11, h12, h13⟩)
  subst hk
  have HCV : Hid (Pn.hasCh 9 = false ∧ Pn.hasV 9 = false) := Lib.hid (by constructor <;> simp [Pn.hasCh, Pn.hasV] <;> omega)
  by_cases hcl : ch = 0 ∧ v = 0 ∧ n = 0
  · obtain ⟨e0, e1, e2⟩ := hcl
    subst e0 e1 e2
    have HS2 := Lib.hid (HS.out (fun _ => rfl) (fun _ => rfl) (fun _ => rfl) (fun h => absurd rfl h))
    clear HS HF
    try clear e3
    try clear e2
    go_enter Tryd.func25, Tryd.ntmps25
    go_wp2_with fail
    refine (ref10_hasCh _ _).mono ?_
    rintro e w3 ⟨rfl, rfl⟩
    rw [HCV.out.1]
    go_wp2_with (go_at_call 27; refine (ref10_hasV _ _).mono ?_; rintro e w4 ⟨rfl, rfl⟩; rw [HCV.out.2])
    go_loopw [97] (fun u wr => ∃ j : Nat, j ≤ cs.length ∧ u = .int .i64 j ∧ Hid (Keeps [] w wr ∧ ∀ (i : Nat) (c : Pn.Cs), i < j → cs[i]? = some c → Pn.rightCs c = true)) (fun u _ => cs.length - (intOf u).toNat)
    case atStart => exact ⟨0, Nat.zero_le _, rfl, Lib.hid ⟨KA.out, fun i c hi => by omega⟩⟩
    case round =>
      obtain ⟨j, hj, rfl, HI⟩ := hrel
      obtain ⟨wo, rfl⟩ : ∃ wo : World, wo = wr := ⟨_, rfl⟩
      by_cases hlt : j < cs.length
      · obtain ⟨x, hx⟩ : ∃ x, cs[j]? = some x := ⟨_, List.getElem?_eq_getElem hlt⟩
        obtain ⟨g1, off1, rfl, _, hg1, a0, a1, a2⟩ := (HA.out.then caseE_kept HI.out.1).case hx
        have HX := Lib.hid hx
        clear hx
        obtain ⟨xs, xc, xv⟩ := x
        simp only at a0 a1 a2
        have KR : Hid (Keeps [] w (wo.alloc (.cells #[.bool xs, .int .i64 xc, .int .i64 xv] 40))) := Lib.hid (HI.out.1.alloc _)
        by_cases hr : 0 ≤ xc ∧ xc ≤ 8 ∧ 0 ≤ xv ∧ xv ≤ 255 ∧ (xs = false → xv = 0)
        · have HO : Hid (Pn.rightCs ⟨xs, xc, xv⟩ = true) := Lib.hid (by unfold Pn.rightCs; rw [decide_eq_true_iff]; exact hr)
          obtain ⟨e1, e2, e3, e4, e5⟩ := hr
          cases xs with
          | true =>
            clear e5
            go_wp2_with fail
            go_roundw
            case rel => exact ⟨j + 1, by omega, by go_num, Lib.hid ⟨KR.out, fun i c hi hc => by
              by_cases e : i = j
              · subst e; rw [HX.out] at hc; cases hc; exact HO.out
              · exact HI.out.2 i c (by omega) hc⟩⟩
            case measure => simp [intOf]; omega
          | false =>
            have e6 := e5 rfl
            subst e6
            clear e5
            go_wp2_with fail
            go_roundw
            case rel => exact ⟨j + 1, by omega, by go_num, Lib.hid ⟨KR.out, fun i c hi hc => by
              by_cases e : i = j
              · subst e; rw [HX.out] at hc; cases hc; exact HO.out
              · exact HI.out.2 i c (by omega) hc⟩⟩
            case measure => simp [intOf]; omega
        · have HN : Hid (false = q) := Lib.hid (by rw [← HQ.out, Pn.ref_case9 HX.out (by unfold Pn.rightCs; rw [decide_eq_false_iff_not]; exact hr)])
          have HR := Lib.hid hr
          clear hr
          cases xs with
          | true =>
            have HR2 : Hid (0 ≤ xc → xc ≤ 8 → 0 ≤ xv → xv ≤ 255 → False) := Lib.hid (fun a b c d => HR.out ⟨a, b, c, d, fun h => by cases h⟩)
            clear HR
            go_upto_if 128 with fail
            all_goals
              go_wp2_with fail
              all_goals
                first
                  | (exfalso; refine HR2.out ?_ ?_ ?_ ?_ <;> omega)
                  | (go_ret; exact ⟨ret_bool HN.out, HI.out.1.alloc _⟩)
          | false =>
            have HR2 : Hid (0 ≤ xc → xc ≤ 8 → 0 ≤ xv → xv ≤ 255 → xv ≠ 0) := Lib.hid (fun a b c d e => HR.out ⟨a, b, c, d, fun _ => e⟩)
            clear HR
            go_upto_if 128 with fail
            all_goals
              go_wp2_with fail
              all_goals
                first
                  | (exfalso; refine HR2.out ?_ ?_ ?_ ?_ ?_ <;> (first | omega | (have h := (show ((((0 ≤ xc ∧ xc ≤ 8) ∧ 0 ≤ xv) ∧ xv ≤ 255) ∧ (xv != 0) = false) by assumption).2; simpa using h)))
                  | (go_ret; exact ⟨ret_bool HN.out, HI.out.1.alloc _⟩)
      · obtain rfl : j = cs.length := by omega
        have HN : Hid (true = q) := Lib.hid (HS2.out fun i c hc => HI.out.2 i c (List.getElem?_eq_some_iff.1 hc).1 hc)
        go_wp2_with fail
        go_ret
        exact ⟨ret_bool HN.out, HI.out.1⟩
  · have HN : Hid (false = q) := Lib.hid (HF.out (by rintro ⟨d1, d2, d3, d4⟩; have q1 := HCV.out.1; have q2 := HCV.out.2; exact hcl ⟨d1 q1, d2 q2, d3 (by omega)⟩))
    have HC : Hid (ch = 0 → v = 0 → n = 0 → False) := Lib.hid (fun e0 e1 e2 => hcl ⟨e0, e1, e2⟩)
    clear hcl
    go_enter Tryd.func25, Tryd.ntmps25
    go_wp2_with fail
    refine (ref10_hasCh _ _).mono ?_
    rintro e w3 ⟨rfl, rfl⟩
    rw [HCV.out.1]
    go_upto_if 93 with (go_at_call 27; refine (ref10_hasV _ _).mono ?_; rintro e w4 ⟨rfl, rfl⟩; rw [HCV.out.2])
    all_goals
      go_wp2_with fail
      all_goals
        first
          | (exfalso; refine HC.out ?_ ?_ ?_ <;> (first | assumption | omega | (simpa using ‹¬els = true›)); done)
          | (go_ret; exact ⟨ret_bool HN.out, (Keeps.refl [] w).alloc _⟩)
end Go.Proofs.YtgjpdogjekmemaaDoor
