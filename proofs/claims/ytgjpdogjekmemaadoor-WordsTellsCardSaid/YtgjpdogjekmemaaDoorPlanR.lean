/-
  plan.RightOp: its contract.
  Conditions: none.
-/
import Derived.Test.YtgjpdogjekmemaaDoorPlanN
namespace Go.Proofs.YtgjpdogjekmemaaDoor
open Go.RowKit
set_option linter.unusedVariables false
set_option linter.unusedSimpArgs false
set_option linter.unnecessarySimpa false

namespace Pn
/-- as the program asks it -/
def okCs (c : Cs) : Bool := within true c.ch 8 && within c.send c.v 255
theorem okCs_right (c : Cs) : okCs c = rightCs c := by
  obtain ⟨s, ch, v⟩ := c
  unfold okCs rightCs within
  rw [Bool.eq_iff_iff]
  cases s <;> simp <;> omega
theorem right_kind {o : Op} (h : o.kind < 1 ∨ 9 < o.kind) : rightOp o = false := by
  unfold rightOp; rw [decide_eq_false_iff_not]; rintro ⟨h1, h2, _⟩; omega
theorem right_ch {o : Op} (h : within (hasCh o.kind) o.ch 8 = false) : rightOp o = false := by
  unfold rightOp; rw [decide_eq_false_iff_not]; rintro ⟨h1, h2, h3, h4, h5, h6, h7, h8, h9, h10, h11, h12, h13, h14⟩
  unfold within at h
  split at h
  · simp at h; omega
  · rename_i hc; simp at h; exact h (h10 (by simpa using hc))
theorem right_v {o : Op} (h : within (hasV o.kind) o.v 255 = false) : rightOp o = false := by
  unfold rightOp; rw [decide_eq_false_iff_not]; rintro ⟨h1, h2, h3, h4, h5, h6, h7, h8, h9, h10, h11, h12, h13, h14⟩
  unfold within at h
  split at h
  · simp at h; omega
  · rename_i hc; simp at h; exact h (h11 (by simpa using hc))
theorem right_n {o : Op} (h : within (o.kind == 1) o.n 4 = false) : rightOp o = false := by
  unfold rightOp; rw [decide_eq_false_iff_not]; rintro ⟨h1, h2, h3, h4, h5, h6, h7, h8, h9, h10, h11, h12, h13, h14⟩
  unfold within at h
  split at h
  · simp at h; omega
  · rename_i hc; simp at h; exact h (h12 (by simpa using hc))
theorem within_ch {o : Op} (h : within (hasCh o.kind) o.ch 8 = true) : 0 ≤ o.ch ∧ o.ch ≤ 8 ∧ (hasCh o.kind = false → o.ch = 0) := by
  unfold within at h
  split at h
  · rename_i hc; simp at h; exact ⟨h.1, h.2, fun e => by rw [e] at hc; cases hc⟩
  · simp at h; rw [h]; exact ⟨by omega, by omega, fun _ => rfl⟩
theorem within_v {o : Op} (h : within (hasV o.kind) o.v 255 = true) : 0 ≤ o.v ∧ o.v ≤ 255 ∧ (hasV o.kind = false → o.v = 0) := by
  unfold within at h
  split at h
  · rename_i hc; simp at h; exact ⟨h.1, h.2, fun e => by rw [e] at hc; cases hc⟩
  · simp at h; rw [h]; exact ⟨by omega, by omega, fun _ => rfl⟩
theorem within_n {o : Op} (h : within (o.kind == 1) o.n 4 = true) : 0 ≤ o.n ∧ o.n ≤ 4 ∧ (o.kind ≠ 1 → o.n = 0) := by
  unfold within at h
  split at h
  · rename_i hc; simp at h; exact ⟨h.1, h.2, fun e => by simp at hc; exact absurd hc e⟩
  · simp at h; rw [h]; exact ⟨by omega, by omega, fun _ => rfl⟩
theorem right_plain {o : Op} (h1 : 1 ≤ o.kind) (h2 : o.kind ≤ 9) (h3 : within (hasCh o.kind) o.ch 8 = true) (h4 : within (hasV o.kind) o.v 255 = true) (h5 : within (o.kind == 1) o.n 4 = true) (h6 : o.kind ≠ 9) : rightOp o = (decide (o.cases.length = 0) && !o.els) := by
  obtain ⟨a1, a2, a3⟩ := within_ch h3
  obtain ⟨b1, b2, b3⟩ := within_v h4
  obtain ⟨c1, c2, c3⟩ := within_n h5
  rw [Bool.eq_iff_iff]
  unfold rightOp
  simp only [decide_eq_true_eq, Bool.and_eq_true, Bool.not_eq_true', List.length_eq_zero_iff]
  constructor
  · rintro ⟨_, _, _, _, _, _, _, _, _, _, _, _, h, _⟩; exact h h6
  · rintro ⟨h7, h8⟩
    refine ⟨h1, h2, a1, a2, c1, c2, b1, b2, by rw [h7]; simp, a3, b3, c3, fun _ => ⟨h7, h8⟩, by rw [h7]; simp⟩
theorem right_many {o : Op} (h : 6 < o.cases.length) : rightOp o = false := by
  unfold rightOp; rw [decide_eq_false_iff_not]; rintro ⟨h1, h2, h3, h4, h5, h6, h7, h8, h9, h10⟩; omega
theorem right_sel {o : Op} (h3 : within (hasCh o.kind) o.ch 8 = true) (h4 : within (hasV o.kind) o.v 255 = true) (h5 : within (o.kind == 1) o.n 4 = true) (h6 : o.kind = 9) (h7 : o.cases.length ≤ 6) (h8 : ∀ (j : Nat) (c : Cs), o.cases[j]? = some c → okCs c = true) : rightOp o = true := by
  obtain ⟨a1, a2, a3⟩ := within_ch h3
  obtain ⟨b1, b2, b3⟩ := within_v h4
  obtain ⟨c1, c2, c3⟩ := within_n h5
  unfold rightOp
  rw [decide_eq_true_iff]
  refine ⟨by omega, by omega, a1, a2, c1, c2, b1, b2, h7, a3, b3, c3, fun h => absurd h6 h, fun c hc => ?_⟩
  obtain ⟨j, hj, rfl⟩ := List.getElem_of_mem hc
  rw [← okCs_right]; exact h8 j _ (List.getElem?_eq_getElem hj)
theorem right_case {o : Op} {j : Nat} {c : Cs} (h : o.cases[j]? = some c) (hc : okCs c = false) : rightOp o = false := by
  unfold rightOp; rw [decide_eq_false_iff_not]; rintro ⟨h1, h2, h3, h4, h5, h6, h7, h8, h9, h10, h11, h12, h13, h14⟩
  have := h14 c (List.mem_of_getElem? h)
  rw [← okCs_right, hc] at this; cases this
end Pn

set_option maxHeartbeats 3200000 in
theorem plan_rightOp (w : World) (o : Pn.Op) (va : Value) (SA : List Nat) (ha : GV caseE 3 w va o.cases SA) :
    Calls Tryd.prog 21 #[.agg #[.int .i64 o.kind, .int .i64 o.ch, .int .i64 o.n, .int .i64 o.v, va, .bool o.els]] w fun e w' => e = .returned (.bool (Pn.rightOp o)) ∧ Keeps [] w w' := by
  have hla := ha.le
  unfold maxLen at hla
  obtain ⟨ao, cap, rfl⟩ := ha.shape
  have HA := Lib.hid ha
  obtain ⟨q, hq0⟩ : ∃ q, Pn.rightOp o = q := ⟨_, rfl⟩
  rw [hq0]
  have HQ := Lib.hid hq0
  have KA : Hid (Keeps [] w (w.alloc (.cells #[.int .i64 o.kind, .int .i64 o.ch, .int .i64 o.n, .int .i64 o.v, .slice ao o.cases.length cap, .bool o.els] 25))) := Lib.hid ((Keeps.refl [] w).alloc _)
  clear ha hq0
  by_cases hk : o.kind < 1 ∨ 9 < o.kind
  · have HN : Hid (false = q) := Lib.hid (by rw [← HQ.out, Pn.right_kind hk])
    rcases hk with hk | hk
    · have hk9 : o.kind ≤ 9 := by omega
      go_enter Tryd.func21, Tryd.ntmps21
      go_wp2_with fail
      go_ret
      exact ⟨ret_bool HN.out, KA.out⟩
    · have hk1 : 1 ≤ o.kind := by omega
      go_enter Tryd.func21, Tryd.ntmps21
      go_wp2_with fail
      go_ret
      exact ⟨ret_bool HN.out, KA.out⟩
  have hk1 : 1 ≤ o.kind := by omega
  have hk9 : o.kind ≤ 9 := by omega
  clear hk
  cases hw1 : Pn.within (Pn.hasCh o.kind) o.ch 8 with
  | false =>
    have HN : Hid (false = q) := Lib.hid (by rw [← HQ.out, Pn.right_ch hw1])
    go_enter Tryd.func21, Tryd.ntmps21
    go_wp2_with fail
    go_quiet ((first | (go_at_call 37; exact quiet_own (plan_hasCh _ _)) | (go_at_call 38; exact quiet_own (plan_hasV _ _)) | (go_at_call 36; exact quiet_own (plan_within _ _ _ _))))
    go_wp2_with fail
    go_ret
    exact ⟨ret_bool HN.out, KA.out.drewN _⟩
  | true =>
    cases hw2 : Pn.within (Pn.hasV o.kind) o.v 255 with
    | false =>
      have HN : Hid (false = q) := Lib.hid (by rw [← HQ.out, Pn.right_v hw2])
      go_enter Tryd.func21, Tryd.ntmps21
      go_wp2_with fail
      go_quiet ((first | (go_at_call 37; exact quiet_own (plan_hasCh _ _)) | (go_at_call 38; exact quiet_own (plan_hasV _ _)) | (go_at_call 36; exact quiet_own (plan_within _ _ _ _))))
      go_wp2_with fail
      go_ret
      exact ⟨ret_bool HN.out, KA.out.drewN _⟩
    | true =>
      cases hw3 : Pn.within (o.kind == 1) o.n 4 with
      | false =>
        have HN : Hid (false = q) := Lib.hid (by rw [← HQ.out, Pn.right_n hw3])
        go_enter Tryd.func21, Tryd.ntmps21
        go_wp2_with fail
        go_quiet ((first | (go_at_call 37; exact quiet_own (plan_hasCh _ _)) | (go_at_call 38; exact quiet_own (plan_hasV _ _)) | (go_at_call 36; exact quiet_own (plan_within _ _ _ _))))
        go_wp2_with fail
        refine (plan_within _ _ _ _).mono ?_
        rintro e w3 ⟨rfl, rfl⟩
        rw [hw3]
        go_wp2_with fail
        go_ret
        exact ⟨ret_bool HN.out, KA.out.drewN _⟩
      | true =>
        by_cases h9 : o.kind = 9
        · have h9' : (o.kind != 9) = false := by simp [h9]
          by_cases h6 : 6 < o.cases.length
          · have HN : Hid (false = q) := Lib.hid (by rw [← HQ.out, Pn.right_many h6])
            clear h9
            go_enter Tryd.func21, Tryd.ntmps21
            go_wp2_with fail
            go_quiet ((first | (go_at_call 37; exact quiet_own (plan_hasCh _ _)) | (go_at_call 38; exact quiet_own (plan_hasV _ _)) | (go_at_call 36; exact quiet_own (plan_within _ _ _ _))))
            go_wp2_with fail
            refine (plan_within _ _ _ _).mono ?_
            rintro e w3 ⟨rfl, rfl⟩
            rw [hw3]
            go_wp2_with fail
            go_ret
            exact ⟨ret_bool HN.out, KA.out.drewN _⟩
          · have h6' : o.cases.length ≤ 6 := by omega
            have HS : Hid ((∀ (j : Nat) (c : Pn.Cs), o.cases[j]? = some c → Pn.okCs c = true) → true = q) := Lib.hid (fun h => by rw [← HQ.out, Pn.right_sel hw1 hw2 hw3 h9 h6' h])
            clear h9 h6
            go_enter Tryd.func21, Tryd.ntmps21
            go_wp2_with fail
            go_quiet ((first | (go_at_call 37; exact quiet_own (plan_hasCh _ _)) | (go_at_call 38; exact quiet_own (plan_hasV _ _)) | (go_at_call 36; exact quiet_own (plan_within _ _ _ _))))
            go_wp2_with fail
            refine (plan_within _ _ _ _).mono ?_
            rintro e w3 ⟨rfl, rfl⟩
            rw [hw3]
            go_wp2_with fail
            clear hw1 hw2 hw3 h9'
            go_loopw [59] (fun u wr => ∃ k : Nat, k ≤ o.cases.length ∧ u = .int .i64 k ∧ Hid (Keeps [] w wr ∧ ∀ (j : Nat) (c : Pn.Cs), j < k → o.cases[j]? = some c → Pn.okCs c = true)) (fun u _ => o.cases.length - (intOf u).toNat)
            case atStart => exact ⟨0, Nat.zero_le _, rfl, Lib.hid ⟨KA.out.drewN _, fun j c hj => by omega⟩⟩
            case round =>
              obtain ⟨k, hk, rfl, HI⟩ := hrel
              obtain ⟨wo, rfl⟩ : ∃ wo : World, wo = wr := ⟨_, rfl⟩
              by_cases hlt : k < o.cases.length
              · obtain ⟨x, hx⟩ : ∃ x, o.cases[k]? = some x := ⟨_, List.getElem?_eq_getElem hlt⟩
                obtain ⟨g1, off1, rfl, _, hg1, a0, a1, a2⟩ := (HA.out.then caseE_kept HI.out.1).case hx
                have HX := Lib.hid hx
                have KR : Hid (Keeps [] w (wo.alloc (.cells #[.bool x.send, .int .i64 x.ch, .int .i64 x.v] 40))) := Lib.hid (HI.out.1.alloc _)
                clear hx
                cases hv1 : Pn.within true x.ch 8 with
                | false =>
                  have HN : Hid (false = q) := Lib.hid (by rw [← HQ.out, Pn.right_case HX.out (by unfold Pn.okCs; rw [hv1]; rfl)])
                  go_wp2_with fail
                  refine (plan_within _ _ _ _).mono ?_
                  rintro e w4 ⟨rfl, rfl⟩
                  rw [hv1]
                  go_wp2_with fail
                  go_ret
                  exact ⟨ret_bool HN.out, KR.out⟩
                | true =>
                  cases hv2 : Pn.within x.send x.v 255 with
                  | false =>
                    have HN : Hid (false = q) := Lib.hid (by rw [← HQ.out, Pn.right_case HX.out (by unfold Pn.okCs; rw [hv1, hv2]; rfl)])
                    go_wp2_with fail
                    refine (plan_within _ _ _ _).mono ?_
                    rintro e w4 ⟨rfl, rfl⟩
                    rw [hv1]
                    go_wp2_with fail
                    refine (plan_within _ _ _ _).mono ?_
                    rintro e w4 ⟨rfl, rfl⟩
                    rw [hv2]
                    go_wp2_with fail
                    go_ret
                    exact ⟨ret_bool HN.out, KR.out⟩
                  | true =>
                    have HO : Hid (Pn.okCs x = true) := Lib.hid (by unfold Pn.okCs; rw [hv1, hv2]; rfl)
                    go_wp2_with fail
                    refine (plan_within _ _ _ _).mono ?_
                    rintro e w4 ⟨rfl, rfl⟩
                    rw [hv1]
                    go_wp2_with fail
                    refine (plan_within _ _ _ _).mono ?_
                    rintro e w4 ⟨rfl, rfl⟩
                    rw [hv2]
                    go_wp2_with fail
                    go_roundw
                    case rel => exact ⟨k + 1, by omega, by go_num, Lib.hid ⟨KR.out, fun j c hj hc => by
                      by_cases e : j = k
                      · subst e; rw [HX.out] at hc; cases hc; exact HO.out
                      · exact HI.out.2 j c (by omega) hc⟩⟩
                    case measure => simp [intOf]; omega
              · obtain rfl : k = o.cases.length := by omega
                have HN : Hid (true = q) := Lib.hid (HS.out fun j c hc => HI.out.2 j c (List.getElem?_eq_some_iff.1 hc).1 hc)
                go_wp2_with fail
                go_ret
                exact ⟨ret_bool HN.out, HI.out.1⟩
        · have h9' : (o.kind != 9) = true := by simp [h9]
          have HP := Lib.hid (Pn.right_plain hk1 hk9 hw1 hw2 hw3 h9)
          clear h9
          cases hl : decide (o.cases.length = 0) with
          | false =>
            have HN : Hid (false = q) := Lib.hid (by rw [← HQ.out, HP.out, hl]; rfl)
            have hl' : ((o.cases.length : Int) == 0) = false := by simpa using hl
            clear hl
            go_enter Tryd.func21, Tryd.ntmps21
            go_wp2_with fail
            go_quiet ((first | (go_at_call 37; exact quiet_own (plan_hasCh _ _)) | (go_at_call 38; exact quiet_own (plan_hasV _ _)) | (go_at_call 36; exact quiet_own (plan_within _ _ _ _))))
            go_wp2_with fail
            refine (plan_within _ _ _ _).mono ?_
            rintro e w3 ⟨rfl, rfl⟩
            rw [hw3]
            go_wp2_with fail
            all_goals
              go_ret
              exact ⟨ret_bool HN.out, KA.out.drewN _⟩
          | true =>
            have HN : Hid ((!o.els) = q) := Lib.hid (by rw [← HQ.out, HP.out, hl]; rfl)
            have hl' : ((o.cases.length : Int) == 0) = true := by simpa using hl
            clear hl
            go_enter Tryd.func21, Tryd.ntmps21
            go_wp2_with fail
            go_quiet ((first | (go_at_call 37; exact quiet_own (plan_hasCh _ _)) | (go_at_call 38; exact quiet_own (plan_hasV _ _)) | (go_at_call 36; exact quiet_own (plan_within _ _ _ _))))
            go_wp2_with fail
            refine (plan_within _ _ _ _).mono ?_
            rintro e w3 ⟨rfl, rfl⟩
            rw [hw3]
            go_wp2_with fail
            all_goals
              go_ret
              exact ⟨ret_bool HN.out, KA.out.drewN _⟩
end Go.Proofs.YtgjpdogjekmemaaDoor
