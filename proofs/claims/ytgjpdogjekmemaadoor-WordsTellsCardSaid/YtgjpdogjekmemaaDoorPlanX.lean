/-
  plan.Right, the document's Right, and great: contracts.
  Conditions: none.
-/
import Derived.Test.YtgjpdogjekmemaaDoorPlanV
namespace Go.Proofs.YtgjpdogjekmemaaDoor
open Go.RowKit
set_option linter.unusedVariables false
set_option linter.unusedSimpArgs false
set_option linter.unnecessarySimpa false

namespace Pn
theorem ops_bad {l : List Op} {j : Nat} {o : Op} (h : l[j]? = some o) (ho : rightOp o = false) : rightOps l = false := by
  unfold rightOps; rw [decide_eq_false_iff_not]; rintro ⟨_, h2⟩
  have := h2 o (List.mem_of_getElem? h)
  rw [ho] at this; cases this
theorem ops_long {l : List Op} (h : 16 < l.length) : rightOps l = false := by
  unfold rightOps; rw [decide_eq_false_iff_not]; rintro ⟨h1, _⟩; omega
theorem ops_good {l : List Op} (h : l.length ≤ 16) (ho : ∀ (j : Nat) (o : Op), j < l.length → l[j]? = some o → rightOp o = true) : rightOps l = true := by
  unfold rightOps; rw [decide_eq_true_iff]
  refine ⟨h, fun o hm => ?_⟩
  obtain ⟨j, hj, rfl⟩ := List.getElem_of_mem hm
  exact ho j _ hj (List.getElem?_eq_getElem hj)
theorem right_row {p : List (List Op)} {k : Nat} {l : List Op} (h : p[k]? = some l) (hl : rightOps l = false) : right p = false := by
  unfold right; rw [decide_eq_false_iff_not]; rintro ⟨_, _, h2⟩
  have := h2 l (List.mem_of_getElem? h)
  rw [hl] at this; cases this
theorem right_len {p : List (List Op)} (h : p.length < 1 ∨ 8 < p.length) : right p = false := by
  unfold right; rw [decide_eq_false_iff_not]; rintro ⟨h1, h2, _⟩; omega
theorem right_good {p : List (List Op)} (h1 : 1 ≤ p.length) (h2 : p.length ≤ 8) (ho : ∀ (j : Nat) (l : List Op), j < p.length → p[j]? = some l → rightOps l = true) : right p = true := by
  unfold right; rw [decide_eq_true_iff]
  refine ⟨h1, h2, fun o hm => ?_⟩
  obtain ⟨j, hj, rfl⟩ := List.getElem_of_mem hm
  exact ho j _ hj (List.getElem?_eq_getElem hj)
end Pn

set_option maxHeartbeats 1600000 in
theorem plan_right (w : World) (v : Value) (p : List (List Pn.Op)) (S : List Nat) (h : GV opsE 1 w v p S) :
    Calls Tryd.prog 18 #[v] w fun e w' => e = .returned (.bool (Pn.right p)) ∧ Keeps [] w w' := by
  have hle := h.le
  unfold maxLen at hle
  obtain ⟨ao, cap, rfl⟩ := h.shape
  have HP := Lib.hid h
  obtain ⟨q, hq0⟩ : ∃ q, Pn.right p = q := ⟨_, rfl⟩
  rw [hq0]
  have HQ := Lib.hid hq0
  clear h hq0
  by_cases hlen : p.length < 1 ∨ 8 < p.length
  · have HN : Hid (false = q) := Lib.hid (by rw [← HQ.out, Pn.right_len hlen])
    rcases hlen with hl | hl
    · have hl8 : p.length ≤ 8 := by omega
      go_enter Tryd.func18, Tryd.ntmps18
      go_wp2_with fail
      go_ret
      exact ⟨ret_bool HN.out, Keeps.refl _ _⟩
    · have hl1 : 1 ≤ p.length := by omega
      go_enter Tryd.func18, Tryd.ntmps18
      go_wp2_with fail
      go_ret
      exact ⟨ret_bool HN.out, Keeps.refl _ _⟩
  have hl1 : 1 ≤ p.length := by omega
  have hl8 : p.length ≤ 8 := by omega
  clear hlen
  go_enter Tryd.func18, Tryd.ntmps18
  go_wp2_with fail
  go_loopw [17] (fun u wr => ∃ k : Nat, k ≤ p.length ∧ u = .int .i64 k ∧ Hid (Keeps [] w wr ∧ ∀ (j : Nat) (l : List Pn.Op), j < k → p[j]? = some l → Pn.rightOps l = true)) (fun u _ => p.length - (intOf u).toNat)
  case atStart => exact ⟨0, Nat.zero_le _, rfl, Lib.hid ⟨Keeps.refl _ _, fun j l hj => by omega⟩⟩
  case round =>
    obtain ⟨k, hk, rfl, HI⟩ := hrel
    obtain ⟨wo, rfl⟩ : ∃ wo : World, wo = wr := ⟨_, rfl⟩
    by_cases hlt : k < p.length
    · obtain ⟨l, hx⟩ : ∃ l, p[k]? = some l := ⟨_, List.getElem?_eq_getElem hlt⟩
      obtain ⟨g1, off1, _, U1, rfl, _, _, a0, ⟨v1, hv1, hux⟩, _⟩ := (HP.out.then opsE_kept HI.out.1).one hx
      cases hv1
      have hlr := hux.le
      unfold maxLen at hlr
      obtain ⟨am, cm, rfl⟩ := hux.shape
      have HU := Lib.hid hux
      have HX := Lib.hid hx
      clear hx hux
      by_cases h16 : 16 < l.length
      · have HN : Hid (false = q) := Lib.hid (by rw [← HQ.out, Pn.right_row HX.out (Pn.ops_long h16)])
        go_wp2_with fail
        go_ret
        exact ⟨ret_bool HN.out, HI.out.1⟩
      have h16' : l.length ≤ 16 := by omega
      clear h16
      go_wp2_with fail
      go_loopw [26] (fun u wr => ∃ j : Nat, j ≤ l.length ∧ u = .int .i64 j ∧ Hid (Keeps [] w wr ∧ Keeps [] wo wr ∧ ∀ (i : Nat) (o : Pn.Op), i < j → l[i]? = some o → Pn.rightOp o = true)) (fun u _ => l.length - (intOf u).toNat)
      case atStart => exact ⟨0, Nat.zero_le _, rfl, Lib.hid ⟨HI.out.1, Keeps.refl _ _, fun i o hi => by omega⟩⟩
      case round =>
        obtain ⟨j, hj, rfl, HJ⟩ := hrel
        obtain ⟨wi, rfl⟩ : ∃ wi : World, wi = wr := ⟨_, rfl⟩
        by_cases hlt2 : j < l.length
        · obtain ⟨o, ho⟩ : ∃ o, l[j]? = some o := ⟨_, List.getElem?_eq_getElem hlt2⟩
          obtain ⟨g2, off2, vc, U2, rfl, _, _, ⟨b0, b1, b2, b3, b4, b5⟩, hu, _⟩ := (HU.out.then opE_kept HJ.out.2.1).op ho
          obtain ⟨ac, cc, rfl⟩ := hu.shape
          have HO := Lib.hid ho
          have HG := Lib.hid hu
          clear ho hu
          cases hr : Pn.rightOp o with
          | false =>
            have HN : Hid (false = q) := Lib.hid (by rw [← HQ.out, Pn.right_row HX.out (Pn.ops_bad HO.out hr)])
            go_wp2_with fail
            refine (plan_rightOp _ o _ U2 (HG.out.then caseE_kept ((Keeps.refl [] wi).alloc _))).mono ?_
            rintro e w3 ⟨rfl, k3⟩
            rw [hr]
            have K3 := Lib.hid ((HJ.out.1.alloc _).then k3)
            have K4 := Lib.hid ((HJ.out.2.1.alloc _).then k3)
            clear k3
            go_wp2_with fail
            go_ret
            exact ⟨ret_bool HN.out, K3.out⟩
          | true =>
            go_wp2_with fail
            refine (plan_rightOp _ o _ U2 (HG.out.then caseE_kept ((Keeps.refl [] wi).alloc _))).mono ?_
            rintro e w3 ⟨rfl, k3⟩
            rw [hr]
            have K3 := Lib.hid ((HJ.out.1.alloc _).then k3)
            have K4 := Lib.hid ((HJ.out.2.1.alloc _).then k3)
            have HRO := Lib.hid hr
            clear k3 hr
            go_wp2_with fail
            go_roundw
            case rel => exact ⟨j + 1, by omega, by go_num, Lib.hid ⟨K3.out, K4.out, fun i o2 hi h2 => by
              by_cases e : i = j
              · subst e; rw [HO.out] at h2; cases h2; exact HRO.out
              · exact HJ.out.2.2 i o2 (by omega) h2⟩⟩
            case measure => simp [intOf]; omega
        · obtain rfl : j = l.length := by omega
          have HRW : Hid (Pn.rightOps l = true) := Lib.hid (Pn.ops_good h16' HJ.out.2.2)
          go_wp2_with fail
          go_roundw
          case rel => exact ⟨k + 1, by omega, by go_num, Lib.hid ⟨HJ.out.1, fun i l2 hi h2 => by
            by_cases e : i = k
            · subst e; rw [HX.out] at h2; cases h2; exact HRW.out
            · exact HI.out.2 i l2 (by omega) h2⟩⟩
          case measure => simp [intOf]; omega
    · obtain rfl : k = p.length := by omega
      have HN : Hid (true = q) := Lib.hid (by rw [← HQ.out, Pn.right_good hl1 hl8 HI.out.2])
      go_wp2_with fail
      go_ret
      exact ⟨ret_bool HN.out, HI.out.1⟩

set_option maxHeartbeats 1600000 in
theorem ref10_right (w : World) (v : Value) (p : List (List Pn.Op)) (S : List Nat) (h : GV opsE 1 w v p S) :
    Calls Tryd.prog 17 #[v] w fun e w' => e = .returned (.bool (Pn.right p)) ∧ Keeps [] w w' := by
  have hle := h.le
  unfold maxLen at hle
  obtain ⟨ao, cap, rfl⟩ := h.shape
  have HP := Lib.hid h
  obtain ⟨q, hq0⟩ : ∃ q, Pn.right p = q := ⟨_, rfl⟩
  rw [hq0]
  have HQ := Lib.hid hq0
  clear h hq0
  go_enter Tryd.func17, Tryd.ntmps17
  go_wp2_with fail
  go_loopw [9] (fun u wr => ∃ k : Nat, k ≤ p.length ∧ u = .int .i64 k ∧ Hid (Keeps [] w wr ∧ ∀ (j : Nat) (l : List Pn.Op), j < k → p[j]? = some l → Pn.rightOps l = true)) (fun u _ => p.length - (intOf u).toNat)
  case atStart => exact ⟨0, Nat.zero_le _, rfl, Lib.hid ⟨Keeps.refl _ _, fun j l hj => by omega⟩⟩
  case round =>
    obtain ⟨k, hk, rfl, HI⟩ := hrel
    obtain ⟨wo, rfl⟩ : ∃ wo : World, wo = wr := ⟨_, rfl⟩
    by_cases hlt : k < p.length
    · obtain ⟨l, hx⟩ : ∃ l, p[k]? = some l := ⟨_, List.getElem?_eq_getElem hlt⟩
      obtain ⟨g1, off1, _, U1, rfl, _, _, a0, ⟨v1, hv1, hux⟩, _⟩ := (HP.out.then opsE_kept HI.out.1).one hx
      cases hv1
      have hlr := hux.le
      unfold maxLen at hlr
      obtain ⟨am, cm, rfl⟩ := hux.shape
      have HU := Lib.hid hux
      have HX := Lib.hid hx
      clear hx hux
      go_wp2_with fail
      go_loopw [15] (fun u wr => ∃ j : Nat, j ≤ l.length ∧ u = .int .i64 j ∧ Hid (Keeps [] w wr ∧ Keeps [] wo wr ∧ ∀ (i : Nat) (o : Pn.Op), i < j → l[i]? = some o → Pn.rightOp o = true)) (fun u _ => l.length - (intOf u).toNat)
      case atStart => exact ⟨0, Nat.zero_le _, rfl, Lib.hid ⟨HI.out.1, Keeps.refl _ _, fun i o hi => by omega⟩⟩
      case round =>
        obtain ⟨j, hj, rfl, HJ⟩ := hrel
        obtain ⟨wi, rfl⟩ : ∃ wi : World, wi = wr := ⟨_, rfl⟩
        by_cases hlt2 : j < l.length
        · obtain ⟨o, ho⟩ : ∃ o, l[j]? = some o := ⟨_, List.getElem?_eq_getElem hlt2⟩
          obtain ⟨g2, off2, vc, U2, rfl, _, _, ⟨b0, b1, b2, b3, b4, b5⟩, hu, _⟩ := (HU.out.then opE_kept HJ.out.2.1).op ho
          obtain ⟨ac, cc, rfl⟩ := hu.shape
          have HO := Lib.hid ho
          have HG := Lib.hid hu
          clear ho hu
          cases hr : Pn.rightOp o with
          | false =>
            have HN : Hid (false = q) := Lib.hid (by rw [← HQ.out, Pn.right_row HX.out (Pn.ops_bad HO.out hr)])
            go_wp2_with fail
            refine (ref10_rightOp _ o _ U2 (HG.out.then caseE_kept ((Keeps.refl [] wi).alloc _))).mono ?_
            rintro e w3 ⟨rfl, k3⟩
            rw [hr]
            have K3 := Lib.hid ((HJ.out.1.alloc _).then k3)
            have K4 := Lib.hid ((HJ.out.2.1.alloc _).then k3)
            clear k3
            go_wp2_with fail
            go_ret
            exact ⟨ret_bool HN.out, K3.out⟩
          | true =>
            go_wp2_with fail
            refine (ref10_rightOp _ o _ U2 (HG.out.then caseE_kept ((Keeps.refl [] wi).alloc _))).mono ?_
            rintro e w3 ⟨rfl, k3⟩
            rw [hr]
            have K3 := Lib.hid ((HJ.out.1.alloc _).then k3)
            have K4 := Lib.hid ((HJ.out.2.1.alloc _).then k3)
            have HRO := Lib.hid hr
            clear k3 hr
            go_wp2_with fail
            go_roundw
            case rel => exact ⟨j + 1, by omega, by go_num, Lib.hid ⟨K3.out, K4.out, fun i o2 hi h2 => by
              by_cases e : i = j
              · subst e; rw [HO.out] at h2; cases h2; exact HRO.out
              · exact HJ.out.2.2 i o2 (by omega) h2⟩⟩
            case measure => simp [intOf]; omega
        · obtain rfl : j = l.length := by omega
          by_cases h16 : 16 < l.length
          · have HN : Hid (false = q) := Lib.hid (by rw [← HQ.out, Pn.right_row HX.out (Pn.ops_long h16)])
            go_wp2_with fail
            go_ret
            exact ⟨ret_bool HN.out, HJ.out.1⟩
          have h16' : l.length ≤ 16 := by omega
          clear h16
          have HRW : Hid (Pn.rightOps l = true) := Lib.hid (Pn.ops_good h16' HJ.out.2.2)
          go_wp2_with fail
          go_roundw
          case rel => exact ⟨k + 1, by omega, by go_num, Lib.hid ⟨HJ.out.1, fun i l2 hi h2 => by
            by_cases e : i = k
            · subst e; rw [HX.out] at h2; cases h2; exact HRW.out
            · exact HI.out.2 i l2 (by omega) h2⟩⟩
          case measure => simp [intOf]; omega
    · obtain rfl : k = p.length := by omega
      by_cases hlen : p.length < 1 ∨ 8 < p.length
      · have HN : Hid (false = q) := Lib.hid (by rw [← HQ.out, Pn.right_len hlen])
        rcases hlen with hl | hl
        · go_wp2_with fail
          all_goals
            go_ret
            exact ⟨ret_bool (by have h := HN.out; subst h; first | rfl | (simp <;> omega)), HI.out.1⟩
        · have hl1 : 1 ≤ p.length := by omega
          go_wp2_with fail
          all_goals
            go_ret
            exact ⟨ret_bool (by have h := HN.out; subst h; first | rfl | (simp <;> omega)), HI.out.1⟩
      · have hl1 : 1 ≤ p.length := by omega
        have hl8 : p.length ≤ 8 := by omega
        have HN : Hid (true = q) := Lib.hid (by rw [← HQ.out, Pn.right_good hl1 hl8 HI.out.2])
        go_wp2_with fail
        all_goals
          go_ret
          exact ⟨ret_bool (by have h := HN.out; subst h; first | rfl | (simp <;> omega)), HI.out.1⟩

def BoolPost (w : World) (e : Ending) (w' : World) : Prop := ∃ b : Bool, e = .returned (.bool b) ∧ Keeps [] w w'
end Go.Proofs.YtgjpdogjekmemaaDoor
