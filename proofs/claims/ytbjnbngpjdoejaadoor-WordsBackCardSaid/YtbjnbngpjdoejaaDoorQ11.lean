/-
  Texts PlanX Pln NumS WdN WdL of this claim, put together: what they show stands at their heads.
  Conditions: none but those that each theorem states.
-/
import Derived.Test.YtbjnbngpjdoejaaDoorQ10
import Derived.Shelf.Strings.Builder1
import Derived.Shelf.Small.Wraps
import Derived.Shelf.Strconv.Atoi
import Derived.Shelf.Strconv.Itoa0
import Derived.Shelf.Strconv.Itoa1
import Derived.Shelf.LaysM
import Derived.Shelf.Strconv.Itoa2
import Derived.Shelf.Strconv.Itoa3
import Derived.Shelf.Strconv.Itoa4
import Derived.Shelf.Strconv.AtoiErrFast
import Derived.Shelf.Strconv.ParseIntEmpty
import Derived.Shelf.Strconv.AtoiFail
import Derived.Shelf.Strconv.Clone
import Derived.Shelf.Strconv.SyntaxError
import Derived.Shelf.LaysC
import Derived.Shelf.Strconv.ToError
import Derived.Shelf.Strconv.Lower
import Derived.Shelf.Strconv.ParseUint10
import Derived.Shelf.Strconv.ParseUint10Empty
import Derived.Shelf.Strconv.ParseUint10Any
import Derived.Shelf.Strconv.ParseInt10
import Derived.Shelf.Strconv.AtoiLong
import Derived.Shelf.Strconv.AtoiInnerAll
import Derived.Shelf.Strconv.RangeError
import Derived.Shelf.Strconv.ToErrorRange
import Derived.Shelf.Strconv.AtoiAll
import Derived.Shelf.Strconv.ErrVarAll
import Derived.Shelf.Strings.Search1
import Derived.Shelf.Strings.Search2
import Derived.Shelf.Strings.Search3
import Derived.Shelf.Strings.Cut
import Derived.Shelf.Strings.Count
import Derived.Shelf.Strings.Shaped
import Derived.Shelf.Strings.Prefix
import Derived.Shelf.Strings.Split
import Derived.Shelf.Strings.SplitShaped
import Derived.Shelf.Unicode.DecodeSlow
import Derived.Test.YtbjnbngpjdoejaaDoorProg
import Derived.Lib.ItoaLen
namespace Go.Proofs.YtbjnbngpjdoejaaDoor
open Go.RowKit
set_option linter.unusedVariables false
set_option linter.unusedSimpArgs false
set_option linter.unnecessarySimpa false

namespace Pn
theorem ops_bad {l : List Op} {j : Nat} {o : Op} (h : l[j]? = some o) (ho : rightOp o = false) : rightOps l = false := by
  unfold rightOps; rw [decide_eq_false_iff_not]; rintro ⟨_, h2⟩
  have := h2 o (List.mem_of_getElem? h)
  rw [ho] at this; cases this
theorem ops_long {l : List Op} (h : 16 < l.length) : rightOps l = false := by
  unfold rightOps; rw [decide_eq_false_iff_not]; rintro ⟨h1, _⟩; omega
theorem ops_good {l : List Op} (h : l.length ≤ 16) (ho : ∀ (j : Nat) (o : Op), j < l.length → l[j]? = some o → rightOp o = true) : rightOps l = true := by
  unfold rightOps; rw [decide_eq_true_iff]
  refine ⟨h, fun o hm => ?_⟩
  obtain ⟨j, hj, rfl⟩ := List.getElem_of_mem hm
  exact ho j _ hj (List.getElem?_eq_getElem hj)
theorem right_row {p : List (List Op)} {k : Nat} {l : List Op} (h : p[k]? = some l) (hl : rightOps l = false) : right p = false := by
  unfold right; rw [decide_eq_false_iff_not]; rintro ⟨_, _, h2⟩
  have := h2 l (List.mem_of_getElem? h)
  rw [hl] at this; cases this
theorem right_len {p : List (List Op)} (h : p.length < 1 ∨ 8 < p.length) : right p = false := by
  unfold right; rw [decide_eq_false_iff_not]; rintro ⟨h1, h2, _⟩; omega
theorem right_good {p : List (List Op)} (h1 : 1 ≤ p.length) (h2 : p.length ≤ 8) (ho : ∀ (j : Nat) (l : List Op), j < p.length → p[j]? = some l → rightOps l = true) : right p = true := by
  unfold right; rw [decide_eq_true_iff]
  refine ⟨h1, h2, fun o hm => ?_⟩
  obtain ⟨j, hj, rfl⟩ := List.getElem_of_mem hm
  exact ho j _ hj (List.getElem?_eq_getElem hj)
end Pn

set_option maxHeartbeats 1600000 in
theorem plan_right (w : World) (v : Value) (p : List (List Pn.Op)) (S : List Nat) (h : GV opsE 1 w v p S) :
    Calls Tryd.prog 20 #[v] w fun e w' => e = .returned (.bool (Pn.right p)) ∧ Keeps [] w w' := by
  have hle := h.le
  unfold maxLen at hle
  obtain ⟨ao, cap, rfl⟩ := h.shape
  have HP := Lib.hid h
  obtain ⟨q, hq0⟩ : ∃ q, Pn.right p = q := ⟨_, rfl⟩
  rw [hq0]
  have HQ := Lib.hid hq0
  clear h hq0
  by_cases hlen : p.length < 1 ∨ 8 < p.length
  · have HN : Hid (false = q) := Lib.hid (by rw [← HQ.out, Pn.right_len hlen])
    rcases hlen with hl | hl
    · have hl8 : p.length ≤ 8 := by omega
      go_enter Tryd.func20, Tryd.ntmps20
      go_wp2_with fail
      go_ret
      exact ⟨ret_bool HN.out, Keeps.refl _ _⟩
    · have hl1 : 1 ≤ p.length := by omega
      go_enter Tryd.func20, Tryd.ntmps20
      go_wp2_with fail
      go_ret
      exact ⟨ret_bool HN.out, Keeps.refl _ _⟩
  have hl1 : 1 ≤ p.length := by omega
  have hl8 : p.length ≤ 8 := by omega
  clear hlen
  go_enter Tryd.func20, Tryd.ntmps20
  go_wp2_with fail
  go_loopw [17] (fun u wr => ∃ k : Nat, k ≤ p.length ∧ u = .int .i64 k ∧ Hid (Keeps [] w wr ∧ ∀ (j : Nat) (l : List Pn.Op), j < k → p[j]? = some l → Pn.rightOps l = true)) (fun u _ => p.length - (intOf u).toNat)
  case atStart => exact ⟨0, Nat.zero_le _, rfl, Lib.hid ⟨Keeps.refl _ _, fun j l hj => by omega⟩⟩
  case round =>
    obtain ⟨k, hk, rfl, HI⟩ := hrel
    obtain ⟨wo, rfl⟩ : ∃ wo : World, wo = wr := ⟨_, rfl⟩
    by_cases hlt : k < p.length
    · obtain ⟨l, hx⟩ : ∃ l, p[k]? = some l := ⟨_, List.getElem?_eq_getElem hlt⟩
      obtain ⟨g1, off1, _, U1, rfl, _, _, a0, ⟨v1, hv1, hux⟩, _⟩ := (HP.out.then opsE_kept HI.out.1).one hx
      cases hv1
      have hlr := hux.le
      unfold maxLen at hlr
      obtain ⟨am, cm, rfl⟩ := hux.shape
      have HU := Lib.hid hux
      have HX := Lib.hid hx
      clear hx hux
      by_cases h16 : 16 < l.length
      · have HN : Hid (false = q) := Lib.hid (by rw [← HQ.out, Pn.right_row HX.out (Pn.ops_long h16)])
        go_wp2_with fail
        go_ret
        exact ⟨ret_bool HN.out, HI.out.1⟩
      have h16' : l.length ≤ 16 := by omega
      clear h16
      go_wp2_with fail
      go_loopw [26] (fun u wr => ∃ j : Nat, j ≤ l.length ∧ u = .int .i64 j ∧ Hid (Keeps [] w wr ∧ Keeps [] wo wr ∧ ∀ (i : Nat) (o : Pn.Op), i < j → l[i]? = some o → Pn.rightOp o = true)) (fun u _ => l.length - (intOf u).toNat)
      case atStart => exact ⟨0, Nat.zero_le _, rfl, Lib.hid ⟨HI.out.1, Keeps.refl _ _, fun i o hi => by omega⟩⟩
      case round =>
        obtain ⟨j, hj, rfl, HJ⟩ := hrel
        obtain ⟨wi, rfl⟩ : ∃ wi : World, wi = wr := ⟨_, rfl⟩
        by_cases hlt2 : j < l.length
        · obtain ⟨o, ho⟩ : ∃ o, l[j]? = some o := ⟨_, List.getElem?_eq_getElem hlt2⟩
          obtain ⟨g2, off2, vc, U2, rfl, _, _, ⟨b0, b1, b2, b3, b4, b5⟩, hu, _⟩ := (HU.out.then opE_kept HJ.out.2.1).op ho
          obtain ⟨ac, cc, rfl⟩ := hu.shape
          have HO := Lib.hid ho
          have HG := Lib.hid hu
          clear ho hu
          cases hr : Pn.rightOp o with
          | false =>
            have HN : Hid (false = q) := Lib.hid (by rw [← HQ.out, Pn.right_row HX.out (Pn.ops_bad HO.out hr)])
            go_wp2_with fail
            refine (plan_rightOp _ o _ U2 (HG.out.then caseE_kept ((Keeps.refl [] wi).alloc _))).mono ?_
            rintro e w3 ⟨rfl, k3⟩
            rw [hr]
            have K3 := Lib.hid ((HJ.out.1.alloc _).then k3)
            have K4 := Lib.hid ((HJ.out.2.1.alloc _).then k3)
            clear k3
            go_wp2_with fail
            go_ret
            exact ⟨ret_bool HN.out, K3.out⟩
          | true =>
            go_wp2_with fail
            refine (plan_rightOp _ o _ U2 (HG.out.then caseE_kept ((Keeps.refl [] wi).alloc _))).mono ?_
            rintro e w3 ⟨rfl, k3⟩
            rw [hr]
            have K3 := Lib.hid ((HJ.out.1.alloc _).then k3)
            have K4 := Lib.hid ((HJ.out.2.1.alloc _).then k3)
            have HRO := Lib.hid hr
            clear k3 hr
            go_wp2_with fail
            go_roundw
            case rel => exact ⟨j + 1, by omega, by go_num, Lib.hid ⟨K3.out, K4.out, fun i o2 hi h2 => by
              by_cases e : i = j
              · subst e; rw [HO.out] at h2; cases h2; exact HRO.out
              · exact HJ.out.2.2 i o2 (by omega) h2⟩⟩
            case measure => simp [intOf]; omega
        · obtain rfl : j = l.length := by omega
          have HRW : Hid (Pn.rightOps l = true) := Lib.hid (Pn.ops_good h16' HJ.out.2.2)
          go_wp2_with fail
          go_roundw
          case rel => exact ⟨k + 1, by omega, by go_num, Lib.hid ⟨HJ.out.1, fun i l2 hi h2 => by
            by_cases e : i = k
            · subst e; rw [HX.out] at h2; cases h2; exact HRW.out
            · exact HI.out.2 i l2 (by omega) h2⟩⟩
          case measure => simp [intOf]; omega
    · obtain rfl : k = p.length := by omega
      have HN : Hid (true = q) := Lib.hid (by rw [← HQ.out, Pn.right_good hl1 hl8 HI.out.2])
      go_wp2_with fail
      go_ret
      exact ⟨ret_bool HN.out, HI.out.1⟩

set_option maxHeartbeats 1600000 in
theorem ref10_right (w : World) (v : Value) (p : List (List Pn.Op)) (S : List Nat) (h : GV opsE 1 w v p S) :
    Calls Tryd.prog 10 #[v] w fun e w' => e = .returned (.bool (Pn.right p)) ∧ Keeps [] w w' := by
  have hle := h.le
  unfold maxLen at hle
  obtain ⟨ao, cap, rfl⟩ := h.shape
  have HP := Lib.hid h
  obtain ⟨q, hq0⟩ : ∃ q, Pn.right p = q := ⟨_, rfl⟩
  rw [hq0]
  have HQ := Lib.hid hq0
  clear h hq0
  go_enter Tryd.func10, Tryd.ntmps10
  go_wp2_with fail
  go_loopw [9] (fun u wr => ∃ k : Nat, k ≤ p.length ∧ u = .int .i64 k ∧ Hid (Keeps [] w wr ∧ ∀ (j : Nat) (l : List Pn.Op), j < k → p[j]? = some l → Pn.rightOps l = true)) (fun u _ => p.length - (intOf u).toNat)
  case atStart => exact ⟨0, Nat.zero_le _, rfl, Lib.hid ⟨Keeps.refl _ _, fun j l hj => by omega⟩⟩
  case round =>
    obtain ⟨k, hk, rfl, HI⟩ := hrel
    obtain ⟨wo, rfl⟩ : ∃ wo : World, wo = wr := ⟨_, rfl⟩
    by_cases hlt : k < p.length
    · obtain ⟨l, hx⟩ : ∃ l, p[k]? = some l := ⟨_, List.getElem?_eq_getElem hlt⟩
      obtain ⟨g1, off1, _, U1, rfl, _, _, a0, ⟨v1, hv1, hux⟩, _⟩ := (HP.out.then opsE_kept HI.out.1).one hx
      cases hv1
      have hlr := hux.le
      unfold maxLen at hlr
      obtain ⟨am, cm, rfl⟩ := hux.shape
      have HU := Lib.hid hux
      have HX := Lib.hid hx
      clear hx hux
      go_wp2_with fail
      go_loopw [15] (fun u wr => ∃ j : Nat, j ≤ l.length ∧ u = .int .i64 j ∧ Hid (Keeps [] w wr ∧ Keeps [] wo wr ∧ ∀ (i : Nat) (o : Pn.Op), i < j → l[i]? = some o → Pn.rightOp o = true)) (fun u _ => l.length - (intOf u).toNat)
      case atStart => exact ⟨0, Nat.zero_le _, rfl, Lib.hid ⟨HI.out.1, Keeps.refl _ _, fun i o hi => by omega⟩⟩
      case round =>
        obtain ⟨j, hj, rfl, HJ⟩ := hrel
        obtain ⟨wi, rfl⟩ : ∃ wi : World, wi = wr := ⟨_, rfl⟩
        by_cases hlt2 : j < l.length
        · obtain ⟨o, ho⟩ : ∃ o, l[j]? = some o := ⟨_, List.getElem?_eq_getElem hlt2⟩
          obtain ⟨g2, off2, vc, U2, rfl, _, _, ⟨b0, b1, b2, b3, b4, b5⟩, hu, _⟩ := (HU.out.then opE_kept HJ.out.2.1).op ho
          obtain ⟨ac, cc, rfl⟩ := hu.shape
          have HO := Lib.hid ho
          have HG := Lib.hid hu
          clear ho hu
          cases hr : Pn.rightOp o with
          | false =>
            have HN : Hid (false = q) := Lib.hid (by rw [← HQ.out, Pn.right_row HX.out (Pn.ops_bad HO.out hr)])
            go_wp2_with fail
            refine (ref10_rightOp _ o _ U2 (HG.out.then caseE_kept ((Keeps.refl [] wi).alloc _))).mono ?_
            rintro e w3 ⟨rfl, k3⟩
            rw [hr]
            have K3 := Lib.hid ((HJ.out.1.alloc _).then k3)
            have K4 := Lib.hid ((HJ.out.2.1.alloc _).then k3)
            clear k3
            go_wp2_with fail
            go_ret
            exact ⟨ret_bool HN.out, K3.out⟩
          | true =>
            go_wp2_with fail
            refine (ref10_rightOp _ o _ U2 (HG.out.then caseE_kept ((Keeps.refl [] wi).alloc _))).mono ?_
            rintro e w3 ⟨rfl, k3⟩
            rw [hr]
            have K3 := Lib.hid ((HJ.out.1.alloc _).then k3)
            have K4 := Lib.hid ((HJ.out.2.1.alloc _).then k3)
            have HRO := Lib.hid hr
            clear k3 hr
            go_wp2_with fail
            go_roundw
            case rel => exact ⟨j + 1, by omega, by go_num, Lib.hid ⟨K3.out, K4.out, fun i o2 hi h2 => by
              by_cases e : i = j
              · subst e; rw [HO.out] at h2; cases h2; exact HRO.out
              · exact HJ.out.2.2 i o2 (by omega) h2⟩⟩
            case measure => simp [intOf]; omega
        · obtain rfl : j = l.length := by omega
          by_cases h16 : 16 < l.length
          · have HN : Hid (false = q) := Lib.hid (by rw [← HQ.out, Pn.right_row HX.out (Pn.ops_long h16)])
            go_wp2_with fail
            go_ret
            exact ⟨ret_bool HN.out, HJ.out.1⟩
          have h16' : l.length ≤ 16 := by omega
          clear h16
          have HRW : Hid (Pn.rightOps l = true) := Lib.hid (Pn.ops_good h16' HJ.out.2.2)
          go_wp2_with fail
          go_roundw
          case rel => exact ⟨k + 1, by omega, by go_num, Lib.hid ⟨HJ.out.1, fun i l2 hi h2 => by
            by_cases e : i = k
            · subst e; rw [HX.out] at h2; cases h2; exact HRW.out
            · exact HI.out.2 i l2 (by omega) h2⟩⟩
          case measure => simp [intOf]; omega
    · obtain rfl : k = p.length := by omega
      by_cases hlen : p.length < 1 ∨ 8 < p.length
      · have HN : Hid (false = q) := Lib.hid (by rw [← HQ.out, Pn.right_len hlen])
        rcases hlen with hl | hl
        · go_wp2_with fail
          all_goals
            go_ret
            exact ⟨ret_bool (by have h := HN.out; subst h; first | rfl | (simp <;> omega)), HI.out.1⟩
        · have hl1 : 1 ≤ p.length := by omega
          go_wp2_with fail
          all_goals
            go_ret
            exact ⟨ret_bool (by have h := HN.out; subst h; first | rfl | (simp <;> omega)), HI.out.1⟩
      · have hl1 : 1 ≤ p.length := by omega
        have hl8 : p.length ≤ 8 := by omega
        have HN : Hid (true = q) := Lib.hid (by rw [← HQ.out, Pn.right_good hl1 hl8 HI.out.2])
        go_wp2_with fail
        all_goals
          go_ret
          exact ⟨ret_bool (by have h := HN.out; subst h; first | rfl | (simp <;> omega)), HI.out.1⟩

def BoolPost (w : World) (e : Ending) (w' : World) : Prop := ∃ b : Bool, e = .returned (.bool b) ∧ Keeps [] w w'
end Go.Proofs.YtbjnbngpjdoejaaDoor
namespace Go.Proofs.YtbjnbngpjdoejaaDoor
open Go.RowKit
set_option linter.unusedVariables false
set_option linter.unusedSimpArgs false
set_option linter.unnecessarySimpa false
namespace Fl
section
variable {P : Program} {F : FuncId} {ds : List D}
theorem RDs.nil_ {ok : Nat → Prop} {w : World} {xs : List Value} (h : RDs ok w [] xs) : xs = [] := by unfold RDs at h; exact h
theorem Con.plain {d : D} (h : ∀ ok e xs, RDs ok e ds xs → Calls P F xs.toArray e fun en w' => ∃ x, en = .returned x ∧ Keeps [] e w' ∧ RD (fun g => ok g ∨ e.heap.size ≤ g) w' d x) : Pure P F ds d := ⟨fun ok e xs hd _ _ _ => by
  refine Calls.mono (h ok e xs hd) ?_
  rintro en w' ⟨x, rfl, kp, hx⟩
  refine ⟨(), x, rfl, by simpa [foots] using kp, by simp [foots], List.Pairwise.nil, by simp, ?_⟩
  have : okr ok e [] [] = fun g => ok g ∨ e.heap.size ≤ g := by
    funext g; unfold okr; simp [foots]
  rw [this]; exact hx⟩
end
def opsA (p : List (List Pn.Op)) : A := .r 1 (p.map fun ops => [.r 6 (ops.map eOp)])
section
variable {α : Type} {E : World → List Value → α → List Nat → Prop} {enc : α → List A}
def Is (enc : α → List A) (E : World → List Value → α → List Nat → Prop) : Prop :=
  ∀ (ok : Nat → Prop) (w : World) (cs : List Value) (a : α), RC ok w (enc a) cs → ∃ U, E w cs a U ∧ ∀ x ∈ U, ok x ∧ x < w.heap.size
theorem Is.parts (h : Is enc E) {ok : Nat → Prop} {w : World} {sz : Nat} : ∀ {l : List α} {xs : List Value}, RX ok w sz (l.map enc) xs → ∃ S, Parts E sz w xs l S ∧ ∀ x ∈ S, ok x ∧ x < w.heap.size
  | [], xs, r => ⟨[], fun k a hk => by simp at hk, by simp⟩
  | a :: l, xs, r => by
    obtain ⟨vs, ys, rfl, h2, h3, h4⟩ := r
    obtain ⟨U, u1, u2⟩ := h ok w vs a h3
    obtain ⟨S, s1, s2⟩ := Is.parts h h4
    refine ⟨U ++ S, fun k b hk => ?_, fun x hx => (List.mem_append.1 hx).elim (u2 x) (s2 x)⟩
    cases k with
    | zero =>
      simp at hk; subst hk
      refine ⟨U, ?_, fun x hx => List.mem_append_left _ hx⟩
      have : chunk (vs ++ ys) sz 0 = vs := by unfold chunk; simp [← h2]
      rw [this]; exact u1
    | succ k =>
      simp at hk
      obtain ⟨V, v1, v2⟩ := s1 k b hk
      refine ⟨V, ?_, fun x hx => List.mem_append_right _ (v2 x hx)⟩
      have : chunk (vs ++ ys) sz (k + 1) = chunk ys sz k := by
        unfold chunk
        rw [show (k + 1) * sz = vs.length + k * sz by rw [h2, Nat.add_mul]; omega, List.drop_length_add_append]
      rw [this]; exact v1
theorem RA.blk {ok : Nat → Prop} {w : World} {sz : Nat} {l : List (List A)} {x : Value} (h : RA ok w (.r sz l) x) : ∃ ys S, View w x sz l.length ys S ∧ RX ok w sz l ys ∧ ∀ g ∈ S, ok g ∧ g < w.heap.size := by
  obtain ⟨ys, S, v1, v2, v3⟩ := h.view
  exact ⟨ys, S, v1, v2, fun g hg => ⟨v3 g hg, v1.lt g hg⟩⟩
theorem Is.gv (h : Is enc E) {ok : Nat → Prop} {w : World} {sz : Nat} {l : List α} {v : Value} (r : RA ok w (.r sz (l.map enc)) v) : ∃ S, GV E sz w v l S ∧ ∀ x ∈ S, ok x ∧ x < w.heap.size := by
  obtain ⟨ys, T, v1, v2, v3⟩ := r.blk
  rw [List.length_map] at v1
  obtain ⟨S, s1, s2⟩ := h.parts v2
  exact ⟨T ++ S, ⟨ys, T, v1, s1.mono fun x hx => List.mem_append_right _ hx, fun x hx => List.mem_append_left _ hx, fun x hx => (List.mem_append.1 hx).elim (fun h => (v3 x h).2) (fun h => (s2 x h).2), v2.one⟩, fun x hx => (List.mem_append.1 hx).elim (v3 x) (s2 x)⟩
theorem Is.row (h : Is enc E) {sz : Nat} : Is (fun l : List α => [A.r sz (l.map enc)]) (rowE E sz) := fun ok w cs l r => by
  unfold RC at r
  obtain ⟨x, xs, rfl, r1, r2⟩ := r
  unfold RC at r2
  subst r2
  obtain ⟨S, s1, s2⟩ := h.gv r1
  exact ⟨S, ⟨x, rfl, s1⟩, s2⟩
end
theorem RC.c1 {ok : Nat → Prop} {w : World} {v : Value} {as_ : List A} {cs : List Value} (h : RC ok w (.v v :: as_) cs) : ∃ ys, cs = v :: ys ∧ RC ok w as_ ys := by
  unfold RC at h
  obtain ⟨x, xs, rfl, h1, h2⟩ := h
  unfold RA at h1
  exact ⟨xs, by rw [h1.1], h2⟩
theorem RC.n0 {ok : Nat → Prop} {w : World} {cs : List Value} (h : RC ok w [] cs) : cs = [] := by unfold RC at h; exact h
theorem is_num : Is (fun n : Int => [nI n]) rawE := fun ok w cs n r => by
  obtain ⟨ys, e1, r1⟩ := RC.c1 (as_ := []) r
  have e2 := r1.n0
  subst e2
  exact ⟨[], ⟨e1, rfl⟩, by simp⟩
theorem is_case : Is eCs caseE := fun ok w cs c r => by
  obtain ⟨y1, e1, r1⟩ := RC.c1 (as_ := [nI c.ch, nI c.v]) r
  obtain ⟨y2, e2, r2⟩ := r1.c1
  obtain ⟨y3, e3, r3⟩ := r2.c1
  have e4 := r3.n0
  subst e4 e3 e2
  exact ⟨[], ⟨e1, rfl⟩, by simp⟩
theorem is_op : Is eOp opE := fun ok w cs o r => by
  obtain ⟨y1, e1, r1⟩ := RC.c1 (as_ := [nI o.ch, nI o.n, nI o.v, .r 3 (o.cases.map eCs), bI o.els]) r
  obtain ⟨y2, e2, r2⟩ := r1.c1
  obtain ⟨y3, e3, r3⟩ := r2.c1
  obtain ⟨y4, e4, r4⟩ := r3.c1
  unfold RC at r4
  obtain ⟨x, y5, e5, r5, r6⟩ := r4
  obtain ⟨y6, e6, r7⟩ := r6.c1
  have e7 := r7.n0
  obtain ⟨S, s1, s2⟩ := is_case.gv r5
  subst e7 e6 e5 e4 e3 e2
  exact ⟨S, ⟨x, e1, s1⟩, s2⟩
theorem is_ops : Is (fun l : List Pn.Op => [A.r 6 (l.map eOp)]) opsE := is_op.row
theorem gv_plan {ok : Nat → Prop} {w : World} {p : List (List Pn.Op)} {v : Value} (r : RA ok w (opsA p) v) : ∃ S, GV opsE 1 w v p S ∧ ∀ x ∈ S, ok x ∧ x < w.heap.size := is_ops.gv r
theorem RDs.c {ok : Nat → Prop} {w : World} {a : A} {ds : List D} {xs : List Value} (h : RDs ok w (.c a :: ds) xs) : ∃ x ys, xs = x :: ys ∧ RA ok w a x ∧ RDs ok w ds ys := by
  unfold RDs at h
  obtain ⟨x, ys, rfl, h1, h2⟩ := h
  unfold RD at h1
  exact ⟨x, ys, rfl, h1, h2⟩
set_option maxHeartbeats 2000000 in
theorem c_wRight (p : List (List Pn.Op)) : Pure Tryd.prog 20 [.c (opsA p)] (.c (bI (Pn.right p))) :=
  Con.plain fun ok e xs hd => by
    obtain ⟨v, ys, rfl, r, h⟩ := hd.c
    rw [h.nil_]
    obtain ⟨S, s1, s2⟩ := gv_plan r
    refine (plan_right e v p S s1).mono ?_
    rintro en w' ⟨rfl, k⟩
    exact ⟨_, rfl, k, RD.v rfl⟩
set_option maxHeartbeats 2000000 in
theorem c_right10 (p : List (List Pn.Op)) : Pure Tryd.prog 10 [.c (opsA p)] (.c (bI (Pn.right p))) :=
  Con.plain fun ok e xs hd => by
    obtain ⟨v, ys, rfl, r, h⟩ := hd.c
    rw [h.nil_]
    obtain ⟨S, s1, s2⟩ := gv_plan r
    refine (ref10_right e v p S s1).mono ?_
    rintro en w' ⟨rfl, k⟩
    exact ⟨_, rfl, k, RD.v rfl⟩
theorem RDs.ag {ok : Nat → Prop} {w : World} {as_ : List A} {ds : List D} {xs : List Value} (h : RDs ok w (.agg as_ :: ds) xs) : ∃ (vs : List Value) (ys : List Value), xs = .agg vs.toArray :: ys ∧ RC ok w as_ vs ∧ RDs ok w ds ys := by
  unfold RDs at h
  obtain ⟨x, ys, rfl, h1, h2⟩ := h
  unfold RD at h1
  obtain ⟨vs, rfl, h1⟩ := h1
  exact ⟨vs, ys, rfl, h1, h2⟩
theorem op_cells {ok : Nat → Prop} {w : World} {o : Pn.Op} {vs : List Value} (r : RC ok w (eOp o) vs) : ∃ va U, vs = [.int .i64 o.kind, .int .i64 o.ch, .int .i64 o.n, .int .i64 o.v, va, .bool o.els] ∧ GV caseE 3 w va o.cases U := by
  obtain ⟨U, ⟨va, h1, h2⟩, _⟩ := is_op ok w vs o r
  exact ⟨va, U, h1, h2⟩
set_option maxHeartbeats 2000000 in
theorem c_wRightOp (o : Pn.Op) : Pure Tryd.prog 23 [.agg (eOp o)] (.c (bI (Pn.rightOp o))) :=
  Con.plain fun ok e xs hd => by
    obtain ⟨vs, ys, rfl, r, h⟩ := hd.ag
    rw [h.nil_]
    obtain ⟨va, U, rfl, g⟩ := op_cells r
    refine (plan_rightOp e o va U g).mono ?_
    rintro en w' ⟨rfl, k⟩
    exact ⟨_, rfl, k, RD.v rfl⟩
set_option maxHeartbeats 2000000 in
theorem c_rightOp10 (o : Pn.Op) : Pure Tryd.prog 19 [.agg (eOp o)] (.c (bI (Pn.rightOp o))) :=
  Con.plain fun ok e xs hd => by
    obtain ⟨vs, ys, rfl, r, h⟩ := hd.ag
    rw [h.nil_]
    obtain ⟨va, U, rfl, g⟩ := op_cells r
    refine (ref10_rightOp e o va U g).mono ?_
    rintro en w' ⟨rfl, k⟩
    exact ⟨_, rfl, k, RD.v rfl⟩
end Fl
end Go.Proofs.YtbjnbngpjdoejaaDoor
set_option linter.unusedVariables false
set_option linter.unusedSimpArgs false
set_option linter.unnecessarySimpa false
namespace Go.Proofs
open Go.Shelf
def Tryd.lays103_ren : Go.Shelf.Ren := ⟨fun | 103 => 30 | 210 => 44 | 206 => 53 | n => n, fun | 9 => 9 | 4 => 4 | 24 => 65 | 3 => 3 | n => n, fun | n => n⟩
theorem Tryd.lays103 : Go.Proofs.Lays.n103 Tryd.prog Tryd.lays103_ren := {
  mixed := by kernel_rfl
  f103 := Tryd.func30.trans (congrArg some (by kernel_rfl))
  f206 := Tryd.func53.trans (congrArg some (by kernel_rfl))
  f210 := Tryd.func44.trans (congrArg some (by kernel_rfl))
  t3 := Tryd.underlying3
  a3 := Tryd.isAgg3
  z3 := Tryd.sizeOf3
  v3 := Tryd.zeroValue3
  t4 := Tryd.underlying4
  a4 := Tryd.isAgg4
  z4 := Tryd.sizeOf4
  v4 := Tryd.zeroValue4
  t9 := Tryd.underlying9
  a9 := Tryd.isAgg9
  z9 := Tryd.sizeOf9
  v9 := Tryd.zeroValue9
  t24 := Tryd.underlying65
  a24 := Tryd.isAgg65
  z24 := Tryd.sizeOf65
  v24 := Tryd.zeroValue65 }
open Go.RowKit in
theorem Tryd.strings_CutPrefix (s p : ByteArray) (w : World) :
    Calls Tryd.prog 30 #[.string s, .string p] w fun e w' => e = .returned (.tuple #[.string ⟨(Lib.trimPrefix s.data.toList p.data.toList).toArray⟩, .bool (Lib.hasPrefix s.data.toList p.data.toList)]) ∧ w' = w := Any.strings_CutPrefix Tryd.lays103 s p w
def Tryd.laysM173_ren : Go.Shelf.Ren := ⟨fun | 173 => 42 | 246 => 51 | 283 => 58 | 284 => 59 | 285 => 60 | 286 => 61 | 129 => 75 | 317 => 74 | 318 => 76 | 319 => 77 | 320 => 78 | 337 => 88 | 338 => 89 | n => n, fun | 2 => 2 | 3 => 3 | 9 => 9 | 4 => 4 | 171 => 92 | 0 => 0 | 53 => 93 | 37 => 51 | 5 => 5 | 173 => 96 | 212 => 109 | 51 => 110 | 20 => 20 | 213 => 111 | 46 => 100 | 232 => 128 | 233 => 129 | n => n, fun | 17 => 1 | 18 => 4 | 19 => 5 | n => n⟩
theorem Tryd.laysM173 : Go.Proofs.LaysM.n173 Tryd.prog Tryd.laysM173_ren := {
  mixed := by kernel_rfl
  f129 := Tryd.func75.trans (congrArg some (by kernel_rfl))
  f173 := Tryd.func42.trans (congrArg some (by kernel_rfl))
  f246 := Tryd.func51.trans (congrArg some (by kernel_rfl))
  f283 := Tryd.func58.trans (congrArg some (by kernel_rfl))
  f284 := Tryd.func59.trans (congrArg some (by kernel_rfl))
  f285 := Tryd.func60.trans (congrArg some (by kernel_rfl))
  f286 := Tryd.func61.trans (congrArg some (by kernel_rfl))
  f317 := Tryd.func74.trans (congrArg some (by kernel_rfl))
  f318 := Tryd.func76.trans (congrArg some (by kernel_rfl))
  f319 := Tryd.func77.trans (congrArg some (by kernel_rfl))
  f320 := Tryd.func78.trans (congrArg some (by kernel_rfl))
  f337 := Tryd.func88.trans (congrArg some (by kernel_rfl))
  f338 := Tryd.func89.trans (congrArg some (by kernel_rfl))
  t0 := Tryd.underlying0
  a0 := Tryd.isAgg0
  z0 := Tryd.sizeOf0
  v0 := Tryd.zeroValue0
  t2 := Tryd.underlying2
  a2 := Tryd.isAgg2
  z2 := Tryd.sizeOf2
  v2 := Tryd.zeroValue2
  t3 := Tryd.underlying3
  a3 := Tryd.isAgg3
  z3 := Tryd.sizeOf3
  v3 := Tryd.zeroValue3
  t4 := Tryd.underlying4
  a4 := Tryd.isAgg4
  z4 := Tryd.sizeOf4
  v4 := Tryd.zeroValue4
  t5 := Tryd.underlying5
  a5 := Tryd.isAgg5
  z5 := Tryd.sizeOf5
  v5 := Tryd.zeroValue5
  t9 := Tryd.underlying9
  a9 := Tryd.isAgg9
  z9 := Tryd.sizeOf9
  v9 := Tryd.zeroValue9
  t20 := Tryd.underlying20
  a20 := Tryd.isAgg20
  z20 := Tryd.sizeOf20
  v20 := Tryd.zeroValue20
  t37 := Tryd.underlying51
  a37 := Tryd.isAgg51
  z37 := Tryd.sizeOf51
  v37 := Tryd.zeroValue51
  t46 := Tryd.underlying100
  a46 := Tryd.isAgg100
  z46 := Tryd.sizeOf100
  v46 := Tryd.zeroValue100
  t51 := Tryd.underlying110
  a51 := Tryd.isAgg110
  z51 := Tryd.sizeOf110
  v51 := Tryd.zeroValue110
  t53 := Tryd.underlying93
  a53 := Tryd.isAgg93
  z53 := Tryd.sizeOf93
  v53 := Tryd.zeroValue93
  t171 := Tryd.underlying92
  a171 := Tryd.isAgg92
  z171 := Tryd.sizeOf92
  v171 := Tryd.zeroValue92
  t173 := Tryd.underlying96
  a173 := Tryd.isAgg96
  z173 := Tryd.sizeOf96
  v173 := Tryd.zeroValue96
  t212 := Tryd.underlying109
  a212 := Tryd.isAgg109
  z212 := Tryd.sizeOf109
  v212 := Tryd.zeroValue109
  t213 := Tryd.underlying111
  a213 := Tryd.isAgg111
  z213 := Tryd.sizeOf111
  t232 := Tryd.underlying128
  a232 := Tryd.isAgg128
  z232 := Tryd.sizeOf128
  v232 := Tryd.zeroValue128
  t233 := Tryd.underlying129
  a233 := Tryd.isAgg129
  z233 := Tryd.sizeOf129
  v233 := Tryd.zeroValue129
  g17 := by kernel_rfl
  g18 := by kernel_rfl
  g19 := by kernel_rfl
  i0 := by kernel_rfl
  i2 := by kernel_rfl
  i3 := by kernel_rfl
  i4 := by kernel_rfl
  i5 := by kernel_rfl
  i9 := by kernel_rfl
  i20 := by kernel_rfl
  i37 := by kernel_rfl
  i46 := by kernel_rfl
  i51 := by kernel_rfl
  i53 := by kernel_rfl
  i171 := by kernel_rfl
  i173 := by kernel_rfl
  i212 := by kernel_rfl
  i232 := by kernel_rfl
  i233 := by kernel_rfl
  m17 := by kernel_rfl
  m18 := by kernel_rfl
  m19 := by kernel_rfl }
open Go.RowKit Go.Sort Go.Lib in
theorem Tryd.strconv_FormatInt_10 (n : Int) (h0 : -9223372036854775808 ≤ n) (h1 : n ≤ 9223372036854775807) (w : World) (htab : Lib.TabIs Tryd.prog w "internal/strconv.uint64pow10" .u64 Lib.pow10Tab) :
    Calls Tryd.prog 42 #[.int .i64 n, .int .i64 10] w fun e w' => e = .returned (.string ⟨(Lib.itoa n).toArray⟩) ∧ ∃ k os, w' = grow (w.drewN k) os := Any.strconv_FormatInt_10 Tryd.laysM173 n h0 h1 w htab
def Tryd.laysC172_ren : Go.Shelf.Ren := ⟨fun | 172 => 46 | 244 => 55 | 245 => 56 | 247 => 69 | 279 => 70 | 280 => 71 | 281 => 72 | 282 => 73 | 287 => 84 | 316 => 85 | 171 => 87 | 205 => 86 | 321 => 91 | 322 => 92 | 243 => 93 | 246 => 51 | 283 => 58 | 284 => 59 | 285 => 60 | 286 => 61 | 129 => 75 | 317 => 74 | 318 => 76 | 319 => 77 | 320 => 78 | 337 => 88 | 338 => 89 | n => n, fun | 9 => 9 | 3 => 3 | 75 => 55 | 76 => 56 | 4 => 4 | 5 => 5 | 167 => 102 | 37 => 51 | 0 => 0 | 85 => 103 | 2 => 2 | 168 => 105 | 53 => 93 | 175 => 117 | 46 => 100 | 210 => 121 | 127 => 76 | 145 => 127 | 143 => 125 | 21 => 21 | 171 => 92 | 173 => 96 | 212 => 109 | 51 => 110 | 20 => 20 | 213 => 111 | 232 => 128 | 233 => 129 | 80 => 58 | n => n, fun | 15 => 2 | 16 => 3 | 17 => 1 | 18 => 4 | 19 => 5 | n => n⟩
theorem Tryd.laysC172 : Go.Proofs.LaysC.n172 Tryd.prog Tryd.laysC172_ren := {
  mixed := by kernel_rfl
  f129 := Tryd.func75.trans (congrArg some (by kernel_rfl))
  f171 := Tryd.func87.trans (congrArg some (by kernel_rfl))
  f172 := Tryd.func46.trans (congrArg some (by kernel_rfl))
  f205 := Tryd.func86.trans (congrArg some (by kernel_rfl))
  f243 := Tryd.func93.trans (congrArg some (by kernel_rfl))
  f244 := Tryd.func55.trans (congrArg some (by kernel_rfl))
  f245 := Tryd.func56.trans (congrArg some (by kernel_rfl))
  f246 := Tryd.func51.trans (congrArg some (by kernel_rfl))
  f247 := Tryd.func69.trans (congrArg some (by kernel_rfl))
  f279 := Tryd.func70.trans (congrArg some (by kernel_rfl))
  f280 := Tryd.func71.trans (congrArg some (by kernel_rfl))
  f281 := Tryd.func72.trans (congrArg some (by kernel_rfl))
  f282 := Tryd.func73.trans (congrArg some (by kernel_rfl))
  f283 := Tryd.func58.trans (congrArg some (by kernel_rfl))
  f284 := Tryd.func59.trans (congrArg some (by kernel_rfl))
  f285 := Tryd.func60.trans (congrArg some (by kernel_rfl))
  f286 := Tryd.func61.trans (congrArg some (by kernel_rfl))
  f287 := Tryd.func84.trans (congrArg some (by kernel_rfl))
  f316 := Tryd.func85.trans (congrArg some (by kernel_rfl))
  f317 := Tryd.func74.trans (congrArg some (by kernel_rfl))
  f318 := Tryd.func76.trans (congrArg some (by kernel_rfl))
  f319 := Tryd.func77.trans (congrArg some (by kernel_rfl))
  f320 := Tryd.func78.trans (congrArg some (by kernel_rfl))
  f321 := Tryd.func91.trans (congrArg some (by kernel_rfl))
  f322 := Tryd.func92.trans (congrArg some (by kernel_rfl))
  f337 := Tryd.func88.trans (congrArg some (by kernel_rfl))
  f338 := Tryd.func89.trans (congrArg some (by kernel_rfl))
  t0 := Tryd.underlying0
  a0 := Tryd.isAgg0
  z0 := Tryd.sizeOf0
  v0 := Tryd.zeroValue0
  t2 := Tryd.underlying2
  a2 := Tryd.isAgg2
  z2 := Tryd.sizeOf2
  v2 := Tryd.zeroValue2
  t3 := Tryd.underlying3
  a3 := Tryd.isAgg3
  z3 := Tryd.sizeOf3
  v3 := Tryd.zeroValue3
  t4 := Tryd.underlying4
  a4 := Tryd.isAgg4
  z4 := Tryd.sizeOf4
  v4 := Tryd.zeroValue4
  t5 := Tryd.underlying5
  a5 := Tryd.isAgg5
  z5 := Tryd.sizeOf5
  v5 := Tryd.zeroValue5
  t9 := Tryd.underlying9
  a9 := Tryd.isAgg9
  z9 := Tryd.sizeOf9
  v9 := Tryd.zeroValue9
  t20 := Tryd.underlying20
  a20 := Tryd.isAgg20
  z20 := Tryd.sizeOf20
  v20 := Tryd.zeroValue20
  t21 := Tryd.underlying21
  a21 := Tryd.isAgg21
  z21 := Tryd.sizeOf21
  v21 := Tryd.zeroValue21
  t37 := Tryd.underlying51
  a37 := Tryd.isAgg51
  z37 := Tryd.sizeOf51
  v37 := Tryd.zeroValue51
  t46 := Tryd.underlying100
  a46 := Tryd.isAgg100
  z46 := Tryd.sizeOf100
  v46 := Tryd.zeroValue100
  t51 := Tryd.underlying110
  a51 := Tryd.isAgg110
  z51 := Tryd.sizeOf110
  v51 := Tryd.zeroValue110
  t53 := Tryd.underlying93
  a53 := Tryd.isAgg93
  z53 := Tryd.sizeOf93
  v53 := Tryd.zeroValue93
  t75 := Tryd.underlying55
  a75 := Tryd.isAgg55
  z75 := Tryd.sizeOf55
  v75 := Tryd.zeroValue55
  t76 := Tryd.underlying56
  a76 := Tryd.isAgg56
  z76 := Tryd.sizeOf56
  v76 := Tryd.zeroValue56
  t85 := Tryd.underlying103
  a85 := Tryd.isAgg103
  z85 := Tryd.sizeOf103
  v85 := Tryd.zeroValue103
  t127 := Tryd.underlying76
  a127 := Tryd.isAgg76
  z127 := Tryd.sizeOf76
  v127 := Tryd.zeroValue76
  t143 := Tryd.underlying125
  a143 := Tryd.isAgg125
  z143 := Tryd.sizeOf125
  v143 := Tryd.zeroValue125
  t145 := Tryd.underlying127
  a145 := Tryd.isAgg127
  z145 := Tryd.sizeOf127
  v145 := Tryd.zeroValue127
  t167 := Tryd.underlying102
  a167 := Tryd.isAgg102
  z167 := Tryd.sizeOf102
  v167 := Tryd.zeroValue102
  t168 := Tryd.underlying105
  a168 := Tryd.isAgg105
  z168 := Tryd.sizeOf105
  v168 := Tryd.zeroValue105
  t171 := Tryd.underlying92
  a171 := Tryd.isAgg92
  z171 := Tryd.sizeOf92
  v171 := Tryd.zeroValue92
  t173 := Tryd.underlying96
  a173 := Tryd.isAgg96
  z173 := Tryd.sizeOf96
  v173 := Tryd.zeroValue96
  t175 := Tryd.underlying117
  a175 := Tryd.isAgg117
  z175 := Tryd.sizeOf117
  v175 := Tryd.zeroValue117
  t210 := Tryd.underlying121
  a210 := Tryd.isAgg121
  z210 := Tryd.sizeOf121
  v210 := Tryd.zeroValue121
  t212 := Tryd.underlying109
  a212 := Tryd.isAgg109
  z212 := Tryd.sizeOf109
  v212 := Tryd.zeroValue109
  t213 := Tryd.underlying111
  a213 := Tryd.isAgg111
  z213 := Tryd.sizeOf111
  t232 := Tryd.underlying128
  a232 := Tryd.isAgg128
  z232 := Tryd.sizeOf128
  v232 := Tryd.zeroValue128
  t233 := Tryd.underlying129
  a233 := Tryd.isAgg129
  z233 := Tryd.sizeOf129
  v233 := Tryd.zeroValue129
  g15 := by kernel_rfl
  g16 := by kernel_rfl
  g17 := by kernel_rfl
  g18 := by kernel_rfl
  g19 := by kernel_rfl
  t80 := Tryd.underlying58
  a80 := Tryd.isAgg58
  z80 := Tryd.sizeOf58
  v80 := Tryd.zeroValue58
  i0 := by kernel_rfl
  i2 := by kernel_rfl
  i3 := by kernel_rfl
  i4 := by kernel_rfl
  i5 := by kernel_rfl
  i9 := by kernel_rfl
  i20 := by kernel_rfl
  i21 := by kernel_rfl
  i37 := by kernel_rfl
  i46 := by kernel_rfl
  i51 := by kernel_rfl
  i53 := by kernel_rfl
  i75 := by kernel_rfl
  i76 := by kernel_rfl
  i80 := by kernel_rfl
  i85 := by kernel_rfl
  i127 := by kernel_rfl
  i143 := by kernel_rfl
  i145 := by kernel_rfl
  i167 := by kernel_rfl
  i168 := by kernel_rfl
  i171 := by kernel_rfl
  i173 := by kernel_rfl
  i175 := by kernel_rfl
  i210 := by kernel_rfl
  i212 := by kernel_rfl
  i232 := by kernel_rfl
  i233 := by kernel_rfl
  m15 := by kernel_rfl
  m16 := by kernel_rfl
  m17 := by kernel_rfl
  m18 := by kernel_rfl
  m19 := by kernel_rfl
  c0 := by kernel_rfl
  c2 := by kernel_rfl
  c3 := by kernel_rfl
  c4 := by kernel_rfl
  c5 := by kernel_rfl
  c9 := by kernel_rfl
  c20 := by kernel_rfl
  c21 := by kernel_rfl
  c37 := by kernel_rfl
  c46 := by kernel_rfl
  c51 := by kernel_rfl
  c53 := by kernel_rfl
  c75 := by kernel_rfl
  c76 := by kernel_rfl
  c80 := by kernel_rfl
  c85 := by kernel_rfl
  c127 := by kernel_rfl
  c143 := by kernel_rfl
  c145 := by kernel_rfl
  c167 := by kernel_rfl
  c168 := by kernel_rfl
  c171 := by kernel_rfl
  c173 := by kernel_rfl
  c175 := by kernel_rfl
  c210 := by kernel_rfl
  c212 := by kernel_rfl
  c213 := by kernel_rfl
  c232 := by kernel_rfl
  c233 := by kernel_rfl }
open Go.RowKit in
theorem Tryd.strconv_Atoi_ok (s : ByteArray) (hmax : s.size ≤ 9223372036854775806) (v : Int) (h : Lib.atoiAll s.data.toList = .ok v) (w : World) :
    Calls Tryd.prog 46 #[.string s] w fun e w' => e = .returned (.tuple #[.int .i64 v, .nilIface]) ∧ (w' = w ∨ ∃ t, w' = Lib.bytesWorld w 5 t) := Any.strconv_Atoi_ok Tryd.laysC172 s hmax v h w
open Go.RowKit in
theorem Tryd.strconv_Atoi_syntax_var (s : ByteArray) (hlim : s.size ≤ 281474976710656) (h : Lib.atoiAll s.data.toList = Lib.NumEnd.syntax) (tp : TypeId) (p : Value) (w : World) (hvar : w.var? Tryd.prog "strconv.ErrSyntax" = some #[.iface tp p]) :
    Calls Tryd.prog 46 #[.string s] w fun e w' => ∃ N, e = .returned (.tuple #[.int .i64 0, .iface 105 (.pointer (some ⟨N, 0, none⟩))]) ∧ w.heap.size ≤ N ∧ w'.heap[N]? = some (.cells #[.string ⟨#[65, 116, 111, 105]⟩, .string s, .iface tp p] 121 (0, 0)) ∧ Below w.heap.size w w' := Any.strconv_Atoi_syntax_var Tryd.laysC172 s hlim h tp p w hvar
open Go.RowKit in
theorem Tryd.strconv_Atoi_range_var (s : ByteArray) (hlim : s.size ≤ 281474976710656) (h : Lib.atoiAll s.data.toList = .range) (tp : TypeId) (p : Value) (w : World) (hvar : w.var? Tryd.prog "strconv.ErrRange" = some #[.iface tp p]) :
    Calls Tryd.prog 46 #[.string s] w fun e w' => ∃ N, e = .returned (.tuple #[.int .i64 (Lib.atoiSat s.data.toList), .iface 105 (.pointer (some ⟨N, 0, none⟩))]) ∧ w.heap.size ≤ N ∧ w'.heap[N]? = some (.cells #[.string ⟨#[65, 116, 111, 105]⟩, .string s, .iface tp p] 121 (0, 0)) ∧ Below w.heap.size w w' := Any.strconv_Atoi_range_var Tryd.laysC172 s hlim h tp p w hvar
def Tryd.lays145_ren : Go.Shelf.Ren := ⟨fun | 145 => 29 | 220 => 43 | 219 => 52 | 217 => 62 | 225 => 63 | 224 => 64 | 267 => 65 | 266 => 79 | 314 => 80 | n => n, fun | 9 => 9 | 4 => 4 | 59 => 63 | 3 => 3 | 5 => 5 | 46 => 100 | 146 => 113 | 51 => 110 | n => n, fun | 1 => 0 | n => n⟩
theorem Tryd.lays145 : Go.Proofs.Lays.n145 Tryd.prog Tryd.lays145_ren := {
  mixed := by kernel_rfl
  f145 := Tryd.func29.trans (congrArg some (by kernel_rfl))
  f217 := Tryd.func62.trans (congrArg some (by kernel_rfl))
  f219 := Tryd.func52.trans (congrArg some (by kernel_rfl))
  f220 := Tryd.func43.trans (congrArg some (by kernel_rfl))
  f224 := Tryd.func64.trans (congrArg some (by kernel_rfl))
  f225 := Tryd.func63.trans (congrArg some (by kernel_rfl))
  f266 := Tryd.func79.trans (congrArg some (by kernel_rfl))
  f267 := Tryd.func65.trans (congrArg some (by kernel_rfl))
  f314 := Tryd.func80.trans (congrArg some (by kernel_rfl))
  t3 := Tryd.underlying3
  a3 := Tryd.isAgg3
  z3 := Tryd.sizeOf3
  v3 := Tryd.zeroValue3
  t4 := Tryd.underlying4
  a4 := Tryd.isAgg4
  z4 := Tryd.sizeOf4
  v4 := Tryd.zeroValue4
  t5 := Tryd.underlying5
  a5 := Tryd.isAgg5
  z5 := Tryd.sizeOf5
  v5 := Tryd.zeroValue5
  t9 := Tryd.underlying9
  a9 := Tryd.isAgg9
  z9 := Tryd.sizeOf9
  v9 := Tryd.zeroValue9
  t46 := Tryd.underlying100
  a46 := Tryd.isAgg100
  z46 := Tryd.sizeOf100
  v46 := Tryd.zeroValue100
  t51 := Tryd.underlying110
  a51 := Tryd.isAgg110
  z51 := Tryd.sizeOf110
  v51 := Tryd.zeroValue110
  t59 := Tryd.underlying63
  a59 := Tryd.isAgg63
  z59 := Tryd.sizeOf63
  v59 := Tryd.zeroValue63
  t146 := Tryd.underlying113
  a146 := Tryd.isAgg113
  z146 := Tryd.sizeOf113
  v146 := Tryd.zeroValue113
  g1 := by kernel_rfl }
open Go.RowKit Go.Lib in
theorem Tryd.strings_Cut (s sep : ByteArray) (m : Int) (w : World) (hs : s.size < 4294967281) (hm : w.cell? ⟨0, 0, none⟩ = some (.int .i64 m)) :
    Calls Tryd.prog 29 #[.string s, .string sep] w fun e w' => e = .returned (.tuple #[.string ⟨(Lib.cut s.data.toList sep.data.toList).1.toArray⟩, .string ⟨(Lib.cut s.data.toList sep.data.toList).2.1.toArray⟩, .bool (Lib.cut s.data.toList sep.data.toList).2.2]) ∧ ∃ n, w' = w.drewN n := Any.strings_Cut Tryd.lays145 s sep m w hs hm
def Tryd.lays101_ren : Go.Shelf.Ren := ⟨fun | 101 => 47 | 208 => 57 | 206 => 53 | n => n, fun | 9 => 9 | 4 => 4 | 3 => 3 | n => n, fun | n => n⟩
theorem Tryd.lays101 : Go.Proofs.Lays.n101 Tryd.prog Tryd.lays101_ren := {
  mixed := by kernel_rfl
  f101 := Tryd.func47.trans (congrArg some (by kernel_rfl))
  f206 := Tryd.func53.trans (congrArg some (by kernel_rfl))
  f208 := Tryd.func57.trans (congrArg some (by kernel_rfl))
  t3 := Tryd.underlying3
  a3 := Tryd.isAgg3
  z3 := Tryd.sizeOf3
  v3 := Tryd.zeroValue3
  t4 := Tryd.underlying4
  a4 := Tryd.isAgg4
  z4 := Tryd.sizeOf4
  v4 := Tryd.zeroValue4
  t9 := Tryd.underlying9
  a9 := Tryd.isAgg9
  z9 := Tryd.sizeOf9
  v9 := Tryd.zeroValue9 }
open Go.RowKit Go.Lib in
theorem Tryd.strings_TrimPrefix (s p : ByteArray) (w : World) :
    Calls Tryd.prog 47 #[.string s, .string p] w fun e w' => e = .returned (.string ⟨(Lib.trimPrefix s.data.toList p.data.toList).toArray⟩) ∧ w' = w := Any.strings_TrimPrefix Tryd.lays101 s p w
def Tryd.lays147_ren : Go.Shelf.Ren := ⟨fun | 147 => 45 | 221 => 54 | 268 => 66 | 138 => 67 | 143 => 68 | 195 => 81 | 197 => 82 | 218 => 83 | 219 => 52 | 260 => 90 | 217 => 62 | 225 => 63 | 224 => 64 | 267 => 65 | 266 => 79 | 314 => 80 | n => n, fun | 9 => 9 | 3 => 3 | 31 => 46 | 4 => 4 | 0 => 0 | 105 => 115 | 21 => 21 | 5 => 5 | 46 => 100 | 119 => 130 | 139 => 133 | 138 => 132 | 146 => 113 | 51 => 110 | n => n, fun | 1 => 0 | 3 => 6 | 4 => 7 | n => n⟩
theorem Tryd.lays147 : Go.Proofs.Lays.n147 Tryd.prog Tryd.lays147_ren := {
  mixed := by kernel_rfl
  f138 := Tryd.func67.trans (congrArg some (by kernel_rfl))
  f143 := Tryd.func68.trans (congrArg some (by kernel_rfl))
  f147 := Tryd.func45.trans (congrArg some (by kernel_rfl))
  f195 := Tryd.func81.trans (congrArg some (by kernel_rfl))
  f197 := Tryd.func82.trans (congrArg some (by kernel_rfl))
  f217 := Tryd.func62.trans (congrArg some (by kernel_rfl))
  f218 := Tryd.func83.trans (congrArg some (by kernel_rfl))
  f219 := Tryd.func52.trans (congrArg some (by kernel_rfl))
  f221 := Tryd.func54.trans (congrArg some (by kernel_rfl))
  f224 := Tryd.func64.trans (congrArg some (by kernel_rfl))
  f225 := Tryd.func63.trans (congrArg some (by kernel_rfl))
  f260 := Tryd.func90.trans (congrArg some (by kernel_rfl))
  f266 := Tryd.func79.trans (congrArg some (by kernel_rfl))
  f267 := Tryd.func65.trans (congrArg some (by kernel_rfl))
  f268 := Tryd.func66.trans (congrArg some (by kernel_rfl))
  f314 := Tryd.func80.trans (congrArg some (by kernel_rfl))
  t0 := Tryd.underlying0
  a0 := Tryd.isAgg0
  z0 := Tryd.sizeOf0
  v0 := Tryd.zeroValue0
  t3 := Tryd.underlying3
  a3 := Tryd.isAgg3
  z3 := Tryd.sizeOf3
  v3 := Tryd.zeroValue3
  t4 := Tryd.underlying4
  a4 := Tryd.isAgg4
  z4 := Tryd.sizeOf4
  v4 := Tryd.zeroValue4
  t5 := Tryd.underlying5
  a5 := Tryd.isAgg5
  z5 := Tryd.sizeOf5
  v5 := Tryd.zeroValue5
  t9 := Tryd.underlying9
  a9 := Tryd.isAgg9
  z9 := Tryd.sizeOf9
  v9 := Tryd.zeroValue9
  t21 := Tryd.underlying21
  a21 := Tryd.isAgg21
  z21 := Tryd.sizeOf21
  v21 := Tryd.zeroValue21
  t31 := Tryd.underlying46
  a31 := Tryd.isAgg46
  z31 := Tryd.sizeOf46
  v31 := Tryd.zeroValue46
  t46 := Tryd.underlying100
  a46 := Tryd.isAgg100
  z46 := Tryd.sizeOf100
  v46 := Tryd.zeroValue100
  t51 := Tryd.underlying110
  a51 := Tryd.isAgg110
  z51 := Tryd.sizeOf110
  v51 := Tryd.zeroValue110
  t105 := Tryd.underlying115
  a105 := Tryd.isAgg115
  z105 := Tryd.sizeOf115
  v105 := Tryd.zeroValue115
  t119 := Tryd.underlying130
  a119 := Tryd.isAgg130
  z119 := Tryd.sizeOf130
  t138 := Tryd.underlying132
  a138 := Tryd.isAgg132
  z138 := Tryd.sizeOf132
  v138 := Tryd.zeroValue132
  t139 := Tryd.underlying133
  a139 := Tryd.isAgg133
  z139 := Tryd.sizeOf133
  v139 := Tryd.zeroValue133
  t146 := Tryd.underlying113
  a146 := Tryd.isAgg113
  z146 := Tryd.sizeOf113
  v146 := Tryd.zeroValue113
  g1 := by kernel_rfl
  g3 := by kernel_rfl
  g4 := by kernel_rfl }
open Go.RowKit Go.Lib in
theorem Tryd.strings_SplitN (s sep : ByteArray) (n : Nat) (m : Int) (w : World) (hs : s.size < 4294967281) (hm : w.cell? ⟨0, 0, none⟩ = some (.int .i64 m)) (h1 : 1 ≤ sep.size) (hn : 1 ≤ n) (hn63 : n ≤ 9223372036854775807) :
    Calls Tryd.prog 45 #[.string s, .string sep, .int .i64 n] w fun e w' =>
      e = .returned (.slice (some ⟨w.heap.size, 0, none⟩) (Lib.splitB sep 0 (min n (s.size + 1) - 1) s).length (min n (s.size + 1))) ∧ w' = w.alloc (.cells (Lib.cellsOf (Lib.splitB sep 0 (min n (s.size + 1) - 1) s) (min n (s.size + 1))) 9) := Any.strings_SplitN Tryd.lays147 (by kernel_rfl) s sep n m w hs hm h1 hn hn63
end Go.Proofs
namespace Go.Proofs.YtbjnbngpjdoejaaDoor
open Go.RowKit
set_option linter.unusedVariables false
set_option linter.unusedSimpArgs false
set_option linter.unnecessarySimpa false
namespace Fl
theorem below_grow (w : World) (k : Nat) (os : Array Obj) : Below w.heap.size w (Sort.grow (w.drewN k) os) := by
  refine ⟨rfl, rfl, rfl, ?_, fun j hj => ?_⟩
  · show w.heap.size ≤ (w.heap ++ os).size
    simp
  · show (w.heap ++ os)[j]? = w.heap[j]?
    rw [Array.getElem?_append_left hj]

theorem Kp.trans {a b c : World} (h : Below a.heap.size a b) (k : Below b.heap.size b c) : Below a.heap.size a c :=
  h.trans (k.mono h.size)
theorem allocs {w w' : World} (h : Below w.heap.size w w') (o : Obj) : Below w.heap.size w (w'.alloc o) := h.alloc h.size o
theorem wu (n : Int) (h0 : 0 ≤ n) (h1 : n < 18446744073709551616) : IntKind.u64.wrap n = n := by
  have : IntKind.u64.wrap n = n % 18446744073709551616 := by rfl
  rw [this]; omega
theorem bs_append (l m : List UInt8) : (⟨l.toArray⟩ : ByteArray) ++ ⟨m.toArray⟩ = ⟨(l ++ m).toArray⟩ := by
  apply ByteArray.ext; simp

theorem dec_len {n : Int} (h : n < 18446744073709551616) : (Lib.decDigits n.toNat).length ≤ 20 := by
  rw [Lib.decDigits_length]; exact Lib.nDigits_le20 _ (by omega)

/-! ### in Fl's words -/
def Tb (w : World) : Prop := Lib.TabIs Tryd.prog w "internal/strconv.uint64pow10" .u64 Lib.pow10Tab
def isI (n : Int) : Prop := -9223372036854775808 ≤ n ∧ n ≤ 9223372036854775807
set_option maxHeartbeats 2000000 in
theorem c_fmt (n : Int) (hn : isI n) : PureW Tb Tryd.prog 42 [.c (nI n), .c (nI 10)] (.c (sA (Lib.itoa n))) :=
  PureW.plain fun ok e xs hH hd => by
    obtain ⟨v, ys, rfl, r, h⟩ := hd.c
    obtain ⟨v2, ys2, rfl, r2, h2⟩ := h.c
    rw [h2.nil_]
    unfold nI RA at r r2
    rw [r.1, r2.1]
    refine (Tryd.strconv_FormatInt_10 n hn.1 hn.2 e hH).mono ?_
    rintro en w' ⟨rfl, k, os, rfl⟩
    exact ⟨_, rfl, Keeps.of_below (below_grow e k os), RD.v rfl⟩
theorem Tb.grows {w w' : World} (h : Tb w) (k : Keeps [] w w') : Tb w' := by
  unfold Tb Lib.TabIs World.var? at h ⊢
  rw [Option.bind_eq_some_iff] at h ⊢
  obtain ⟨g, hg, h⟩ := h
  refine ⟨g, hg, ?_⟩
  have hlt : g < w.heap.size := by
    rcases Nat.lt_or_ge g w.heap.size with h' | h'
    · exact h'
    · rw [Array.getElem?_eq_none h'] at h; cases h
  rw [k.block g hlt (by simp)]
  exact h
theorem wd_at {α : Type} {enc : α → List A} {l : List α} {i : Nat} {x : α} (h : l[i]? = some x) : (l.map enc)[((i : Nat) : Int).toNat]? = some (enc x) := by rw [Int.toNat_natCast, List.getElem?_map, h]; rfl
theorem cs_isI {o : Pn.Op} (h : Pn.rightOp o = true) : ∀ c ∈ o.cases, isI c.ch ∧ isI c.v := fun c hc => by
  unfold Pn.rightOp at h
  rw [decide_eq_true_iff] at h
  have := h.2.2.2.2.2.2.2.2.2.2.2.2.2 c hc
  unfold Pn.rightCs at this
  rw [decide_eq_true_iff] at this
  unfold isI; omega
end Fl
end Go.Proofs.YtbjnbngpjdoejaaDoor
namespace Go.Proofs.YtbjnbngpjdoejaaDoor
open Go.RowKit
set_option linter.unusedVariables false
set_option linter.unusedSimpArgs false
set_option linter.unnecessarySimpa false
namespace Wd
def kinds : List (List UInt8) := [[], [109, 97, 107, 101], [115, 101, 110, 100], [114, 101, 99, 118], [116, 114, 121, 32, 115, 101, 110, 100], [116, 114, 121, 32, 114, 101, 99, 118], [99, 108, 111, 115, 101], [108, 101, 110], [99, 97, 112], [115, 101, 108, 101, 99, 116]]
def codes : List (List UInt8) := [[], [100, 111, 110, 101], [110, 111], [112, 97, 110, 105, 99, 32, 115, 101, 110, 100], [112, 97, 110, 105, 99, 32, 99, 108, 111, 115, 101], [112, 97, 110, 105, 99, 32, 110, 105, 108], [110, 111, 110, 101], [102, 117, 108, 108]]
def kind (k : Int) : List UInt8 := kinds.getD k.toNat []
def code (k : Int) : List UInt8 := codes.getD k.toNat []
def num (n : Int) : List UInt8 := 32 :: Lib.itoa n
def cas (c : Pn.Cs) : List UInt8 := if c.send then kind 2 ++ num c.ch ++ num c.v else kind 3 ++ num c.ch
def bar : List UInt8 := [32, 124, 32]
def els : List UInt8 := [32, 124, 32, 101, 108, 115, 101]
def cass (l : List Pn.Cs) : List UInt8 := l.flatMap fun c => bar ++ cas c
def op1 (o : Pn.Op) : List UInt8 :=
  if o.kind = 1 then kind 1 ++ num o.n
  else if o.kind = 9 then kind 9 ++ cass o.cases ++ (if o.els then els else [])
  else kind o.kind ++ (num o.ch ++ (if o.kind = 2 ∨ o.kind = 4 then num o.v else []))
def op (o : Pn.Op) : List UInt8 := if Pn.rightOp o then op1 o else []
def ops (l : List Pn.Op) : List UInt8 := l.flatMap fun o => op o ++ [10]
def text (p : List (List Pn.Op)) : List UInt8 := if Pn.right p then p.flatMap fun l => [103, 111, 10] ++ ops l else []
def res (r : Md.Res) : List UInt8 :=
  if 1 ≤ r.code ∧ r.code ≤ 7 then
    if r.code = 1 then (code 1 ++ (if r.cs = -1 then [] else [32, 99, 97, 115, 101] ++ num r.cs) ++ num r.v) ++ (if r.ok then [32, 111, 107] else [32, 99, 108, 111, 115, 101, 100]) ++ num r.n
    else code r.code
  else [99, 111, 100, 101] ++ num r.code
theorem num_len (n : Int) (h0 : -9223372036854775808 ≤ n) (h1 : n ≤ 9223372036854775807) : (num n).length ≤ 22 := by
  have := Lib.itoa_length_le n h0 h1
  unfold num; simp; omega
theorem kind_len (k : Int) : (kind k).length ≤ 8 := by
  unfold kind
  rw [List.getD_eq_getElem?_getD]
  cases h : kinds[k.toNat]? with
  | none => simp
  | some l =>
    have hm := List.mem_of_getElem? h
    have : ∀ l ∈ kinds, l.length ≤ 8 := by decide
    exact this l hm
theorem cas_len (c : Pn.Cs) (h : (-9223372036854775808 ≤ c.ch ∧ c.ch ≤ 9223372036854775807) ∧ (-9223372036854775808 ≤ c.v ∧ c.v ≤ 9223372036854775807)) : (cas c).length ≤ 52 := by
  have a := num_len c.ch h.1.1 h.1.2
  have b := num_len c.v h.2.1 h.2.2
  have k2 := kind_len 2
  have k3 := kind_len 3
  unfold cas
  split <;> simp only [List.length_append] <;> omega
theorem cass_len : ∀ (l : List Pn.Cs), (∀ c ∈ l, (-9223372036854775808 ≤ c.ch ∧ c.ch ≤ 9223372036854775807) ∧ (-9223372036854775808 ≤ c.v ∧ c.v ≤ 9223372036854775807)) → (cass l).length ≤ l.length * 55
  | [], _ => by simp [cass]
  | c :: l, h => by
    have a := cas_len c (h c (List.mem_cons_self ..))
    have b := cass_len l fun x hx => h x (List.mem_cons_of_mem _ hx)
    have e : cass (c :: l) = (bar ++ cas c) ++ cass l := by simp [cass]
    rw [e]
    have : bar.length = 3 := rfl
    simp only [List.length_append, List.length_cons]
    omega
def blk (l : List Pn.Op) : List UInt8 := [103, 111, 10] ++ ops l
def txt (p : List (List Pn.Op)) : List UInt8 := p.flatMap blk
theorem txt_eq (p : List (List Pn.Op)) : text p = if Pn.right p then txt p else [] := rfl
theorem op_len {o : Pn.Op} (h : Pn.rightOp o = true) : (op o).length ≤ 400 := by
  unfold op
  rw [if_pos h]
  have R := h
  unfold Pn.rightOp at R
  rw [decide_eq_true_iff] at R
  obtain ⟨r1, r2, r3, r4, r5, r6, r7, r8, r9, -, -, -, -, r14⟩ := R
  have a := num_len o.n (by omega) (by omega)
  have b := num_len o.ch (by omega) (by omega)
  have d := num_len o.v (by omega) (by omega)
  have k := kind_len o.kind
  have k1 := kind_len 1
  have k9 := kind_len 9
  have c := cass_len o.cases fun x hx => by
    have := r14 x hx
    unfold Pn.rightCs at this
    rw [decide_eq_true_iff] at this
    omega
  have e : els.length = 7 := rfl
  unfold op1
  split
  · simp only [List.length_append]; omega
  · split
    · simp only [List.length_append]
      split
      · omega
      · simp only [List.length_nil]; omega
    · simp only [List.length_append]
      split
      · omega
      · simp only [List.length_nil]; omega
theorem ops_len : ∀ {l : List Pn.Op}, (∀ o ∈ l, Pn.rightOp o = true) → (ops l).length ≤ l.length * 401
  | [], _ => by simp [ops]
  | o :: l, h => by
    have a := op_len (h o (List.mem_cons_self ..))
    have b := ops_len (l := l) fun x hx => h x (List.mem_cons_of_mem _ hx)
    have e : ops (o :: l) = (op o ++ [10]) ++ ops l := by simp [ops]
    rw [e]
    simp only [List.length_append, List.length_cons, List.length_nil]
    omega
theorem txt_len : ∀ {p : List (List Pn.Op)}, (∀ l ∈ p, Pn.rightOps l = true) → (txt p).length ≤ p.length * 6500
  | [], _ => by simp [txt]
  | l :: p, h => by
    have a := h l (List.mem_cons_self ..)
    unfold Pn.rightOps at a
    rw [decide_eq_true_iff] at a
    have b := ops_len a.2
    have c := txt_len (p := p) fun x hx => h x (List.mem_cons_of_mem _ hx)
    have e : txt (l :: p) = ([103, 111, 10] ++ ops l) ++ txt p := by simp [txt, blk]
    rw [e]
    simp only [List.length_append, List.length_cons, List.length_nil]
    omega
theorem txt_take {p : List (List Pn.Op)} {k : Nat} {l : List Pn.Op} (h : p[k]? = some l) : txt (p.take (k + 1)) = (txt (p.take k) ++ [103, 111, 10]) ++ ops l := by
  rw [List.take_add_one, h]
  simp [txt, blk]
theorem ops_take {l : List Pn.Op} {k : Nat} {o : Pn.Op} (h : l[k]? = some o) : ops (l.take (k + 1)) = ops (l.take k) ++ (op o ++ [10]) := by
  rw [List.take_add_one, h]
  simp [ops]
end Wd
end Go.Proofs.YtbjnbngpjdoejaaDoor
