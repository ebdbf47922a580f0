/-
  Texts PlanU WordsReads WdX of this claim, put together: what they show stands at their heads.
  Conditions: none but those that each theorem states.
-/
import Derived.Test.YtbjnbngpjdoejaaDoorQ21
import Derived.Deep.DrawnRows
import Derived.Test.YtbjnbngpjdoejaaDoorRows
import Derived.ChangeSame
import Derived.ChangeVars
import Derived.JoinedOf
import Derived.RowKit
import Derived.RowKitTokens
import Derived.LaidLaws
import Derived.LaidHandle
import Derived.Stop.Joined
import Derived.Stop.LaidTwo
import Derived.Stop.LaidErr
import Derived.Lib.LaidTab
import Derived.Lay
import Derived.Handed
namespace Go.Proofs.YtbjnbngpjdoejaaDoor
open Go.RowKit
set_option linter.unusedVariables false
set_option linter.unusedSimpArgs false
set_option linter.unnecessarySimpa false
attribute [local go_sem ↓] Go.wp_at_zero Go.wp_at_succ

set_option maxHeartbeats 1600000 in
theorem ref10_sameOps (w : World) (a b : List Pn.Op) (va vb : Value) (SA SB : List Nat) (ha : GV opE 6 w va a SA) (hb : GV opE 6 w vb b SB) :
    Calls Tryd.prog 18 #[va, vb] w fun e w' => e = .returned (.bool (decide (a = b))) ∧ Keeps [] w w' := by
  have hla := ha.le
  have hlb := hb.le
  unfold maxLen at hla hlb
  obtain ⟨ao1, cap1, rfl⟩ := ha.shape
  obtain ⟨ao2, cap2, rfl⟩ := hb.shape
  have HA := Lib.hid ha
  have HB := Lib.hid hb
  clear ha hb
  obtain ⟨q, hq0⟩ : ∃ q, decide (a = b) = q := ⟨_, rfl⟩
  rw [hq0]
  have HQ0 := Lib.hid hq0
  clear hq0
  by_cases hl : a.length = b.length
  · have HL := Lib.hid hl
    have hq : ((a.length : Int) != (b.length : Int)) = false := by simp [hl]
    clear hl
    go_enter Tryd.func18, Tryd.ntmps18
    go_wp2_with fail
    go_loopw [13] (fun u wr => ∃ k : Nat, k ≤ a.length ∧ u = .int .i64 k ∧ Hid (Keeps [] w wr ∧ ∀ j, j < k → a[j]? = b[j]?)) (fun u _ => a.length - (intOf u).toNat)
    case atStart => exact ⟨0, Nat.zero_le _, rfl, Lib.hid ⟨Keeps.refl _ _, fun j hj => by omega⟩⟩
    case round =>
      obtain ⟨k, hk, rfl, HI⟩ := hrel
      obtain ⟨wo, rfl⟩ : ∃ wo : World, wo = wr := ⟨_, rfl⟩
      by_cases hlt : k < a.length
      · obtain ⟨x, hx⟩ : ∃ x, a[k]? = some x := ⟨_, List.getElem?_eq_getElem hlt⟩
        obtain ⟨y, hy⟩ : ∃ y, b[k]? = some y := ⟨_, List.getElem?_eq_getElem (by have := HL.out; omega)⟩
        have hlt2 : k < b.length := by have := HL.out; omega
        obtain ⟨g1, off1, vc1, U1, rfl, _, hg1, ⟨a0, a1, a2, a3, a4, a5⟩, hux, _⟩ := (HA.out.then opE_kept HI.out.1).op hx
        obtain ⟨am1, cm1, rfl⟩ := hux.shape
        obtain ⟨g2, off2, vc2, U2, rfl, _, hg2, ⟨b0, b1, b2, b3, b4, b5⟩, huy, _⟩ := (HB.out.then opE_kept HI.out.1).op hy
        obtain ⟨am2, cm2, rfl⟩ := huy.shape
        have HX := Lib.hid hx
        have HY := Lib.hid hy
        have HUX := Lib.hid hux
        have HUY := Lib.hid huy
        have i0 : (0 : Int) ≤ (k : Int) := by omega
        have i1 : (k : Int) < (a.length : Int) := by omega
        have i2 : (k : Int) < (b.length : Int) := by omega
        clear hx hy hux huy
        by_cases hxy : x = y
        · have HXY : Hid (decide (x = y) = true) := Lib.hid (by rw [decide_eq_true_iff]; exact hxy)
          have HE := Lib.hid hxy
          clear hxy
          go_upto_region 6 with fail
          go_region_held3 (fun w' => w'.cell? ⟨g1, off1 + k * 6, none⟩ = some (.int .i64 x.kind) ∧ w'.cell? ⟨g1, off1 + k * 6 + 1, none⟩ = some (.int .i64 x.ch) ∧ w'.cell? ⟨g1, off1 + k * 6 + 2, none⟩ = some (.int .i64 x.n) ∧ w'.cell? ⟨g1, off1 + k * 6 + 3, none⟩ = some (.int .i64 x.v) ∧ w'.cell? ⟨g1, off1 + k * 6 + 4, none⟩ = some (.slice am1 x.cases.length cm1) ∧ w'.cell? ⟨g1, off1 + k * 6 + 5, none⟩ = some (.bool x.els) ∧ w'.cell? ⟨g2, off2 + k * 6, none⟩ = some (.int .i64 y.kind) ∧ w'.cell? ⟨g2, off2 + k * 6 + 1, none⟩ = some (.int .i64 y.ch) ∧ w'.cell? ⟨g2, off2 + k * 6 + 2, none⟩ = some (.int .i64 y.n) ∧ w'.cell? ⟨g2, off2 + k * 6 + 3, none⟩ = some (.int .i64 y.v) ∧ w'.cell? ⟨g2, off2 + k * 6 + 4, none⟩ = some (.slice am2 y.cases.length cm2) ∧ w'.cell? ⟨g2, off2 + k * 6 + 5, none⟩ = some (.bool y.els))
            (first | (with_reducible exact ⟨a0, a1, a2, a3, a4, a5, b0, b1, b2, b3, b4, b5⟩) | (with_reducible exact ⟨K8.out.cell a0 List.not_mem_nil, K8.out.cell a1 List.not_mem_nil, K8.out.cell a2 List.not_mem_nil, K8.out.cell a3 List.not_mem_nil, K8.out.cell a4 List.not_mem_nil, K8.out.cell a5 List.not_mem_nil, K8.out.cell b0 List.not_mem_nil, K8.out.cell b1 List.not_mem_nil, K8.out.cell b2 List.not_mem_nil, K8.out.cell b3 List.not_mem_nil, K8.out.cell b4 List.not_mem_nil, K8.out.cell b5 List.not_mem_nil⟩) | go_keep)
            (first
              | (go_at_call 36; (with_reducible refine (ref10_sameOp _ x y _ _ U1 U2 (HUX.out.then caseE_kept (Keeps.refl [] wo).drew) (HUY.out.then caseE_kept (Keeps.refl [] wo).drew)).mono ?_); rintro e w8 ⟨rfl, k8⟩; rw [HXY.out]; have K8 := Lib.hid (((Keeps.refl [] wo).drew).then k8); clear k8)
              | fail)
          go_wp2_with fail
          go_roundw
          case rel => exact ⟨k + 1, by omega, by go_num, Lib.hid ⟨HI.out.1.then K8.out, fun j hj => by
            by_cases e : j = k
            · subst e; rw [HX.out, HY.out, HE.out]
            · exact HI.out.2 j (by omega)⟩⟩
          case measure => simp [intOf]; omega
        · have HXY : Hid (decide (x = y) = false) := Lib.hid (by rw [decide_eq_false_iff_not]; exact hxy)
          have HN : Hid (false = q) := Lib.hid (by
            rw [← HQ0.out, eq_comm, decide_eq_false_iff_not]
            intro e
            have h1 := HX.out
            rw [e, HY.out] at h1
            exact hxy (Option.some.inj h1).symm)
          clear hxy
          go_upto_region 6 with fail
          go_region_held3 (fun w' => w'.cell? ⟨g1, off1 + k * 6, none⟩ = some (.int .i64 x.kind) ∧ w'.cell? ⟨g1, off1 + k * 6 + 1, none⟩ = some (.int .i64 x.ch) ∧ w'.cell? ⟨g1, off1 + k * 6 + 2, none⟩ = some (.int .i64 x.n) ∧ w'.cell? ⟨g1, off1 + k * 6 + 3, none⟩ = some (.int .i64 x.v) ∧ w'.cell? ⟨g1, off1 + k * 6 + 4, none⟩ = some (.slice am1 x.cases.length cm1) ∧ w'.cell? ⟨g1, off1 + k * 6 + 5, none⟩ = some (.bool x.els) ∧ w'.cell? ⟨g2, off2 + k * 6, none⟩ = some (.int .i64 y.kind) ∧ w'.cell? ⟨g2, off2 + k * 6 + 1, none⟩ = some (.int .i64 y.ch) ∧ w'.cell? ⟨g2, off2 + k * 6 + 2, none⟩ = some (.int .i64 y.n) ∧ w'.cell? ⟨g2, off2 + k * 6 + 3, none⟩ = some (.int .i64 y.v) ∧ w'.cell? ⟨g2, off2 + k * 6 + 4, none⟩ = some (.slice am2 y.cases.length cm2) ∧ w'.cell? ⟨g2, off2 + k * 6 + 5, none⟩ = some (.bool y.els))
            (first | (with_reducible exact ⟨a0, a1, a2, a3, a4, a5, b0, b1, b2, b3, b4, b5⟩) | (with_reducible exact ⟨K8.out.cell a0 List.not_mem_nil, K8.out.cell a1 List.not_mem_nil, K8.out.cell a2 List.not_mem_nil, K8.out.cell a3 List.not_mem_nil, K8.out.cell a4 List.not_mem_nil, K8.out.cell a5 List.not_mem_nil, K8.out.cell b0 List.not_mem_nil, K8.out.cell b1 List.not_mem_nil, K8.out.cell b2 List.not_mem_nil, K8.out.cell b3 List.not_mem_nil, K8.out.cell b4 List.not_mem_nil, K8.out.cell b5 List.not_mem_nil⟩) | go_keep)
            (first
              | (go_at_call 36; (with_reducible refine (ref10_sameOp _ x y _ _ U1 U2 (HUX.out.then caseE_kept (Keeps.refl [] wo).drew) (HUY.out.then caseE_kept (Keeps.refl [] wo).drew)).mono ?_); rintro e w8 ⟨rfl, k8⟩; rw [HXY.out]; have K8 := Lib.hid (((Keeps.refl [] wo).drew).then k8); clear k8)
              | fail)
          go_wp2_with fail
          go_ret
          exact ⟨ret_bool HN.out, HI.out.1.then K8.out⟩
      · obtain rfl : k = a.length := by omega
        have HN : Hid (true = q) := Lib.hid (by
          rw [← HQ0.out, eq_comm, decide_eq_true_iff, list_same HL.out HI.out.2])
        go_wp2_with fail
        go_ret
        exact ⟨ret_bool HN.out, HI.out.1⟩
  · have hq : ((a.length : Int) != (b.length : Int)) = true := by simp; omega
    have HN : Hid (false = q) := Lib.hid (by
      rw [← HQ0.out, eq_comm, decide_eq_false_iff_not]; intro e; exact hl (by rw [e]))
    clear hl
    go_enter Tryd.func18, Tryd.ntmps18
    go_wp2_with fail
    go_ret
    exact ⟨ret_bool HN.out, Keeps.refl _ _⟩

set_option maxHeartbeats 1600000 in
theorem ref10_same (w : World) (a b : List (List Pn.Op)) (va vb : Value) (SA SB : List Nat) (ha : GV opsE 1 w va a SA) (hb : GV opsE 1 w vb b SB) :
    Calls Tryd.prog 8 #[va, vb] w fun e w' => e = .returned (.bool (decide (a = b))) ∧ Keeps [] w w' := by
  have hla := ha.le
  have hlb := hb.le
  unfold maxLen at hla hlb
  obtain ⟨ao1, cap1, rfl⟩ := ha.shape
  obtain ⟨ao2, cap2, rfl⟩ := hb.shape
  have HA := Lib.hid ha
  have HB := Lib.hid hb
  clear ha hb
  obtain ⟨q, hq0⟩ : ∃ q, decide (a = b) = q := ⟨_, rfl⟩
  rw [hq0]
  have HQ0 := Lib.hid hq0
  clear hq0
  by_cases hl : a.length = b.length
  · have HL := Lib.hid hl
    have hq : ((a.length : Int) != (b.length : Int)) = false := by simp [hl]
    clear hl
    go_enter Tryd.func8, Tryd.ntmps8
    go_wp2_with fail
    go_loopw [13] (fun u wr => ∃ k : Nat, k ≤ a.length ∧ u = .int .i64 k ∧ Hid (Keeps [] w wr ∧ ∀ j, j < k → a[j]? = b[j]?)) (fun u _ => a.length - (intOf u).toNat)
    case atStart => exact ⟨0, Nat.zero_le _, rfl, Lib.hid ⟨Keeps.refl _ _, fun j hj => by omega⟩⟩
    case round =>
      obtain ⟨k, hk, rfl, HI⟩ := hrel
      obtain ⟨wo, rfl⟩ : ∃ wo : World, wo = wr := ⟨_, rfl⟩
      by_cases hlt : k < a.length
      · obtain ⟨x, hx⟩ : ∃ x, a[k]? = some x := ⟨_, List.getElem?_eq_getElem hlt⟩
        obtain ⟨y, hy⟩ : ∃ y, b[k]? = some y := ⟨_, List.getElem?_eq_getElem (by have := HL.out; omega)⟩
        have hlt2 : k < b.length := by have := HL.out; omega
        obtain ⟨g1, off1, _, U1, rfl, _, hg1, a0, ⟨v1, hv1, hux⟩, _⟩ := (HA.out.then opsE_kept HI.out.1).one hx
        cases hv1
        obtain ⟨am1, cm1, rfl⟩ := hux.shape
        obtain ⟨g2, off2, _, U2, rfl, _, hg2, b0, ⟨v2, hv2, huy⟩, _⟩ := (HB.out.then opsE_kept HI.out.1).one hy
        cases hv2
        obtain ⟨am2, cm2, rfl⟩ := huy.shape
        have HX := Lib.hid hx
        have HY := Lib.hid hy
        have HUX := Lib.hid hux
        have HUY := Lib.hid huy
        have i0 : (0 : Int) ≤ (k : Int) := by omega
        have i1 : (k : Int) < (a.length : Int) := by omega
        have i2 : (k : Int) < (b.length : Int) := by omega
        clear hx hy hux huy
        by_cases hxy : x = y
        · have HXY : Hid (decide (x = y) = true) := Lib.hid (by rw [decide_eq_true_iff]; exact hxy)
          have HE := Lib.hid hxy
          clear hxy
          go_upto_region 6 with fail
          go_region_held3 (fun w' => w'.cell? ⟨g1, off1 + k, none⟩ = some (.slice am1 x.length cm1) ∧ w'.cell? ⟨g2, off2 + k, none⟩ = some (.slice am2 y.length cm2))
            (first | (with_reducible exact ⟨a0, b0⟩) | (with_reducible exact ⟨K8.out.cell a0 List.not_mem_nil, K8.out.cell b0 List.not_mem_nil⟩) | go_keep)
            (first
              | (go_at_call 18; (with_reducible refine (ref10_sameOps _ x y _ _ U1 U2 (HUX.out.then opE_kept (Keeps.refl [] wo).drew) (HUY.out.then opE_kept (Keeps.refl [] wo).drew)).mono ?_); rintro e w8 ⟨rfl, k8⟩; rw [HXY.out]; have K8 := Lib.hid (((Keeps.refl [] wo).drew).then k8); clear k8)
              | fail)
          go_wp2_with fail
          go_roundw
          case rel => exact ⟨k + 1, by omega, by go_num, Lib.hid ⟨HI.out.1.then K8.out, fun j hj => by
            by_cases e : j = k
            · subst e; rw [HX.out, HY.out, HE.out]
            · exact HI.out.2 j (by omega)⟩⟩
          case measure => simp [intOf]; omega
        · have HXY : Hid (decide (x = y) = false) := Lib.hid (by rw [decide_eq_false_iff_not]; exact hxy)
          have HN : Hid (false = q) := Lib.hid (by
            rw [← HQ0.out, eq_comm, decide_eq_false_iff_not]
            intro e
            have h1 := HX.out
            rw [e, HY.out] at h1
            exact hxy (Option.some.inj h1).symm)
          clear hxy
          go_upto_region 6 with fail
          go_region_held3 (fun w' => w'.cell? ⟨g1, off1 + k, none⟩ = some (.slice am1 x.length cm1) ∧ w'.cell? ⟨g2, off2 + k, none⟩ = some (.slice am2 y.length cm2))
            (first | (with_reducible exact ⟨a0, b0⟩) | (with_reducible exact ⟨K8.out.cell a0 List.not_mem_nil, K8.out.cell b0 List.not_mem_nil⟩) | go_keep)
            (first
              | (go_at_call 18; (with_reducible refine (ref10_sameOps _ x y _ _ U1 U2 (HUX.out.then opE_kept (Keeps.refl [] wo).drew) (HUY.out.then opE_kept (Keeps.refl [] wo).drew)).mono ?_); rintro e w8 ⟨rfl, k8⟩; rw [HXY.out]; have K8 := Lib.hid (((Keeps.refl [] wo).drew).then k8); clear k8)
              | fail)
          go_wp2_with fail
          go_ret
          exact ⟨ret_bool HN.out, HI.out.1.then K8.out⟩
      · obtain rfl : k = a.length := by omega
        have HN : Hid (true = q) := Lib.hid (by
          rw [← HQ0.out, eq_comm, decide_eq_true_iff, list_same HL.out HI.out.2])
        go_wp2_with fail
        go_ret
        exact ⟨ret_bool HN.out, HI.out.1⟩
  · have hq : ((a.length : Int) != (b.length : Int)) = true := by simp; omega
    have HN : Hid (false = q) := Lib.hid (by
      rw [← HQ0.out, eq_comm, decide_eq_false_iff_not]; intro e; exact hl (by rw [e]))
    clear hl
    go_enter Tryd.func8, Tryd.ntmps8
    go_wp2_with fail
    go_ret
    exact ⟨ret_bool HN.out, Keeps.refl _ _⟩

end Go.Proofs.YtbjnbngpjdoejaaDoor
namespace Go.Proofs.YtbjnbngpjdoejaaDoor
open Go.RowKit
set_option linter.unusedVariables false
set_option linter.unusedSimpArgs false
set_option linter.unnecessarySimpa false
namespace Fl
set_option maxRecDepth 100000
set_option maxHeartbeats 4000000
set_option maxHeartbeats 2000000 in
theorem c_same10 (a b : List (List Pn.Op)) : Pure Tryd.prog 8 [.c (opsA a), .c (opsA b)] (.c (bI (decide (a = b)))) :=
  Con.plain fun ok e xs hd => by
    obtain ⟨v, ys, rfl, r, h⟩ := hd.c
    obtain ⟨v2, ys2, rfl, r2, h2⟩ := h.c
    rw [h2.nil_]
    obtain ⟨S, s1, s2⟩ := gv_plan r
    obtain ⟨S2, s3, s4⟩ := gv_plan r2
    refine (ref10_same e a b v v2 S S2 s1 s3).mono ?_
    rintro en w' ⟨rfl, k⟩
    exact ⟨_, rfl, k, RD.v rfl⟩
set_option maxHeartbeats 2000000 in
theorem c_WordsReads (s : Wr.W) : PureW Hw Tryd.prog 3 [.c (sA s)] (.c (bI true)) := by
  have US := Tryd.underlying9
  have CA := t_wordsAlive.mono (H' := Hw) fun w h => h.1
  refine ConW.intro Tryd.func3 rfl rfl rfl (fun ok e hT => ?_)
  have hW : ∀ w, Keeps [] e w → Hw w := fun w k => hT.grows k
  by_cases hs : 3000 < s.length
  · have t1 : decide ((3000 : Int) < (s.length : Int)) = true := decide_eq_true (by omega)
    repeat (first
        | (refine K.move ?_; refine JO.q rfl rfl (Nat.le_of_ble_eq_true rfl) (Qt.move rfl) ?_)
        | (refine K.assign ?_; refine JO.q rfl rfl (Nat.le_of_ble_eq_true rfl) (Qt.assign rfl) ?_)
        | (refine K.binOp ?_; (refine JO.q rfl rfl (Nat.le_of_ble_eq_true rfl) (Qt.cmp rfl rfl (congrArg some t1)) ?_))
        | (refine K.call ?_; (refine JO.ld (Ld.pureW hW (CA) (Nat.le_of_ble_eq_true rfl) rfl ?_) rfl (fun _ => ?_); focus ((repeat ((exact LeDs.nil))); done)))
        | (refine K.unOp ?_; refine JO.q rfl rfl (Nat.le_of_ble_eq_true rfl) (Qt.not rfl) ?_)
        | (refine K.bi ?_; (refine JO.q rfl rfl (Nat.le_of_ble_eq_true rfl) (Qt.strL rfl US) ?_))
        | refine JO.nil ?_
        | refine J.seq ?_
        | refine J.region ?_
        | refine J.skip ?_
        | refine J.cond_t rfl ?_
        | refine J.cond_f rfl ?_)
    exact J.ret Tryd.func3 rfl (.cons (.tmp rfl) .nil) () (by (exact .refl)) [] .nil rfl rfl
  · have t1 : decide ((3000 : Int) < (s.length : Int)) = false := decide_eq_false (by omega)
    have C1 := c_wParse s (by omega)
    have C2 := c_parse s (by omega)
    have C3 := c_same10 (Wr.prs s).1 (Wr.prs s).1
    rw [show decide ((Wr.prs s).1 = (Wr.prs s).1) = true by simp] at C3
    have e1 : ((Wr.prs s).2 == (Wr.prs s).2) = true := by simp
    repeat (first
        | (refine K.move ?_; refine JO.q rfl rfl (Nat.le_of_ble_eq_true rfl) (Qt.move rfl) ?_)
        | (refine K.assign ?_; refine JO.q rfl rfl (Nat.le_of_ble_eq_true rfl) (Qt.assign rfl) ?_)
        | (refine K.binOp ?_; first | refine JO.q rfl rfl (Nat.le_of_ble_eq_true rfl) (Qt.cmp rfl rfl (congrArg some t1)) ?_ | refine JO.q rfl rfl (Nat.le_of_ble_eq_true rfl) (Qt.cmp rfl rfl (congrArg some e1)) ?_)
        | (refine K.call ?_; first | (refine JO.ld (Ld.pureW hW (CA) (Nat.le_of_ble_eq_true rfl) rfl ?_) rfl (fun _ => ?_); focus ((repeat ((exact LeDs.nil))); done)) | (refine JO.ld (Ld.pureW hW (C1) (Nat.le_of_ble_eq_true rfl) rfl ?_) rfl (fun _ => ?_); focus ((repeat (first | exact LeDs.nil | refine LeDs.cons LeD.refl ?_)); done)) | (refine JO.pure (C2) rfl (Nat.le_of_ble_eq_true rfl) rfl ?_ ?_; focus ((repeat (first | exact LeDs.nil | refine LeDs.cons LeD.refl ?_)); done)) | (refine JO.pure (C3) rfl (Nat.le_of_ble_eq_true rfl) rfl ?_ ?_; focus ((repeat (first | exact LeDs.nil | refine LeDs.cons LeD.refl ?_)); done)))
        | (refine K.unOp ?_; refine JO.q rfl rfl (Nat.le_of_ble_eq_true rfl) (Qt.not rfl) ?_)
        | (refine K.bi ?_; (refine JO.q rfl rfl (Nat.le_of_ble_eq_true rfl) (Qt.strL rfl US) ?_))
        | (refine K.extract ?_; refine JO.q rfl rfl (Nat.le_of_ble_eq_true rfl) (Qt.extract rfl rfl) ?_)
        | (refine K.pick ?_; refine JO.q rfl rfl (Nat.le_of_ble_eq_true rfl) (Qt.pick rfl rfl) ?_)
        | refine JO.nil ?_
        | refine J.seq ?_
        | refine J.region ?_
        | refine J.skip ?_
        | refine J.cond_f rfl ?_)
    exact J.ret Tryd.func3 rfl (.cons (.tmp rfl) .nil) () (by (exact .refl)) [] .nil rfl rfl
set_option maxHeartbeats 2000000 in
theorem c_WordsBack (p : List (List Pn.Op)) (s : Wr.W) (h1 : p.length ≤ 9223372036854775807) (h2 : ∀ l ∈ p, l.length ≤ 9223372036854775807) : PureW Hw Tryd.prog 4 [.c (opsA p), .c (sA s)] (.c (bI true)) := by
  have US := Tryd.underlying9
  have CA := t_wordsAlive.mono (H' := Hw) fun w h => h.1
  have CG := t_great p h1 h2
  have CT := (c_wText p).mono (H' := Hw) fun w h => h.1
  have CR := c_right10 p
  refine ConW.intro Tryd.func4 rfl rfl rfl (fun ok e hT => ?_)
  have hW : ∀ w, Keeps [] e w → Hw w := fun w k => hT.grows k
  repeat (first
      | (refine K.move ?_; refine JO.q rfl rfl (Nat.le_of_ble_eq_true rfl) (Qt.move rfl) ?_)
      | (refine K.assign ?_; refine JO.q rfl rfl (Nat.le_of_ble_eq_true rfl) (Qt.assign rfl) ?_)
      | (refine K.call ?_; (refine JO.ld (Ld.pureW hW (CA) (Nat.le_of_ble_eq_true rfl) rfl ?_) rfl (fun _ => ?_); focus ((repeat ((exact LeDs.nil))); done)))
      | (refine K.unOp ?_; refine JO.q rfl rfl (Nat.le_of_ble_eq_true rfl) (Qt.not rfl) ?_)
      | refine JO.nil ?_
      | refine J.seq ?_
      | refine J.region ?_
      | refine J.skip ?_
      | refine J.cond_f rfl ?_)
  refine K.call ?_
  refine JO.ld (Ld.call CG (Nat.le_of_ble_eq_true rfl) rfl (.cons .refl .nil) (Ll := []) (Lr := _) rfl) rfl (fun g => ?_)
  simp only [List.nil_append]
  cases g with
  | true =>
    repeat (first
        | (refine K.move ?_; refine JO.q rfl rfl (Nat.le_of_ble_eq_true rfl) (Qt.move rfl) ?_)
        | (refine K.assign ?_; refine JO.q rfl rfl (Nat.le_of_ble_eq_true rfl) (Qt.assign rfl) ?_)
        | (refine K.pick ?_; refine JO.q rfl rfl (Nat.le_of_ble_eq_true rfl) (Qt.pick rfl rfl) ?_)
        | refine JO.nil ?_
        | refine J.seq ?_
        | refine J.region ?_
        | refine J.cond_t rfl ?_
        | refine JO.no rfl rfl (Nat.le_of_ble_eq_true rfl) ?_)
    exact J.ret Tryd.func4 rfl (.cons (.tmp rfl) .nil) () (by (exact .refl)) [] .nil rfl rfl
  | false =>
  by_cases hs : 3000 < s.length
  · have t1 : decide ((3000 : Int) < (s.length : Int)) = true := decide_eq_true (by omega)
    repeat (first
        | (refine K.move ?_; refine JO.q rfl rfl (Nat.le_of_ble_eq_true rfl) (Qt.move rfl) ?_)
        | (refine K.assign ?_; refine JO.q rfl rfl (Nat.le_of_ble_eq_true rfl) (Qt.assign rfl) ?_)
        | (refine K.binOp ?_; (refine JO.q rfl rfl (Nat.le_of_ble_eq_true rfl) (Qt.cmp rfl rfl (congrArg some t1)) ?_))
        | (refine K.bi ?_; (refine JO.q rfl rfl (Nat.le_of_ble_eq_true rfl) (Qt.strL rfl US) ?_))
        | (refine K.pick ?_; refine JO.q rfl rfl (Nat.le_of_ble_eq_true rfl) (Qt.pick rfl rfl) ?_)
        | refine JO.nil ?_
        | refine J.seq ?_
        | refine J.region ?_
        | refine J.cond_t rfl ?_)
    exact J.ret Tryd.func4 rfl (.cons (.tmp rfl) .nil) () (by (exact .refl)) [] .nil rfl rfl
  · have t1 : decide ((3000 : Int) < (s.length : Int)) = false := decide_eq_false (by omega)
    have C1 := c_wParse s (by omega)
    obtain ⟨q, n, hq⟩ : ∃ q n, Wr.prs s = (q, n) := ⟨_, _, rfl⟩
    rw [hq] at C1
    have CQ := (c_wText q).mono (H' := Hw) fun w h => h.1
    repeat (first
        | (refine K.move ?_; refine JO.q rfl rfl (Nat.le_of_ble_eq_true rfl) (Qt.move rfl) ?_)
        | (refine K.binOp ?_; (refine JO.q rfl rfl (Nat.le_of_ble_eq_true rfl) (Qt.cmp rfl rfl (congrArg some t1)) ?_))
        | (refine K.bi ?_; (refine JO.q rfl rfl (Nat.le_of_ble_eq_true rfl) (Qt.strL rfl US) ?_))
        | (refine K.pick ?_; refine JO.q rfl rfl (Nat.le_of_ble_eq_true rfl) (Qt.pick rfl rfl) ?_)
        | refine JO.nil ?_
        | refine J.seq ?_
        | refine J.region ?_
        | refine J.skip ?_
        | refine J.cond_f rfl ?_)
    cases hr : Pn.right p with
    | true =>
      rw [hr] at CR
      have hl : (Wd.text p).length ≤ 60000 := by
        have h3 := hr
        unfold Pn.right at h3
        rw [decide_eq_true_iff] at h3
        have := Wd.txt_len h3.2.2
        rw [Wd.txt_eq, if_pos hr]
        omega
      have CP := c_wParse (Wd.text p) hl
      rw [Wr.text_prs hr] at CP
      have CS := c_same10 p p
      rw [show decide (p = p) = true by simp] at CS
      by_cases hn : n = 0
      · subst hn
        have e5 : (Wd.text q == s) = true := by rw [Wr.prs_text hq]; simp
        repeat (first
            | (refine K.move ?_; refine JO.q rfl rfl (Nat.le_of_ble_eq_true rfl) (Qt.move rfl) ?_)
            | (refine K.assign ?_; refine JO.q rfl rfl (Nat.le_of_ble_eq_true rfl) (Qt.assign rfl) ?_)
            | (refine K.binOp ?_; first | refine JO.q rfl rfl (Nat.le_of_ble_eq_true rfl) ((Qt.strE rfl rfl).eq (congrArg (fun z => D.c (.v (.bool z))) (e5))) ?_ | refine JO.q rfl rfl (Nat.le_of_ble_eq_true rfl) (Qt.cmp rfl rfl rfl) ?_)
            | (refine K.call ?_; first | (refine JO.pure (CR) rfl (Nat.le_of_ble_eq_true rfl) rfl ?_ ?_; focus ((repeat (first | exact LeDs.nil | refine LeDs.cons LeD.refl ?_)); done)) | (refine JO.ld (Ld.pureW hW (CT) (Nat.le_of_ble_eq_true rfl) rfl ?_) rfl (fun _ => ?_); focus ((repeat (first | exact LeDs.nil | refine LeDs.cons LeD.refl ?_)); done)) | (refine JO.ld (Ld.pureW hW (CP) (Nat.le_of_ble_eq_true rfl) rfl ?_) rfl (fun _ => ?_); focus ((repeat (first | exact LeDs.nil | refine LeDs.cons LeD.refl ?_)); done)) | (refine JO.pure (CS) rfl (Nat.le_of_ble_eq_true rfl) rfl ?_ ?_; focus ((repeat (first | exact LeDs.nil | refine LeDs.cons LeD.refl ?_)); done)) | (refine JO.ld (Ld.pureW hW (C1) (Nat.le_of_ble_eq_true rfl) rfl ?_) rfl (fun _ => ?_); focus ((repeat (first | exact LeDs.nil | refine LeDs.cons LeD.refl ?_)); done)) | (refine JO.ld (Ld.pureW hW (CQ) (Nat.le_of_ble_eq_true rfl) rfl ?_) rfl (fun _ => ?_); focus ((repeat (first | exact LeDs.nil | refine LeDs.cons LeD.refl ?_)); done)))
            | (refine K.unOp ?_; refine JO.q rfl rfl (Nat.le_of_ble_eq_true rfl) (Qt.not rfl) ?_)
            | (refine K.extract ?_; refine JO.q rfl rfl (Nat.le_of_ble_eq_true rfl) (Qt.extract rfl rfl) ?_)
            | (refine K.pick ?_; refine JO.q rfl rfl (Nat.le_of_ble_eq_true rfl) (Qt.pick rfl rfl) ?_)
            | refine JO.nil ?_
            | refine J.seq ?_
            | refine J.region ?_
            | refine J.skip ?_
            | refine J.cond_t rfl ?_
            | refine J.cond_f rfl ?_
            | refine JO.no rfl rfl (Nat.le_of_ble_eq_true rfl) ?_)
        exact J.ret Tryd.func4 rfl (.cons (.tmp rfl) .nil) () (by (exact .refl)) [] .nil rfl rfl
      · have q0 := Wr.prs_none hq hn
        subst q0
        have g1 : (n != 0) = true := by simpa using hn
        have g2 : (n == 0) = false := by simpa using hn
        repeat (first
            | (refine K.move ?_; refine JO.q rfl rfl (Nat.le_of_ble_eq_true rfl) (Qt.move rfl) ?_)
            | (refine K.assign ?_; refine JO.q rfl rfl (Nat.le_of_ble_eq_true rfl) (Qt.assign rfl) ?_)
            | (refine K.binOp ?_; first | refine JO.q rfl rfl (Nat.le_of_ble_eq_true rfl) (Qt.cmp rfl rfl (congrArg some g1)) ?_ | refine JO.q rfl rfl (Nat.le_of_ble_eq_true rfl) (Qt.cmp rfl rfl rfl) ?_)
            | (refine K.call ?_; first | (refine JO.pure (CR) rfl (Nat.le_of_ble_eq_true rfl) rfl ?_ ?_; focus ((repeat (first | exact LeDs.nil | refine LeDs.cons LeD.refl ?_)); done)) | (refine JO.ld (Ld.pureW hW (CT) (Nat.le_of_ble_eq_true rfl) rfl ?_) rfl (fun _ => ?_); focus ((repeat (first | exact LeDs.nil | refine LeDs.cons LeD.refl ?_)); done)) | (refine JO.ld (Ld.pureW hW (CP) (Nat.le_of_ble_eq_true rfl) rfl ?_) rfl (fun _ => ?_); focus ((repeat (first | exact LeDs.nil | refine LeDs.cons LeD.refl ?_)); done)) | (refine JO.pure (CS) rfl (Nat.le_of_ble_eq_true rfl) rfl ?_ ?_; focus ((repeat (first | exact LeDs.nil | refine LeDs.cons LeD.refl ?_)); done)) | (refine JO.ld (Ld.pureW hW (C1) (Nat.le_of_ble_eq_true rfl) rfl ?_) rfl (fun _ => ?_); focus ((repeat (first | exact LeDs.nil | refine LeDs.cons LeD.refl ?_)); done)))
            | (refine K.unOp ?_; refine JO.q rfl rfl (Nat.le_of_ble_eq_true rfl) (Qt.not rfl) ?_)
            | (refine K.bi ?_; (refine JO.q rfl rfl (Nat.le_of_ble_eq_true rfl) (Qt.lenM rfl) ?_))
            | (refine K.extract ?_; refine JO.q rfl rfl (Nat.le_of_ble_eq_true rfl) (Qt.extract rfl rfl) ?_)
            | (refine K.pick ?_; refine JO.q rfl rfl (Nat.le_of_ble_eq_true rfl) (Qt.pick rfl rfl) ?_)
            | refine JO.nil ?_
            | refine J.seq ?_
            | refine J.region ?_
            | refine J.skip ?_
            | refine J.cond_t rfl ?_
            | refine J.cond_f rfl ?_
            | refine JO.no rfl rfl (Nat.le_of_ble_eq_true rfl) ?_)
        exact J.ret Tryd.func4 rfl (.cons (.tmp rfl) .nil) () (by (exact .refl)) [] .nil rfl rfl
    | false =>
      rw [hr] at CR
      have e0 : Wd.text p = [] := by rw [Wd.txt_eq, if_neg (by rw [hr]; simp)]
      rw [e0] at CT
      have e1 : (([] : Wr.W) != []) = false := rfl
      by_cases hn : n = 0
      · subst hn
        have e5 : (Wd.text q == s) = true := by rw [Wr.prs_text hq]; simp
        repeat (first
            | (refine K.move ?_; refine JO.q rfl rfl (Nat.le_of_ble_eq_true rfl) (Qt.move rfl) ?_)
            | (refine K.assign ?_; refine JO.q rfl rfl (Nat.le_of_ble_eq_true rfl) (Qt.assign rfl) ?_)
            | (refine K.binOp ?_; first | refine JO.q rfl rfl (Nat.le_of_ble_eq_true rfl) ((Qt.strN rfl rfl).eq (congrArg (fun z => D.c (.v (.bool z))) (e1))) ?_ | refine JO.q rfl rfl (Nat.le_of_ble_eq_true rfl) ((Qt.strE rfl rfl).eq (congrArg (fun z => D.c (.v (.bool z))) (e5))) ?_ | refine JO.q rfl rfl (Nat.le_of_ble_eq_true rfl) (Qt.cmp rfl rfl rfl) ?_)
            | (refine K.call ?_; first | (refine JO.pure (CR) rfl (Nat.le_of_ble_eq_true rfl) rfl ?_ ?_; focus ((repeat (first | exact LeDs.nil | refine LeDs.cons LeD.refl ?_)); done)) | (refine JO.ld (Ld.pureW hW (CT) (Nat.le_of_ble_eq_true rfl) rfl ?_) rfl (fun _ => ?_); focus ((repeat (first | exact LeDs.nil | refine LeDs.cons LeD.refl ?_)); done)) | (refine JO.ld (Ld.pureW hW (C1) (Nat.le_of_ble_eq_true rfl) rfl ?_) rfl (fun _ => ?_); focus ((repeat (first | exact LeDs.nil | refine LeDs.cons LeD.refl ?_)); done)) | (refine JO.ld (Ld.pureW hW (CQ) (Nat.le_of_ble_eq_true rfl) rfl ?_) rfl (fun _ => ?_); focus ((repeat (first | exact LeDs.nil | refine LeDs.cons LeD.refl ?_)); done)))
            | (refine K.extract ?_; refine JO.q rfl rfl (Nat.le_of_ble_eq_true rfl) (Qt.extract rfl rfl) ?_)
            | (refine K.pick ?_; refine JO.q rfl rfl (Nat.le_of_ble_eq_true rfl) (Qt.pick rfl rfl) ?_)
            | refine JO.nil ?_
            | refine J.seq ?_
            | refine J.region ?_
            | refine J.skip ?_
            | refine J.cond_f rfl ?_
            | refine JO.no rfl rfl (Nat.le_of_ble_eq_true rfl) ?_)
        exact J.ret Tryd.func4 rfl (.cons (.tmp rfl) .nil) () (by (exact .refl)) [] .nil rfl rfl
      · have q0 := Wr.prs_none hq hn
        subst q0
        have g1 : (n != 0) = true := by simpa using hn
        have g2 : (n == 0) = false := by simpa using hn
        repeat (first
            | (refine K.move ?_; refine JO.q rfl rfl (Nat.le_of_ble_eq_true rfl) (Qt.move rfl) ?_)
            | (refine K.assign ?_; refine JO.q rfl rfl (Nat.le_of_ble_eq_true rfl) (Qt.assign rfl) ?_)
            | (refine K.binOp ?_; first | refine JO.q rfl rfl (Nat.le_of_ble_eq_true rfl) ((Qt.strN rfl rfl).eq (congrArg (fun z => D.c (.v (.bool z))) (e1))) ?_ | refine JO.q rfl rfl (Nat.le_of_ble_eq_true rfl) (Qt.cmp rfl rfl (congrArg some g1)) ?_ | refine JO.q rfl rfl (Nat.le_of_ble_eq_true rfl) (Qt.cmp rfl rfl rfl) ?_)
            | (refine K.call ?_; first | (refine JO.pure (CR) rfl (Nat.le_of_ble_eq_true rfl) rfl ?_ ?_; focus ((repeat (first | exact LeDs.nil | refine LeDs.cons LeD.refl ?_)); done)) | (refine JO.ld (Ld.pureW hW (CT) (Nat.le_of_ble_eq_true rfl) rfl ?_) rfl (fun _ => ?_); focus ((repeat (first | exact LeDs.nil | refine LeDs.cons LeD.refl ?_)); done)) | (refine JO.ld (Ld.pureW hW (C1) (Nat.le_of_ble_eq_true rfl) rfl ?_) rfl (fun _ => ?_); focus ((repeat (first | exact LeDs.nil | refine LeDs.cons LeD.refl ?_)); done)))
            | (refine K.bi ?_; (refine JO.q rfl rfl (Nat.le_of_ble_eq_true rfl) (Qt.lenM rfl) ?_))
            | (refine K.extract ?_; refine JO.q rfl rfl (Nat.le_of_ble_eq_true rfl) (Qt.extract rfl rfl) ?_)
            | (refine K.pick ?_; refine JO.q rfl rfl (Nat.le_of_ble_eq_true rfl) (Qt.pick rfl rfl) ?_)
            | refine JO.nil ?_
            | refine J.seq ?_
            | refine J.region ?_
            | refine J.skip ?_
            | refine J.cond_f rfl ?_
            | refine JO.no rfl rfl (Nat.le_of_ble_eq_true rfl) ?_)
        exact J.ret Tryd.func4 rfl (.cons (.tmp rfl) .nil) () (by (exact .refl)) [] .nil rfl rfl
end Fl
end Go.Proofs.YtbjnbngpjdoejaaDoor
namespace Go.Proofs.YtbjnbngpjdoejaaDoor
open Go.RowKit Go.ChangeShapes Go.WideShapes
set_option linter.unusedVariables false
set_option linter.unusedSimpArgs false
set_option linter.unnecessarySimpa false
namespace Fl
theorem wi_case : Si eCs caseE := fun ok w cs c U r _ => by
  obtain ⟨rfl, _⟩ := r
  exact RC.cons (RA.w rfl) (RC.cons (RA.w rfl) (RC.cons (RA.w rfl) RC.nil))
theorem wi_op : Si eOp opE := fun ok w cs o U r hS => by
  obtain ⟨vc, rfl, g⟩ := r
  exact RC.cons (RA.w rfl) (RC.cons (RA.w rfl) (RC.cons (RA.w rfl) (RC.cons (RA.w rfl) (RC.cons (wi_case.ra g hS) (RC.cons (RA.w rfl) RC.nil)))))
theorem wi_ops : Si (fun l : List Pn.Op => [A.r 6 (l.map eOp)]) opsE := wi_op.row
theorem law1W {H : World → Prop} {P : Program} {F : FuncId} {ds : List D} (h : PureW H P F ds (.c (bI true))) {w : World} (hH : H w) {xs : List Value} (hd : RDs (fun _ => True) w ds xs) : Calls P F xs.toArray w fun e w' => e = .returned (.bool true) ∧ Keeps [] w w' := by
  refine Calls.mono (h.go (fun _ => True) w xs hH hd (by simp) List.Pairwise.nil (by simp [foots])) ?_
  rintro en w' ⟨i, x, rfl, kp, _, _, _, r⟩
  unfold RD bI RA at r
  exact ⟨by rw [r.1], by simpa [foots] using kp⟩
theorem str_rd {ok : Nat → Prop} {w : World} (s : ByteArray) : RD ok w (.c (sA s.data.toList)) (.string s) := by
  unfold RD RA
  exact ⟨by simp [strV], rfl⟩
theorem wordsReads_walk (w : World) (s : ByteArray) (hH : Hw w) : Calls Tryd.prog 3 #[.string s] w fun e w' => e = .returned (.bool true) ∧ Keeps [] w w' :=
  law1W (c_WordsReads s.data.toList) hH (xs := [.string s]) (RDs.cons (str_rd s) RDs.nil)
theorem wordsBack_walk (w : World) (v : Value) (p : List (List Pn.Op)) (S : List Nat) (hp : GV opsE 1 w v p S) (s : ByteArray) (hH : Hw w) : Calls Tryd.prog 4 #[v, .string s] w fun e w' => e = .returned (.bool true) ∧ Keeps [] w w' := by
  have l1 : p.length ≤ 9223372036854775807 := by have := hp.le; unfold maxLen at this; omega
  have l2 : ∀ l ∈ p, l.length ≤ 9223372036854775807 := fun l hl => by
    obtain ⟨xs, T, h1, h2, _⟩ := hp
    obtain ⟨k, hk⟩ := List.getElem?_of_mem hl
    obtain ⟨V, ⟨u, _, g⟩, _⟩ := h2 k l hk
    have := g.le; unfold maxLen at this; omega
  exact law1W (c_WordsBack p s.data.toList l1 l2) hH (xs := [v, .string s]) (RDs.cons (by unfold RD; exact wi_ops.ra hp fun _ _ => trivial) (RDs.cons (str_rd s) RDs.nil))
end Fl
theorem star : "*" ++ "errors.errorString" = "*errors.errorString" := by decide
theorem rowErr (u : TypeId) (h : Tryd.prog.typeName? 3 u = some "*errors.errorString") : u = 125 :=
  typeName_ptr_named (nm := "errors.errorString") (by rw [star]; kernel_rfl) (by kernel_rfl) (by decide) u (by rw [star]; exact h)
theorem int_cell {P : Program} {w : World} {r : Reach} {base t : Nat} {v : Value} (hu : P.underlying t = some (.int .i64)) (h : Cell.ok P w r base t v) : ∃ m, v = .int .i64 m := by
  unfold Cell.ok at h
  rw [hu] at h
  cases v with
  | int k m => simp at h; exact ⟨m, by rw [h.1]⟩
  | _ => simp at h
set_option maxRecDepth 100000 in
theorem max_of_shape {W : World} (h : W.ShapedOpen Tryd.prog) : ∃ m, W.var? Tryd.prog "internal/bytealg.MaxLen" = some #[.int .i64 m] := by
  obtain ⟨cs, hh, hs, hr⟩ := h.1 0 #[.int .i64 0] 3 (of_decide_eq_true (by kernel_rfl)) (by kernel_rfl)
  obtain ⟨ts, hts, _, hall⟩ := hr (by kernel_rfl)
  have hc : Tryd.prog.cellTypes Tryd.prog.depth 3 = some [3] := by kernel_rfl
  rw [hc] at hts
  cases hts
  have hz : cs.size = 1 := hs
  have h1 : 0 < cs.size := by omega
  obtain ⟨u, hu', hok⟩ := hall 0 cs[0] (by simp [h1])
  have : u = 3 := by simpa using hu'.symm
  subst this
  obtain ⟨m, hm⟩ := int_cell Tryd.underlying3 hok
  refine ⟨m, ?_⟩
  have hg : Tryd.prog.globalNamed "internal/bytealg.MaxLen" = some 0 := by kernel_rfl
  unfold World.var?
  rw [hg, Option.bind_some, hh]
  have : cs = #[.int .i64 m] := by
    apply Array.ext
    · simp [hz]
    · intro i h1 h2
      have : i = 0 := by omega
      subst this
      simpa using hm
  simp [this]
theorem hw_of_laid {W : World} (h : laidMetH Tryd.prog Rows.wordsReadsRow.laid W) (hs : W.ShapedOpen Tryd.prog) : Fl.Hw W := by
  have h' : laidMet Tryd.prog [("math/bits.deBruijn32tab", Rows.laid_math_bits_deBruijn32tab), ("math/bits.deBruijn64tab", Rows.laid_math_bits_deBruijn64tab), ("internal/strconv.uint64pow10", Rows.laid_internal_strconv_uint64pow10), ("unicode/utf8.acceptRanges", Rows.laid_unicode_utf8_acceptRanges), ("strconv.ErrRange", Rows.laid_strconv_ErrRange), ("strconv.ErrSyntax", Rows.laid_strconv_ErrSyntax), ("unicode/utf8.first", Rows.laid_unicode_utf8_first)] W := h
  have h3 := h'.tail.tail
  have tb : Fl.Tb W := Lib.tabIs_of_head (g := 1) (t := 109) (e := 93) (n := 20) (by kernel_rfl) (by kernel_rfl) Tryd.underlying109 Tryd.underlying93 (by kernel_rfl) (by kernel_rfl) h3
  obtain ⟨a0, s0, v0, _⟩ := laid_sentinel (ti := 55) (tp := 125) (te := 127) (ts := 9) h3.tail.tail (g := 3) (by kernel_rfl) (by kernel_rfl) Tryd.underlying55 rowErr Tryd.underlying125 Tryd.underlying127 rfl rfl Tryd.underlying9 (by kernel_rfl) (by kernel_rfl)
  obtain ⟨a1, s1, v1, _⟩ := laid_sentinel (ti := 55) (tp := 125) (te := 127) (ts := 9) h3.tail.tail.tail (g := 2) (by kernel_rfl) (by kernel_rfl) Tryd.underlying55 rowErr Tryd.underlying125 Tryd.underlying127 rfl rfl Tryd.underlying9 (by kernel_rfl) (by kernel_rfl)
  exact ⟨tb, max_of_shape hs, ⟨_, _, v1⟩, ⟨_, _, v0⟩⟩
noncomputable def laidWorld (os : Os) : World := World.laidAll Tryd.prog os (Rows.wordsReadsRow.laid.filter fun x => x.2.handleName?.isNone)
theorem laidWorld_met (os : Os) (args : Array Value) : laidMetH Tryd.prog Rows.wordsReadsRow.laid ((laidWorld os).forCall (fun _ _ => 0) ⟨#[], args, []⟩).memory :=
  laidMetH_of_parts (laidMet_of_run' 88 (by kernel_rfl) (by kernel_rfl)) (by kernel_rfl)
end Go.Proofs.YtbjnbngpjdoejaaDoor
