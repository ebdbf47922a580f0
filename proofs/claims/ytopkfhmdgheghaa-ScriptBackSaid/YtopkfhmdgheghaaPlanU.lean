/-
  The document's SameOps and Same: contracts.
  Conditions: none.
-/
import Derived.Test.YtopkfhmdgheghaaPlanT
import Derived.Deep.DrawnRows
namespace Go.Proofs.Ytopkfhmdgheghaa
open Go.RowKit
set_option linter.unusedVariables false
set_option linter.unusedSimpArgs false
set_option linter.unnecessarySimpa false
attribute [local go_sem ↓] Go.wp_at_zero Go.wp_at_succ

set_option maxHeartbeats 1600000 in
theorem ref10_sameOps (w : World) (a b : List Pn.Op) (va vb : Value) (SA SB : List Nat) (ha : GV opE 6 w va a SA) (hb : GV opE 6 w vb b SB) :
    Calls Try.prog 85 #[va, vb] w fun e w' => e = .returned (.bool (decide (a = b))) ∧ Keeps [] w w' := by
  have hla := ha.le
  have hlb := hb.le
  unfold maxLen at hla hlb
  obtain ⟨ao1, cap1, rfl⟩ := ha.shape
  obtain ⟨ao2, cap2, rfl⟩ := hb.shape
  have HA := Lib.hid ha
  have HB := Lib.hid hb
  clear ha hb
  obtain ⟨q, hq0⟩ : ∃ q, decide (a = b) = q := ⟨_, rfl⟩
  rw [hq0]
  have HQ0 := Lib.hid hq0
  clear hq0
  by_cases hl : a.length = b.length
  · have HL := Lib.hid hl
    have hq : ((a.length : Int) != (b.length : Int)) = false := by simp [hl]
    clear hl
    go_enter Try.func85, Try.ntmps85
    go_wp2_with fail
    go_loopw [13] (fun u wr => ∃ k : Nat, k ≤ a.length ∧ u = .int .i64 k ∧ Hid (Keeps [] w wr ∧ ∀ j, j < k → a[j]? = b[j]?)) (fun u _ => a.length - (intOf u).toNat)
    case atStart => exact ⟨0, Nat.zero_le _, rfl, Lib.hid ⟨Keeps.refl _ _, fun j hj => by omega⟩⟩
    case round =>
      obtain ⟨k, hk, rfl, HI⟩ := hrel
      obtain ⟨wo, rfl⟩ : ∃ wo : World, wo = wr := ⟨_, rfl⟩
      by_cases hlt : k < a.length
      · obtain ⟨x, hx⟩ : ∃ x, a[k]? = some x := ⟨_, List.getElem?_eq_getElem hlt⟩
        obtain ⟨y, hy⟩ : ∃ y, b[k]? = some y := ⟨_, List.getElem?_eq_getElem (by have := HL.out; omega)⟩
        have hlt2 : k < b.length := by have := HL.out; omega
        obtain ⟨g1, off1, vc1, U1, rfl, _, hg1, ⟨a0, a1, a2, a3, a4, a5⟩, hux, _⟩ := (HA.out.then opE_kept HI.out.1).op hx
        obtain ⟨am1, cm1, rfl⟩ := hux.shape
        obtain ⟨g2, off2, vc2, U2, rfl, _, hg2, ⟨b0, b1, b2, b3, b4, b5⟩, huy, _⟩ := (HB.out.then opE_kept HI.out.1).op hy
        obtain ⟨am2, cm2, rfl⟩ := huy.shape
        have HX := Lib.hid hx
        have HY := Lib.hid hy
        have HUX := Lib.hid hux
        have HUY := Lib.hid huy
        have i0 : (0 : Int) ≤ (k : Int) := by omega
        have i1 : (k : Int) < (a.length : Int) := by omega
        have i2 : (k : Int) < (b.length : Int) := by omega
        clear hx hy hux huy
        by_cases hxy : x = y
        · have HXY : Hid (decide (x = y) = true) := Lib.hid (by rw [decide_eq_true_iff]; exact hxy)
          have HE := Lib.hid hxy
          clear hxy
          go_upto_region 6 with fail
          go_region_held3 (fun w' => w'.cell? ⟨g1, off1 + k * 6, none⟩ = some (.int .i64 x.kind) ∧ w'.cell? ⟨g1, off1 + k * 6 + 1, none⟩ = some (.int .i64 x.ch) ∧ w'.cell? ⟨g1, off1 + k * 6 + 2, none⟩ = some (.int .i64 x.n) ∧ w'.cell? ⟨g1, off1 + k * 6 + 3, none⟩ = some (.int .i64 x.v) ∧ w'.cell? ⟨g1, off1 + k * 6 + 4, none⟩ = some (.slice am1 x.cases.length cm1) ∧ w'.cell? ⟨g1, off1 + k * 6 + 5, none⟩ = some (.bool x.els) ∧ w'.cell? ⟨g2, off2 + k * 6, none⟩ = some (.int .i64 y.kind) ∧ w'.cell? ⟨g2, off2 + k * 6 + 1, none⟩ = some (.int .i64 y.ch) ∧ w'.cell? ⟨g2, off2 + k * 6 + 2, none⟩ = some (.int .i64 y.n) ∧ w'.cell? ⟨g2, off2 + k * 6 + 3, none⟩ = some (.int .i64 y.v) ∧ w'.cell? ⟨g2, off2 + k * 6 + 4, none⟩ = some (.slice am2 y.cases.length cm2) ∧ w'.cell? ⟨g2, off2 + k * 6 + 5, none⟩ = some (.bool y.els))
            (first | (with_reducible exact ⟨a0, a1, a2, a3, a4, a5, b0, b1, b2, b3, b4, b5⟩) | (with_reducible exact ⟨K8.out.cell a0 List.not_mem_nil, K8.out.cell a1 List.not_mem_nil, K8.out.cell a2 List.not_mem_nil, K8.out.cell a3 List.not_mem_nil, K8.out.cell a4 List.not_mem_nil, K8.out.cell a5 List.not_mem_nil, K8.out.cell b0 List.not_mem_nil, K8.out.cell b1 List.not_mem_nil, K8.out.cell b2 List.not_mem_nil, K8.out.cell b3 List.not_mem_nil, K8.out.cell b4 List.not_mem_nil, K8.out.cell b5 List.not_mem_nil⟩) | go_keep)
            (first
              | (go_at_call 91; (with_reducible refine (ref10_sameOp _ x y _ _ U1 U2 (HUX.out.then caseE_kept (Keeps.refl [] wo).drew) (HUY.out.then caseE_kept (Keeps.refl [] wo).drew)).mono ?_); rintro e w8 ⟨rfl, k8⟩; rw [HXY.out]; have K8 := Lib.hid (((Keeps.refl [] wo).drew).then k8); clear k8)
              | fail)
          go_wp2_with fail
          go_roundw
          case rel => exact ⟨k + 1, by omega, by go_num, Lib.hid ⟨HI.out.1.then K8.out, fun j hj => by
            by_cases e : j = k
            · subst e; rw [HX.out, HY.out, HE.out]
            · exact HI.out.2 j (by omega)⟩⟩
          case measure => simp [intOf]; omega
        · have HXY : Hid (decide (x = y) = false) := Lib.hid (by rw [decide_eq_false_iff_not]; exact hxy)
          have HN : Hid (false = q) := Lib.hid (by
            rw [← HQ0.out, eq_comm, decide_eq_false_iff_not]
            intro e
            have h1 := HX.out
            rw [e, HY.out] at h1
            exact hxy (Option.some.inj h1).symm)
          clear hxy
          go_upto_region 6 with fail
          go_region_held3 (fun w' => w'.cell? ⟨g1, off1 + k * 6, none⟩ = some (.int .i64 x.kind) ∧ w'.cell? ⟨g1, off1 + k * 6 + 1, none⟩ = some (.int .i64 x.ch) ∧ w'.cell? ⟨g1, off1 + k * 6 + 2, none⟩ = some (.int .i64 x.n) ∧ w'.cell? ⟨g1, off1 + k * 6 + 3, none⟩ = some (.int .i64 x.v) ∧ w'.cell? ⟨g1, off1 + k * 6 + 4, none⟩ = some (.slice am1 x.cases.length cm1) ∧ w'.cell? ⟨g1, off1 + k * 6 + 5, none⟩ = some (.bool x.els) ∧ w'.cell? ⟨g2, off2 + k * 6, none⟩ = some (.int .i64 y.kind) ∧ w'.cell? ⟨g2, off2 + k * 6 + 1, none⟩ = some (.int .i64 y.ch) ∧ w'.cell? ⟨g2, off2 + k * 6 + 2, none⟩ = some (.int .i64 y.n) ∧ w'.cell? ⟨g2, off2 + k * 6 + 3, none⟩ = some (.int .i64 y.v) ∧ w'.cell? ⟨g2, off2 + k * 6 + 4, none⟩ = some (.slice am2 y.cases.length cm2) ∧ w'.cell? ⟨g2, off2 + k * 6 + 5, none⟩ = some (.bool y.els))
            (first | (with_reducible exact ⟨a0, a1, a2, a3, a4, a5, b0, b1, b2, b3, b4, b5⟩) | (with_reducible exact ⟨K8.out.cell a0 List.not_mem_nil, K8.out.cell a1 List.not_mem_nil, K8.out.cell a2 List.not_mem_nil, K8.out.cell a3 List.not_mem_nil, K8.out.cell a4 List.not_mem_nil, K8.out.cell a5 List.not_mem_nil, K8.out.cell b0 List.not_mem_nil, K8.out.cell b1 List.not_mem_nil, K8.out.cell b2 List.not_mem_nil, K8.out.cell b3 List.not_mem_nil, K8.out.cell b4 List.not_mem_nil, K8.out.cell b5 List.not_mem_nil⟩) | go_keep)
            (first
              | (go_at_call 91; (with_reducible refine (ref10_sameOp _ x y _ _ U1 U2 (HUX.out.then caseE_kept (Keeps.refl [] wo).drew) (HUY.out.then caseE_kept (Keeps.refl [] wo).drew)).mono ?_); rintro e w8 ⟨rfl, k8⟩; rw [HXY.out]; have K8 := Lib.hid (((Keeps.refl [] wo).drew).then k8); clear k8)
              | fail)
          go_wp2_with fail
          go_ret
          exact ⟨ret_bool HN.out, HI.out.1.then K8.out⟩
      · obtain rfl : k = a.length := by omega
        have HN : Hid (true = q) := Lib.hid (by
          rw [← HQ0.out, eq_comm, decide_eq_true_iff, list_same HL.out HI.out.2])
        go_wp2_with fail
        go_ret
        exact ⟨ret_bool HN.out, HI.out.1⟩
  · have hq : ((a.length : Int) != (b.length : Int)) = true := by simp; omega
    have HN : Hid (false = q) := Lib.hid (by
      rw [← HQ0.out, eq_comm, decide_eq_false_iff_not]; intro e; exact hl (by rw [e]))
    clear hl
    go_enter Try.func85, Try.ntmps85
    go_wp2_with fail
    go_ret
    exact ⟨ret_bool HN.out, Keeps.refl _ _⟩

set_option maxHeartbeats 1600000 in
theorem ref10_same (w : World) (a b : List (List Pn.Op)) (va vb : Value) (SA SB : List Nat) (ha : GV opsE 1 w va a SA) (hb : GV opsE 1 w vb b SB) :
    Calls Try.prog 52 #[va, vb] w fun e w' => e = .returned (.bool (decide (a = b))) ∧ Keeps [] w w' := by
  have hla := ha.le
  have hlb := hb.le
  unfold maxLen at hla hlb
  obtain ⟨ao1, cap1, rfl⟩ := ha.shape
  obtain ⟨ao2, cap2, rfl⟩ := hb.shape
  have HA := Lib.hid ha
  have HB := Lib.hid hb
  clear ha hb
  obtain ⟨q, hq0⟩ : ∃ q, decide (a = b) = q := ⟨_, rfl⟩
  rw [hq0]
  have HQ0 := Lib.hid hq0
  clear hq0
  by_cases hl : a.length = b.length
  · have HL := Lib.hid hl
    have hq : ((a.length : Int) != (b.length : Int)) = false := by simp [hl]
    clear hl
    go_enter Try.func52, Try.ntmps52
    go_wp2_with fail
    go_loopw [13] (fun u wr => ∃ k : Nat, k ≤ a.length ∧ u = .int .i64 k ∧ Hid (Keeps [] w wr ∧ ∀ j, j < k → a[j]? = b[j]?)) (fun u _ => a.length - (intOf u).toNat)
    case atStart => exact ⟨0, Nat.zero_le _, rfl, Lib.hid ⟨Keeps.refl _ _, fun j hj => by omega⟩⟩
    case round =>
      obtain ⟨k, hk, rfl, HI⟩ := hrel
      obtain ⟨wo, rfl⟩ : ∃ wo : World, wo = wr := ⟨_, rfl⟩
      by_cases hlt : k < a.length
      · obtain ⟨x, hx⟩ : ∃ x, a[k]? = some x := ⟨_, List.getElem?_eq_getElem hlt⟩
        obtain ⟨y, hy⟩ : ∃ y, b[k]? = some y := ⟨_, List.getElem?_eq_getElem (by have := HL.out; omega)⟩
        have hlt2 : k < b.length := by have := HL.out; omega
        obtain ⟨g1, off1, _, U1, rfl, _, hg1, a0, ⟨v1, hv1, hux⟩, _⟩ := (HA.out.then opsE_kept HI.out.1).one hx
        cases hv1
        obtain ⟨am1, cm1, rfl⟩ := hux.shape
        obtain ⟨g2, off2, _, U2, rfl, _, hg2, b0, ⟨v2, hv2, huy⟩, _⟩ := (HB.out.then opsE_kept HI.out.1).one hy
        cases hv2
        obtain ⟨am2, cm2, rfl⟩ := huy.shape
        have HX := Lib.hid hx
        have HY := Lib.hid hy
        have HUX := Lib.hid hux
        have HUY := Lib.hid huy
        have i0 : (0 : Int) ≤ (k : Int) := by omega
        have i1 : (k : Int) < (a.length : Int) := by omega
        have i2 : (k : Int) < (b.length : Int) := by omega
        clear hx hy hux huy
        by_cases hxy : x = y
        · have HXY : Hid (decide (x = y) = true) := Lib.hid (by rw [decide_eq_true_iff]; exact hxy)
          have HE := Lib.hid hxy
          clear hxy
          go_upto_region 6 with fail
          go_region_held3 (fun w' => w'.cell? ⟨g1, off1 + k, none⟩ = some (.slice am1 x.length cm1) ∧ w'.cell? ⟨g2, off2 + k, none⟩ = some (.slice am2 y.length cm2))
            (first | (with_reducible exact ⟨a0, b0⟩) | (with_reducible exact ⟨K8.out.cell a0 List.not_mem_nil, K8.out.cell b0 List.not_mem_nil⟩) | go_keep)
            (first
              | (go_at_call 85; (with_reducible refine (ref10_sameOps _ x y _ _ U1 U2 (HUX.out.then opE_kept (Keeps.refl [] wo).drew) (HUY.out.then opE_kept (Keeps.refl [] wo).drew)).mono ?_); rintro e w8 ⟨rfl, k8⟩; rw [HXY.out]; have K8 := Lib.hid (((Keeps.refl [] wo).drew).then k8); clear k8)
              | fail)
          go_wp2_with fail
          go_roundw
          case rel => exact ⟨k + 1, by omega, by go_num, Lib.hid ⟨HI.out.1.then K8.out, fun j hj => by
            by_cases e : j = k
            · subst e; rw [HX.out, HY.out, HE.out]
            · exact HI.out.2 j (by omega)⟩⟩
          case measure => simp [intOf]; omega
        · have HXY : Hid (decide (x = y) = false) := Lib.hid (by rw [decide_eq_false_iff_not]; exact hxy)
          have HN : Hid (false = q) := Lib.hid (by
            rw [← HQ0.out, eq_comm, decide_eq_false_iff_not]
            intro e
            have h1 := HX.out
            rw [e, HY.out] at h1
            exact hxy (Option.some.inj h1).symm)
          clear hxy
          go_upto_region 6 with fail
          go_region_held3 (fun w' => w'.cell? ⟨g1, off1 + k, none⟩ = some (.slice am1 x.length cm1) ∧ w'.cell? ⟨g2, off2 + k, none⟩ = some (.slice am2 y.length cm2))
            (first | (with_reducible exact ⟨a0, b0⟩) | (with_reducible exact ⟨K8.out.cell a0 List.not_mem_nil, K8.out.cell b0 List.not_mem_nil⟩) | go_keep)
            (first
              | (go_at_call 85; (with_reducible refine (ref10_sameOps _ x y _ _ U1 U2 (HUX.out.then opE_kept (Keeps.refl [] wo).drew) (HUY.out.then opE_kept (Keeps.refl [] wo).drew)).mono ?_); rintro e w8 ⟨rfl, k8⟩; rw [HXY.out]; have K8 := Lib.hid (((Keeps.refl [] wo).drew).then k8); clear k8)
              | fail)
          go_wp2_with fail
          go_ret
          exact ⟨ret_bool HN.out, HI.out.1.then K8.out⟩
      · obtain rfl : k = a.length := by omega
        have HN : Hid (true = q) := Lib.hid (by
          rw [← HQ0.out, eq_comm, decide_eq_true_iff, list_same HL.out HI.out.2])
        go_wp2_with fail
        go_ret
        exact ⟨ret_bool HN.out, HI.out.1⟩
  · have hq : ((a.length : Int) != (b.length : Int)) = true := by simp; omega
    have HN : Hid (false = q) := Lib.hid (by
      rw [← HQ0.out, eq_comm, decide_eq_false_iff_not]; intro e; exact hl (by rw [e]))
    clear hl
    go_enter Try.func52, Try.ntmps52
    go_wp2_with fail
    go_ret
    exact ⟨ret_bool HN.out, Keeps.refl _ _⟩

end Go.Proofs.Ytopkfhmdgheghaa
