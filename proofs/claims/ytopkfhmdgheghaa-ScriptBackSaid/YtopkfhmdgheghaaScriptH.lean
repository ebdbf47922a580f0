/-
  handoffref24.Same: its contract.
  Conditions: none.
-/
import Derived.Test.YtopkfhmdgheghaaScriptG
import Derived.BigQuiet
namespace Go.Proofs.Ytopkfhmdgheghaa
open Go.RowKit
set_option linter.unusedVariables false
set_option linter.unusedSimpArgs false
set_option linter.unnecessarySimpa false

instance scDec (a b : Sn.Sc) : Decidable (a = b) :=
  decidable_of_iff (a.plan = b.plan ∧ a.sudogs = b.sudogs ∧ a.cache = b.cache ∧ a.draws = b.draws ∧ a.picks = b.picks)
    ⟨fun h => Sn.Sc.ext h.1 h.2.1 h.2.2.1 h.2.2.2.1 h.2.2.2.2, fun h => by subst h; exact ⟨rfl, rfl, rfl, rfl, rfl⟩⟩
theorem sc_ne {a b : Sn.Sc} {q : Bool} (hq : decide (a = b) = q) (h : a = b → False) : false = q := by
  rw [← hq, eq_comm, decide_eq_false_iff_not]; exact h
theorem sc_eq {a b : Sn.Sc} {q : Bool} (hq : decide (a = b) = q) (h : a = b) : true = q := by
  rw [← hq, eq_comm, decide_eq_true_iff]; exact h

set_option maxRecDepth 100000 in
set_option maxHeartbeats 3200000 in
theorem ref24_same (w : World) (ca cb : List Value) (a b : Sn.Sc) (SA SB : List Nat) (ha : scE w ca a SA) (hb : scE w cb b SB) :
    Calls Try.prog 16 #[.agg ca.toArray, .agg cb.toArray] w fun e w' => e = .returned (.bool (decide (a = b))) ∧ Keeps [] w w' := by
  obtain ⟨va, vd, vk, rfl, a1, a2, a3⟩ := ha
  obtain ⟨ua, ud, uk, rfl, b1, b2, b3⟩ := hb
  obtain ⟨q, hq0⟩ : ∃ q, decide (a = b) = q := ⟨_, rfl⟩
  rw [hq0]
  have HQ0 := Lib.hid hq0
  clear hq0
  obtain ⟨p, x1, x2, ds, ps⟩ := a
  obtain ⟨p', y1, y2, ds', ps'⟩ := b
  simp only at a1 a2 a3 b1 b2 b3 ⊢
  have m1 := a2.le
  have m2 := a3.le
  have m3 := b2.le
  have m4 := b3.le
  unfold maxLen at m1 m2 m3 m4
  obtain ⟨ap, cp, rfl⟩ := a1.shape
  obtain ⟨ad, cd, rfl⟩ := a2.shape
  obtain ⟨ak, ck, rfl⟩ := a3.shape
  obtain ⟨ap', cp', rfl⟩ := b1.shape
  obtain ⟨ad', cd', rfl⟩ := b2.shape
  obtain ⟨ak', ck', rfl⟩ := b3.shape
  obtain ⟨w0, hw0⟩ : ∃ w0, (w.alloc (.cells #[.slice ap p.length cp, .int .i64 x1, .int .i64 x2, .slice ad ds.length cd, .slice ak ps.length ck] 42)).alloc (.cells #[.slice ap' p'.length cp', .int .i64 y1, .int .i64 y2, .slice ad' ds'.length cd', .slice ak' ps'.length ck'] 42) = w0 := ⟨_, rfl⟩
  have H0 : Hid (Keeps [] w w0) := Lib.hid (hw0 ▸ ((Keeps.refl [] w).alloc _).alloc _)
  have HBA : Hid (Blk w0 w.heap.size [.slice ap p.length cp, .int .i64 x1, .int .i64 x2, .slice ad ds.length cd, .slice ak ps.length ck] 42) := Lib.hid (hw0 ▸ (Blk.fresh w _ _ _ rfl).alloc _)
  have HBB : Hid (Blk w0 (w.heap.size + 1) [.slice ap' p'.length cp', .int .i64 y1, .int .i64 y2, .slice ad' ds'.length cd', .slice ak' ps'.length ck'] 42) := Lib.hid (hw0 ▸ Blk.fresh _ _ _ _ (by simp))
  have HA1 := Lib.hid (a1.then opsE_kept H0.out)
  have HA2 := Lib.hid (a2.then (numE_kept _) H0.out)
  have HA3 := Lib.hid (a3.then (numE_kept _) H0.out)
  have HB1 := Lib.hid (b1.then opsE_kept H0.out)
  have HB2 := Lib.hid (b2.then (numE_kept _) H0.out)
  have HB3 := Lib.hid (b3.then (numE_kept _) H0.out)
  clear a1 a2 a3 b1 b2 b3
  have z0 : w0.cell? ⟨w.heap.size, 0, none⟩ = some (.slice ap p.length cp) := HBA.out.cell 0
  have z1 : w0.cell? ⟨w.heap.size + 1, 0, none⟩ = some (.slice ap' p'.length cp') := HBB.out.cell 0
  go_enter Try.func16, Try.ntmps16
  go_wp2_with fail
  refine (ref10_same _ p p' _ _ SA SB HA1.out HB1.out).mono ?_
  rintro e w1 ⟨rfl, k1⟩
  have K1 := Lib.hid k1
  have KW := Lib.hid (H0.out.then k1)
  obtain ⟨⟨c0, c1, c2, c3, c4⟩, _⟩ := Blk.five (HBA.out.keep k1 (by simp))
  obtain ⟨⟨d0, d1, d2, d3, d4⟩, _⟩ := Blk.five (HBB.out.keep k1 (by simp))
  have hgd := cfg_guard
  clear k1 z0 z1 hw0
  by_cases hp : p = p'
  · rw [decide_eq_true hp]
    have HPP := Lib.hid hp
    clear hp
    by_cases hc : x1 = y1 ∧ x2 = y2
    · have hrn : ∀ w : World, (binOp .neq 38 (.agg #[.int .i64 x1, .int .i64 x2]) (.agg #[.int .i64 y1, .int .i64 y2])).run Try.prog w = .ok (.bool false) w := fun w => by
        have := run_neq_cfg w x1 x2 y1 y2
        rwa [decide_eq_true hc] at this
      have HCC := Lib.hid hc
      clear hc
      by_cases hd : ds.length = ds'.length
      · have hd1 : ((ds.length : Int) != (ds'.length : Int)) = false := by simp [hd]
        have HD := Lib.hid hd
        clear hd
        by_cases hk : ps.length = ps'.length
        · have hk1 : ((ps.length : Int) != (ps'.length : Int)) = false := by simp [hk]
          have HK := Lib.hid hk
          clear hk
          go_wp2_with fail
          clear hrn
          go_loopw [41] (fun u wr => ∃ k : Nat, k ≤ ds.length ∧ u = .int .i64 k ∧ Hid (Keeps [] w1 wr ∧ ∀ j, j < k → ds[j]? = ds'[j]?)) (fun u _ => ds.length - (intOf u).toNat)
          case atStart => exact ⟨0, Nat.zero_le _, rfl, Lib.hid ⟨Keeps.refl _ _, fun j hj => by omega⟩⟩
          case round =>
            obtain ⟨k, hk, rfl, HI⟩ := hrel
            obtain ⟨wo, rfl⟩ : ∃ wo : World, wo = wr := ⟨_, rfl⟩
            have KO := Lib.hid (K1.out.then HI.out.1)
            obtain ⟨⟨c0, c1, c2, c3, c4⟩, _⟩ := Blk.five (HBA.out.keep KO.out (by simp))
            obtain ⟨⟨d0, d1, d2, d3, d4⟩, _⟩ := Blk.five (HBB.out.keep KO.out (by simp))
            by_cases hlt : k < ds.length
            · have hlt2 : k < ds'.length := by have := HD.out; omega
              obtain ⟨g1, off1, rfl, _, _, e1⟩ := (HA2.out.then (numE_kept _) KO.out).num hlt
              obtain ⟨g2, off2, rfl, _, _, e2⟩ := (HB2.out.then (numE_kept _) KO.out).num hlt2
              obtain ⟨x, hx⟩ : ∃ x, ds.getD k 0 = x := ⟨_, rfl⟩
              obtain ⟨y, hy⟩ : ∃ y, ds'.getD k 0 = y := ⟨_, rfl⟩
              have HX : Hid (ds[k]? = some x) := Lib.hid (by rw [← hx]; simp [List.getD, hlt])
              have HY : Hid (ds'[k]? = some y) := Lib.hid (by rw [← hy]; simp [List.getD, hlt2])
              rw [hx] at e1
              rw [hy] at e2
              have i0 : (0 : Int) ≤ (k : Int) := by omega
              have i1 : (k : Int) < (ds.length : Int) := by omega
              have i2 : (k : Int) < (ds'.length : Int) := by omega
              clear hx hy
              by_cases hxy : x = y
              · have hb : (x != y) = false := by simp [hxy]
                have HE := Lib.hid hxy
                clear hxy
                go_upto_region 6 with fail
                go_quiet (fail)
                go_wp2_with fail
                go_roundw
                case rel => exact ⟨k + 1, by omega, by go_num, Lib.hid ⟨HI.out.1.drewN _, fun j hj => by
                  by_cases e : j = k
                  · subst e; rw [HX.out, HY.out, HE.out]
                  · exact HI.out.2 j (by omega)⟩⟩
                case measure => simp [intOf]; omega
              · have hb : (x != y) = true := by simp [hxy]
                have HN : Hid (false = q) := Lib.hid (sc_ne HQ0.out (fun e => by
                  injection e with _ _ _ e4 e5
                  have h1 := HX.out
                  rw [e4, HY.out] at h1
                  exact hxy (Option.some.inj h1).symm))
                clear hxy
                go_upto_region 6 with fail
                go_quiet (fail)
                go_wp2_with fail
                go_ret
                exact ⟨ret_bool HN.out, (H0.out.then KO.out).drewN _⟩
            · obtain rfl : k = ds.length := by omega
              have HDS := Lib.hid (list_same HD.out HI.out.2)
              go_wp2_with fail
              clear HI c0 c1 c2 c3 c4 d0 d1 d2 d3 d4
              go_loopw [59] (fun u wr => ∃ k : Nat, k ≤ ps.length ∧ u = .int .i64 k ∧ Hid (Keeps [] wo wr ∧ ∀ j, j < k → ps[j]? = ps'[j]?)) (fun u _ => ps.length - (intOf u).toNat)
              case atStart => exact ⟨0, Nat.zero_le _, rfl, Lib.hid ⟨Keeps.refl _ _, fun j hj => by omega⟩⟩
              case round =>
                obtain ⟨k, hk, rfl, HI⟩ := hrel
                obtain ⟨wi, rfl⟩ : ∃ wo : World, wo = wr := ⟨_, rfl⟩
                have KO := Lib.hid (KO.out.then HI.out.1)
                obtain ⟨⟨c0, c1, c2, c3, c4⟩, _⟩ := Blk.five (HBA.out.keep KO.out (by simp))
                obtain ⟨⟨d0, d1, d2, d3, d4⟩, _⟩ := Blk.five (HBB.out.keep KO.out (by simp))
                by_cases hlt : k < ps.length
                · have hlt2 : k < ps'.length := by have := HK.out; omega
                  obtain ⟨g1, off1, rfl, _, _, e1⟩ := (HA3.out.then (numE_kept _) KO.out).num hlt
                  obtain ⟨g2, off2, rfl, _, _, e2⟩ := (HB3.out.then (numE_kept _) KO.out).num hlt2
                  obtain ⟨x, hx⟩ : ∃ x, ps.getD k 0 = x := ⟨_, rfl⟩
                  obtain ⟨y, hy⟩ : ∃ y, ps'.getD k 0 = y := ⟨_, rfl⟩
                  have HX : Hid (ps[k]? = some x) := Lib.hid (by rw [← hx]; simp [List.getD, hlt])
                  have HY : Hid (ps'[k]? = some y) := Lib.hid (by rw [← hy]; simp [List.getD, hlt2])
                  rw [hx] at e1
                  rw [hy] at e2
                  have i0 : (0 : Int) ≤ (k : Int) := by omega
                  have i1 : (k : Int) < (ps.length : Int) := by omega
                  have i2 : (k : Int) < (ps'.length : Int) := by omega
                  clear hx hy
                  by_cases hxy : x = y
                  · have hb : (x != y) = false := by simp [hxy]
                    have HE := Lib.hid hxy
                    clear hxy
                    go_upto_region 12 with fail
                    go_quiet (fail)
                    go_wp2_with fail
                    go_roundw
                    case rel => exact ⟨k + 1, by omega, by go_num, Lib.hid ⟨HI.out.1.drewN _, fun j hj => by
                      by_cases e : j = k
                      · subst e; rw [HX.out, HY.out, HE.out]
                      · exact HI.out.2 j (by omega)⟩⟩
                    case measure => simp [intOf]; omega
                  · have hb : (x != y) = true := by simp [hxy]
                    have HN : Hid (false = q) := Lib.hid (sc_ne HQ0.out (fun e => by
                      injection e with _ _ _ e4 e5
                      have h1 := HX.out
                      rw [e5, HY.out] at h1
                      exact hxy (Option.some.inj h1).symm))
                    clear hxy
                    go_upto_region 12 with fail
                    go_quiet (fail)
                    go_wp2_with fail
                    go_ret
                    exact ⟨ret_bool HN.out, (H0.out.then KO.out).drewN _⟩
                · obtain rfl : k = ps.length := by omega
                  have HDL := Lib.hid (list_same HK.out HI.out.2)
                  have HN : Hid (true = q) := Lib.hid (sc_eq HQ0.out (Sn.Sc.ext HPP.out HCC.out.1 HCC.out.2 HDS.out HDL.out))
                  go_wp2_with fail
                  go_ret
                  exact ⟨ret_bool HN.out, H0.out.then KO.out⟩
        · have hk1 : ((ps.length : Int) != (ps'.length : Int)) = true := by simp; omega
          have HN : Hid (false = q) := Lib.hid (sc_ne HQ0.out (fun e => hk (by injection e with _ _ _ _ e5; rw [e5])))
          clear hk
          go_wp2_with fail
          go_ret
          exact ⟨ret_bool HN.out, KW.out⟩
      · have hd1 : ((ds.length : Int) != (ds'.length : Int)) = true := by simp; omega
        have HN : Hid (false = q) := Lib.hid (sc_ne HQ0.out (fun e => hd (by injection e with _ _ _ e4 _; rw [e4])))
        clear hd
        go_wp2_with fail
        go_ret
        exact ⟨ret_bool HN.out, KW.out⟩
    · have hrn : ∀ w : World, (binOp .neq 38 (.agg #[.int .i64 x1, .int .i64 x2]) (.agg #[.int .i64 y1, .int .i64 y2])).run Try.prog w = .ok (.bool true) w := fun w => by
        have := run_neq_cfg w x1 x2 y1 y2
        rwa [decide_eq_false hc] at this
      have HN : Hid (false = q) := Lib.hid (sc_ne HQ0.out (fun e => hc (by injection e with _ e2 e3 _ _; exact ⟨e2, e3⟩)))
      clear hc
      go_wp2_with fail
      go_ret
      exact ⟨ret_bool HN.out, KW.out⟩
  · rw [decide_eq_false hp]
    have HN : Hid (false = q) := Lib.hid (sc_ne HQ0.out (fun e => hp (by injection e)))
    clear hp
    go_wp2_with fail
    go_ret
    exact ⟨ret_bool HN.out, KW.out⟩
end Go.Proofs.Ytopkfhmdgheghaa
