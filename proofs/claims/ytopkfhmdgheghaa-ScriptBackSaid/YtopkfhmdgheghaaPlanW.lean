/-
  The document's Encode: its contract.
  Conditions: none.
-/
import Derived.Test.YtopkfhmdgheghaaPlanZ
namespace Go.Proofs.Ytopkfhmdgheghaa
open Go.RowKit
set_option linter.unusedVariables false
set_option linter.unusedSimpArgs false
set_option linter.unnecessarySimpa false
attribute [local go_sem ↓] Go.wp_at_zero Go.wp_at_succ

set_option maxRecDepth 100000 in
set_option maxHeartbeats 3200000 in
theorem ref10_encode (w : World) (v : Value) (p : List (List Pn.Op)) (S : List Nat) (h : GV opsE 1 w v p S) : Calls Try.prog 50 #[v] w (EncodePost p w) := by
  have hle := h.le
  unfold maxLen at hle
  obtain ⟨ao, cap, rfl⟩ := h.shape
  have HP := Lib.hid h
  have HSL := Lib.hid h.lt
  clear h
  cases hr : Pn.right p with
  | false =>
    have HR := Lib.hid hr
    go_enter Try.func50, Try.ntmps50
    go_wp2_with fail
    refine (ref10_right _ _ p S HP.out).mono ?_
    rintro e w1 ⟨rfl, k1⟩
    rw [hr]
    have K1 := Lib.hid k1
    clear k1 hr
    go_wp2_with fail
    go_ret2
    exact .inr ⟨HR.out, rfl, K1.out⟩
  | true =>
    have HR := Lib.hid hr
    obtain ⟨q1, q2, q3⟩ := Pn.right_rows hr
    have HRW := Lib.hid q3
    clear q3
    go_enter Try.func50, Try.ntmps50
    go_wp2_with fail
    refine (ref10_right _ _ p S HP.out).mono ?_
    rintro e w1 ⟨rfl, k1⟩
    rw [hr]
    have K1 := Lib.hid k1
    have D0 : Hid (EW w (w1.alloc (.cells #[.int .u8 ((p.length : Int) - 1)] 5)) (.slice (some ⟨w1.heap.size, 0, none⟩) 1 1) [(p.length : Int) - 1]) := Lib.hid ⟨[w1.heap.size], KR.lit .u8 w1 [(p.length : Int) - 1] _ _ rfl (by simp), k1.alloc _, fun x hx => by have := k1.size; simp at hx; omega⟩
    clear k1 hr
    go_wp2_with fail
    go_loopw [21, 4] (fun u v wr => ∃ k : Nat, k ≤ p.length ∧ u = .int .i64 k ∧ EW w wr v (((p.length : Int) - 1) :: (p.take k).flatMap Pn.encOps)) (fun u _ _ => p.length - (intOf u).toNat)
    case atStart => exact ⟨0, Nat.zero_le _, rfl, D0.out⟩
    case round =>
      obtain ⟨k, hk, rfl, Ti, hkr, hkp, hti⟩ := hrel
      obtain ⟨wo, rfl⟩ : ∃ wo : World, wo = wr := ⟨_, rfl⟩
      have htl := flat_le Pn.encOps 500 p (fun l hl => Pn.encOps_len (HRW.out l hl)) k
      obtain ⟨lk, hlk⟩ : ∃ z, ((p.length : Int) - 1) :: (p.take k).flatMap Pn.encOps = z := ⟨_, rfl⟩
      have hblk : lk.length ≤ 5000 := by rw [← hlk, List.length_cons]; omega
      rw [hlk] at hkr
      obtain ⟨ak, ck, rfl⟩ := hkr.shape
      have HLK := Lib.hid hlk
      have HK := Lib.hid hkr
      have KP := Lib.hid hkp
      have HT := Lib.hid hti
      clear hkr hkp hti hlk htl D0
      by_cases hlt : k < p.length
      · obtain ⟨l, hx⟩ : ∃ l, p[k]? = some l := ⟨_, List.getElem?_eq_getElem hlt⟩
        obtain ⟨g1, off1, _, U1, rfl, _, _, a0, ⟨v1, hv1, hux⟩, _⟩ := (HP.out.then opsE_kept KP.out).one hx
        cases hv1
        obtain ⟨am, cm, rfl⟩ := hux.shape
        obtain ⟨m1, m2⟩ := Pn.rows_ops (HRW.out l (List.mem_of_getElem? hx))
        have HM := Lib.hid m2
        have HX := Lib.hid hx
        clear hx m2
        have HU : Hid (∀ wr, Keeps [] w wr → ∃ U, GV opE 6 wr (.slice am l.length cm) l U ∧ ∀ x ∈ U, x < w.heap.size) := Lib.hid (fun wr kw => by
          obtain ⟨g2, off2, v2, U2, e1, _, _, c2, ⟨v3, hv3, hu3⟩, hU⟩ := (HP.out.then opsE_kept kw).one HX.out
          cases hv3
          cases e1
          have c1 := (HP.out.then opsE_kept (Keeps.refl [] w)).one HX.out
          obtain ⟨g4, off4, v4, U4, e4, _, h4, c4, ⟨v5, hv5, hu5⟩, hU5⟩ := c1
          cases hv5
          cases e4
          have e5 := KP.out.cell c4 (by simp)
          rw [a0] at e5
          cases e5
          exact ⟨U4, hu5.then opE_kept kw, fun x hx => HSL.out x (hU5 x hx)⟩)
        clear hux
        go_wp2_with (at_builtin; go_must (refine wp_appk1 elemByte HK.out (by omega) ?_))
        intro ao1 cap1 w1' T1 r1 k1 s1
        obtain ⟨l0, hl0⟩ : ∃ z, lk ++ [(l.length : Int)] = z := ⟨_, rfl⟩
        have hb0 : l0.length ≤ 5001 := by rw [← hl0]; simp; omega
        rw [hl0] at r1
        have HL0 := Lib.hid hl0
        generalize Value.slice ao1 (lk.length + 1) cap1 = v1 at *
        have E1 := Lib.hid (EW.next HT.out KP.out r1 k1 s1)
        clear r1 k1 s1 hl0
        go_wp2_with fail
        go_loopw [33, 4] (fun u v wr => ∃ j : Nat, j ≤ l.length ∧ u = .int .i64 j ∧ EW w wr v (l0 ++ (l.take j).flatMap Pn.encOp)) (fun u _ _ => l.length - (intOf u).toNat)
        case atStart => exact ⟨0, Nat.zero_le _, rfl, by simpa using E1.out⟩
        case round =>
          obtain ⟨j, hj, rfl, Tj, hkr, hkp, hti⟩ := hrel
          obtain ⟨wi, rfl⟩ : ∃ wi : World, wi = wr := ⟨_, rfl⟩
          have htl := flat_le Pn.encOp 30 l (fun o ho => Pn.encOp_len (HM.out o ho)) j
          obtain ⟨lj, hlj⟩ : ∃ z, l0 ++ (l.take j).flatMap Pn.encOp = z := ⟨_, rfl⟩
          have hblj : lj.length ≤ 10000 := by rw [← hlj, List.length_append]; omega
          rw [hlj] at hkr
          obtain ⟨aj, cj, rfl⟩ := hkr.shape
          have HLJ := Lib.hid hlj
          have HKJ := Lib.hid hkr
          have KPJ := Lib.hid hkp
          have HTJ := Lib.hid hti
          clear hkr hkp hti hlj htl E1
          by_cases hlt2 : j < l.length
          · obtain ⟨o, ho⟩ : ∃ o, l[j]? = some o := ⟨_, List.getElem?_eq_getElem hlt2⟩
            obtain ⟨UR, hur, hul⟩ := HU.out wi KPJ.out
            obtain ⟨g2, off2, vc, U2, rfl, _, hg2, ⟨b0, b1, b2, b3, b4, b5⟩, hu, hsub⟩ := hur.op ho
            obtain ⟨ac, cc, rfl⟩ := hu.shape
            have hro := HM.out o (List.mem_of_getElem? ho)
            unfold Pn.rightOp at hro
            rw [decide_eq_true_iff] at hro
            obtain ⟨a1, a2, a3, a4, a5, a6, a7, a8, a9, d1, d2, d3, d4, d5⟩ := hro
            have HO := Lib.hid ho
            have HG := Lib.hid hu
            have HDJ : Hid (∀ x ∈ U2, x ∉ Tj) := Lib.hid (fun x hx hm => by have h1 := hul x (hsub x hx); have h2 := HTJ.out x hm; omega)
            clear ho hu hur hul hsub
            obtain ⟨k, ch, n, vv, cs, els⟩ := o
            simp only at b0 b1 b2 b3 b4 b5 a1 a2 a3 a4 a5 a6 a7 a8 a9 d1 d2 d3 d4 d5 HG
            have E0 : Hid (ES wi (wi.alloc (.cells #[.int .i64 k, .int .i64 ch, .int .i64 n, .int .i64 vv, .slice ac cs.length cc, .bool els] 33)) Tj wi.heap.size [.int .i64 k, .int .i64 ch, .int .i64 n, .int .i64 vv, .slice ac cs.length cc, .bool els] (.slice aj lj.length cj) lj Tj) := Lib.hid
              ⟨HKJ.out.then ((Keeps.refl [] wi).alloc _), (Keeps.refl Tj wi).alloc _, fun x hx => .inl hx, Blk.fresh wi [.int .i64 k, .int .i64 ch, .int .i64 n, .int .i64 vv, .slice ac cs.length cc, .bool els] _ _ rfl, fun hx => by have := HKJ.out.lt _ hx; omega, fun hx => by have := HKJ.out.lt _ hx; omega, Nat.le_refl _⟩
            by_cases c1 : k = 1
            · subst c1
              obtain ⟨rfl, rfl⟩ := d4 (by omega)
              have := d1 rfl; subst this
              have := d2 rfl; subst this
              clear d1 d2 d3 d4 d5
              have HQ : Hid (Pn.encOp ⟨1, 0, n, 0, [], false⟩ = [0, n]) := Lib.hid (by simp [Pn.encOp, Pn.hasCh, Pn.hasV])
              go_wp2_with (at_builtin; go_must (refine wp_appk1 elemByte E0.out.1 (by omega) ?_))
              intro ao1 cap1 w1 T1 r1 k1 s1
              obtain ⟨l1, hl1⟩ : ∃ z, lj ++ [0] = z := ⟨_, rfl⟩
              have hb1 : l1.length ≤ lj.length + 1 := by rw [← hl1]; simp
              rw [hl1] at r1
              have HL1 := Lib.hid hl1
              generalize Value.slice ao1 (lj.length + 1) cap1 = v1 at *
              have E1 := Lib.hid (E0.out.next r1 k1 (fun x hx => by have := s1 x hx; simpa [World.setCell] using this))
              clear r1 k1 s1 hl1
              clear b0 b1 b2 b3 b4 b5
              obtain ⟨b0, b1, b2, b3, b4, b5⟩ := E1.out.six
              go_wp2_with fail
              refine (ref10_hasCh _ _).mono ?_
              rintro e w9 ⟨rfl, rfl⟩
              rw [show Pn.hasCh 1 = false from rfl]
              go_wp2_with (at_builtin; go_must (refine wp_appk1 elemByte E1.out.1 (by omega) ?_))
              intro ao2 cap2 w2 T2 r2 k2 s2
              obtain ⟨l2, hl2⟩ : ∃ z, l1 ++ [n] = z := ⟨_, rfl⟩
              have hb2 : l2.length ≤ l1.length + 1 := by rw [← hl2]; simp
              rw [hl2] at r2
              have HL2 := Lib.hid hl2
              generalize Value.slice ao2 (l1.length + 1) cap2 = v2 at *
              have E2 := Lib.hid (E1.out.next r2 k2 (fun x hx => by have := s2 x hx; simpa [World.setCell] using this))
              clear r2 k2 s2 hl2 b0 b1 b2 b3 b4 b5
              obtain ⟨b0, b1, b2, b3, b4, b5⟩ := E2.out.six
              go_wp2_with fail
              refine (ref10_hasV _ _).mono ?_
              rintro e w9 ⟨rfl, rfl⟩
              rw [show Pn.hasV 1 = false from rfl]
              have HN : Hid (EW w w2 v2 (l0 ++ (l.take (j + 1)).flatMap Pn.encOp)) := Lib.hid ((EW.next HTJ.out KPJ.out E2.out.1 E2.out.2.1 E2.out.2.2.1).eq (by rw [take_flat _ HO.out, HQ.out, ← HL2.out, ← HL1.out, ← HLJ.out]; simp))
              go_wp2_with fail
              go_loopw [87, 4] (fun u v wr => u = .int .i64 0 ∧ EW w wr v (l0 ++ (l.take (j + 1)).flatMap Pn.encOp)) (fun u _ _ => 0)
              case atStart => exact ⟨rfl, HN.out⟩
              case round =>
                obtain ⟨rfl, hew⟩ := hrel
                have HEW := Lib.hid hew
                clear hew
                go_wp2_with fail
                go_roundw
                case rel => exact ⟨j + 1, by omega, by go_num, HEW.out⟩
                case measure => simp [intOf]; omega
            by_cases c2 : k = 2 ∨ k = 4
            · obtain ⟨rfl, rfl⟩ := d4 (by omega)
              have := d3 (by omega); subst this
              have HC : Hid (Pn.hasCh k = true) := Lib.hid (by simp [Pn.hasCh]; omega)
              have HV : Hid (Pn.hasV k = true) := Lib.hid (by simp [Pn.hasV]; omega)
              have h9 : (k == 9) = false := by simp; omega
              have h1' : (k == 1) = false := by simp; omega
              have HQ : Hid (Pn.encOp ⟨k, ch, 0, vv, [], false⟩ = [k - 1, ch, vv]) := Lib.hid (by simp [Pn.encOp, HC.out, HV.out, h9, h1'])
              clear d1 d2 d3 d4 d5 c2
              go_wp2_with (at_builtin; go_must (refine wp_appk1 elemByte E0.out.1 (by omega) ?_))
              intro ao1 cap1 w1 T1 r1 k1 s1
              obtain ⟨l1, hl1⟩ : ∃ z, lj ++ [k - 1] = z := ⟨_, rfl⟩
              have hb1 : l1.length ≤ lj.length + 1 := by rw [← hl1]; simp
              rw [hl1] at r1
              have HL1 := Lib.hid hl1
              generalize Value.slice ao1 (lj.length + 1) cap1 = v1 at *
              have E1 := Lib.hid (E0.out.next r1 k1 (fun x hx => by have := s1 x hx; simpa [World.setCell] using this))
              clear r1 k1 s1 hl1
              clear b0 b1 b2 b3 b4 b5
              obtain ⟨b0, b1, b2, b3, b4, b5⟩ := E1.out.six
              go_wp2_with fail
              refine (ref10_hasCh _ _).mono ?_
              rintro e w9 ⟨rfl, rfl⟩
              rw [HC.out]
              go_wp2_with (at_builtin; go_must (refine wp_appk1 elemByte E1.out.1 (by omega) ?_))
              intro ao2 cap2 w2 T2 r2 k2 s2
              obtain ⟨l2, hl2⟩ : ∃ z, l1 ++ [ch] = z := ⟨_, rfl⟩
              have hb2 : l2.length ≤ l1.length + 1 := by rw [← hl2]; simp
              rw [hl2] at r2
              have HL2 := Lib.hid hl2
              generalize Value.slice ao2 (l1.length + 1) cap2 = v2 at *
              have E2 := Lib.hid (E1.out.next r2 k2 (fun x hx => by have := s2 x hx; simpa [World.setCell] using this))
              clear r2 k2 s2 hl2 b0 b1 b2 b3 b4 b5
              obtain ⟨b0, b1, b2, b3, b4, b5⟩ := E2.out.six
              go_wp2_with fail
              refine (ref10_hasV _ _).mono ?_
              rintro e w9 ⟨rfl, rfl⟩
              rw [HV.out]
              go_wp2_with (at_builtin; go_must (refine wp_appk1 elemByte E2.out.1 (by omega) ?_))
              intro ao3 cap3 w3 T3 r3 k3 s3
              obtain ⟨l3, hl3⟩ : ∃ z, l2 ++ [vv] = z := ⟨_, rfl⟩
              have hb3 : l3.length ≤ l2.length + 1 := by rw [← hl3]; simp
              rw [hl3] at r3
              have HL3 := Lib.hid hl3
              generalize Value.slice ao3 (l2.length + 1) cap3 = v3 at *
              have E3 := Lib.hid (E2.out.next r3 k3 (fun x hx => by have := s3 x hx; simpa [World.setCell] using this))
              clear r3 k3 s3 hl3 b0 b1 b2 b3 b4 b5
              obtain ⟨b0, b1, b2, b3, b4, b5⟩ := E3.out.six
              have HN : Hid (EW w w3 v3 (l0 ++ (l.take (j + 1)).flatMap Pn.encOp)) := Lib.hid ((EW.next HTJ.out KPJ.out E3.out.1 E3.out.2.1 E3.out.2.2.1).eq (by rw [take_flat _ HO.out, HQ.out, ← HL3.out, ← HL2.out, ← HL1.out, ← HLJ.out]; simp))
              go_wp2_with fail
              go_loopw [87, 4] (fun u v wr => u = .int .i64 0 ∧ EW w wr v (l0 ++ (l.take (j + 1)).flatMap Pn.encOp)) (fun u _ _ => 0)
              case atStart => exact ⟨rfl, HN.out⟩
              case round =>
                obtain ⟨rfl, hew⟩ := hrel
                have HEW := Lib.hid hew
                clear hew
                go_wp2_with fail
                go_roundw
                case rel => exact ⟨j + 1, by omega, by go_num, HEW.out⟩
                case measure => simp [intOf]; omega
            by_cases c3 : k = 9
            · subst c3
              clear c1 c2
              have := d1 rfl; subst this
              have := d2 rfl; subst this
              have := d3 (by omega); subst this
              have HQ : Hid (Pn.encOp ⟨9, 0, 0, 0, cs, els⟩ = [8, (cs.length : Int), Pn.flag els] ++ cs.flatMap Pn.encCs) := Lib.hid (by simp [Pn.encOp, Pn.hasCh, Pn.hasV])
              have HRC := Lib.hid d5
              clear d1 d2 d3 d4 d5
              go_wp2_with (at_builtin; go_must (refine wp_appk1 elemByte E0.out.1 (by omega) ?_))
              intro ao1 cap1 w1 T1 r1 k1 s1
              obtain ⟨l1, hl1⟩ : ∃ z, lj ++ [8] = z := ⟨_, rfl⟩
              have hb1 : l1.length ≤ lj.length + 1 := by rw [← hl1]; simp
              rw [hl1] at r1
              have HL1 := Lib.hid hl1
              generalize Value.slice ao1 (lj.length + 1) cap1 = v1 at *
              have E1 := Lib.hid (E0.out.next r1 k1 (fun x hx => by have := s1 x hx; simpa [World.setCell] using this))
              clear r1 k1 s1 hl1
              clear b0 b1 b2 b3 b4 b5
              obtain ⟨b0, b1, b2, b3, b4, b5⟩ := E1.out.six
              go_wp2_with fail
              refine (ref10_hasCh _ _).mono ?_
              rintro e w9 ⟨rfl, rfl⟩
              rw [show Pn.hasCh 9 = false from rfl]
              go_wp2_with fail
              refine (ref10_hasV _ _).mono ?_
              rintro e w9 ⟨rfl, rfl⟩
              rw [show Pn.hasV 9 = false from rfl]
              have hbT2 : wi.heap.size ∉ T1 := E1.out.2.2.2.2.1
              have hwr : IntKind.u8.wrap (cs.length : Int) = (cs.length : Int) := wrap_u8 (by omega) (by omega)
              go_wp2_with fail
              go_region_held3 (fun w' => w'.cell? ⟨wi.heap.size, 4, none⟩ = some (.slice ac cs.length cc) ∧ w'.cell? ⟨wi.heap.size, 5, none⟩ = some (.bool els))
                (first
                  | (with_reducible exact ⟨b4, b5⟩)
                  | (with_reducible exact ⟨K2.out.cell b4 hbT2, K2.out.cell b5 hbT2⟩)
                  | go_keep)
                (first
                  | (go_at_call 84; (with_reducible refine (ref10_flag _ _).mono ?_); rintro e w9 ⟨rfl, rfl⟩)
                  | (refine step_appk2 elemByte (KR.then E1.out.1 (Keeps.refl [] _).drew) (by omega) ?_; intro ao2 cap2 w2 T2 r2 k2 s2; have K2 : Hid (Keeps T1 w1 w2) := Lib.hid (((Keeps.refl _ _).drew).trans k2 (fun x hx => .inl hx)); have R2 := Lib.hid r2; have S2 := Lib.hid s2; clear r2 k2 s2)
                  | fail)
              obtain ⟨l2, hl2⟩ : ∃ z, l1 ++ [(cs.length : Int), Pn.flag els] = z := ⟨_, rfl⟩
              have hb2 : l2.length ≤ l1.length + 2 := by rw [← hl2]; simp
              have R2b := R2.out
              rw [hl2] at R2b
              have HL2 := Lib.hid hl2
              have E2 := Lib.hid (E1.out.next R2b K2.out (fun x hx => by have := S2.out x hx; simpa using this))
              clear R2b R2 S2 hl2
              try clear hwr
              try clear hwx
              generalize Value.slice ao2 (l1.length + 2) cap2 = v2 at *
              clear b0 b1 b2 b3 b4 b5
              obtain ⟨b0, b1, b2, b3, b4, b5⟩ := E2.out.six
              have D0 : Hid (ELoop wi Tj wi.heap.size [.int .i64 9, .int .i64 0, .int .i64 0, .int .i64 0, .slice ac cs.length cc, .bool els] l2 cs 0 v2 w2) := Lib.hid ⟨T2, by simpa using E2.out⟩
              go_wp2_with fail
              clear b0 b1 b2 b3 b4 b5
              go_loopw [87, 4] (fun u v wr => ∃ m : Nat, m ≤ cs.length ∧ u = .int .i64 m ∧ ELoop wi Tj wi.heap.size [.int .i64 9, .int .i64 0, .int .i64 0, .int .i64 0, .slice ac cs.length cc, .bool els] l2 cs m v wr) (fun u _ _ => cs.length - (intOf u).toNat)
              case atStart => exact ⟨0, Nat.zero_le _, rfl, D0.out⟩
              case round =>
                obtain ⟨m, hm, rfl, Tk, hes⟩ := hrel
                obtain ⟨wc, rfl⟩ : ∃ wc : World, wc = wr := ⟨_, rfl⟩
                have htl := take_len cs m
                obtain ⟨lk2, hlk⟩ : ∃ z, l2 ++ (cs.take m).flatMap Pn.encCs = z := ⟨_, rfl⟩
                have hblk2 : lk2.length ≤ 200000 := by rw [← hlk, List.length_append]; omega
                rw [hlk] at hes
                obtain ⟨ak2, ck2, rfl⟩ := hes.1.shape
                have HLK2 := Lib.hid hlk
                have HES := Lib.hid hes
                clear hes hlk D0 htl
                by_cases hlt3 : m < cs.length
                · obtain ⟨x, hx⟩ : ∃ x, cs[m]? = some x := ⟨_, List.getElem?_eq_getElem hlt3⟩
                  obtain ⟨g3, off3, rfl, _, hg3, z0, z1, z2⟩ := (HG.out.keep caseE_kept HES.out.2.1 HDJ.out).case hx
                  have hrc := HRC.out x (List.mem_of_getElem? hx)
                  unfold Pn.rightCs at hrc
                  rw [decide_eq_true_iff] at hrc
                  obtain ⟨p1, p2, p3, p4, _⟩ := hrc
                  have HX2 := Lib.hid hx
                  clear hx
                  obtain ⟨xs, xc, xv⟩ := x
                  simp only at z0 z1 z2 p1 p2 p3 p4
                  have ER : Hid (ES wi (wc.alloc (.cells #[.bool xs, .int .i64 xc, .int .i64 xv] 131)) Tj wi.heap.size [.int .i64 9, .int .i64 0, .int .i64 0, .int .i64 0, .slice (some ⟨g3, off3, none⟩) cs.length cc, .bool els] (.slice ak2 lk2.length ck2) lk2 Tk) := Lib.hid (HES.out.then ((Keeps.refl [] wc).alloc _))
                  have BC := Blk.fresh wc [.bool xs, .int .i64 xc, .int .i64 xv] 131 _ rfl
                  obtain ⟨⟨c0, c1, c2⟩, _⟩ := BC.three
                  have hwx : IntKind.u8.wrap xc = xc := wrap_u8 (by omega) (by omega)
                  have HBC := Lib.hid BC
                  have hbT5 : wc.heap.size ∉ Tk := fun hm => by have := HES.out.1.lt _ hm; omega
                  clear BC
                  go_wp2_with fail
                  go_region_held3 (fun w' => w'.cell? ⟨wc.heap.size, 0, none⟩ = some (.bool xs) ∧ w'.cell? ⟨wc.heap.size, 1, none⟩ = some (.int .i64 xc))
                    (first
                      | (with_reducible exact ⟨c0, c1⟩)
                      | (with_reducible exact ⟨K5.out.cell c0 hbT5, K5.out.cell c1 hbT5⟩)
                      | go_keep)
                    (first
                      | (go_at_call 84; (with_reducible refine (ref10_flag _ _).mono ?_); rintro e w9 ⟨rfl, rfl⟩)
                      | (refine step_appk2 elemByte (KR.then ER.out.1 (Keeps.refl [] _).drew) (by omega) ?_; intro ao5 cap5 w5 T5 r5 k5 s5; have K5 : Hid (Keeps Tk (wc.alloc (.cells #[.bool xs, .int .i64 xc, .int .i64 xv] 131)) w5) := Lib.hid (((Keeps.refl _ _).drew).trans k5 (fun x hx => .inl hx)); have R5 := Lib.hid r5; have S5 := Lib.hid s5; clear r5 k5 s5)
                      | fail)
                  obtain ⟨l5, hl5⟩ : ∃ z, lk2 ++ [Pn.flag xs, xc] = z := ⟨_, rfl⟩
                  have hb5 : l5.length ≤ lk2.length + 2 := by rw [← hl5]; simp
                  have R5b := R5.out
                  rw [hl5] at R5b
                  have HL5 := Lib.hid hl5
                  have E5 := Lib.hid (ER.out.next R5b K5.out (fun x hx => by have := S5.out x hx; simpa using this))
                  clear R5b R5 S5 hl5
                  try clear hwr
                  try clear hwx
                  generalize Value.slice ao5 (lk2.length + 2) cap5 = v5 at *
                  have HBC5 := Lib.hid (HBC.out.keep K5.out hbT5)
                  clear c0 c1 c2
                  obtain ⟨⟨c0, c1, c2⟩, _⟩ := HBC5.out.three
                  cases xs with
                  | true =>
                    go_wp2_with (at_builtin; go_must (refine wp_appk1 elemByte E5.out.1 (by omega) ?_))
                    intro ao6 cap6 w6 T6 r6 k6 s6
                    obtain ⟨l6, hl6⟩ : ∃ z, l5 ++ [xv] = z := ⟨_, rfl⟩
                    have hb6 : l6.length ≤ l5.length + 1 := by rw [← hl6]; simp
                    rw [hl6] at r6
                    have HL6 := Lib.hid hl6
                    generalize Value.slice ao6 (l5.length + 1) cap6 = v6 at *
                    have E6 := Lib.hid (E5.out.next r6 k6 (fun x hx => by have := s6 x hx; simpa [World.setCell] using this))
                    clear r6 k6 s6 hl6
                    have HN : Hid (ELoop wi Tj wi.heap.size [.int .i64 9, .int .i64 0, .int .i64 0, .int .i64 0, .slice (some ⟨g3, off3, none⟩) cs.length cc, .bool els] l2 cs (m + 1) v6 w6) := Lib.hid ⟨T6, (show ES wi w6 Tj wi.heap.size [.int .i64 9, .int .i64 0, .int .i64 0, .int .i64 0, .slice (some ⟨g3, off3, none⟩) cs.length cc, .bool els] v6 (l2 ++ (cs.take (m + 1)).flatMap Pn.encCs) T6 from by
                      have e : l6 = l2 ++ (cs.take (m + 1)).flatMap Pn.encCs := by rw [← HL6.out, ← HL5.out, ← HLK2.out, take_enc HX2.out]; simp only [List.append_assoc]; rfl
                      rw [← e]; exact E6.out)⟩
                    go_wp2_with fail
                    go_roundw
                    case rel => exact ⟨m + 1, by omega, by go_num, HN.out⟩
                    case measure => simp [intOf]; omega
                  | false =>
                    have HN : Hid (ELoop wi Tj wi.heap.size [.int .i64 9, .int .i64 0, .int .i64 0, .int .i64 0, .slice (some ⟨g3, off3, none⟩) cs.length cc, .bool els] l2 cs (m + 1) v5 w5) := Lib.hid ⟨T5, (show ES wi w5 Tj wi.heap.size [.int .i64 9, .int .i64 0, .int .i64 0, .int .i64 0, .slice (some ⟨g3, off3, none⟩) cs.length cc, .bool els] v5 (l2 ++ (cs.take (m + 1)).flatMap Pn.encCs) T5 from by
                      have e : l5 = l2 ++ (cs.take (m + 1)).flatMap Pn.encCs := by rw [← HL5.out, ← HLK2.out, take_enc HX2.out]; simp only [List.append_assoc]; rfl
                      rw [← e]; exact E5.out)⟩
                    go_wp2_with fail
                    go_roundw
                    case rel => exact ⟨m + 1, by omega, by go_num, HN.out⟩
                    case measure => simp [intOf]; omega
                · obtain rfl : m = cs.length := by omega
                  have HN : Hid (EW w wc (.slice ak2 lk2.length ck2) (l0 ++ (l.take (j + 1)).flatMap Pn.encOp)) := Lib.hid ((EW.next HTJ.out KPJ.out HES.out.1 HES.out.2.1 HES.out.2.2.1).eq (by rw [take_flat _ HO.out, HQ.out, ← HLK2.out, ← HL2.out, ← HL1.out, ← HLJ.out, List.take_length]; simp))
                  go_wp2_with fail
                  go_roundw
                  case rel => exact ⟨j + 1, by omega, by go_num, HN.out⟩
                  case measure => simp [intOf]; omega
            · obtain ⟨rfl, rfl⟩ := d4 (by omega)
              have := d3 (by omega); subst this
              have HC : Hid (Pn.hasCh k = true) := Lib.hid (by simp [Pn.hasCh]; omega)
              have HV : Hid (Pn.hasV k = false) := Lib.hid (by simp [Pn.hasV]; omega)
              have := d2 HV.out; subst this
              have h9 : (k == 9) = false := by simp; omega
              have h1' : (k == 1) = false := by simp; omega
              have HQ : Hid (Pn.encOp ⟨k, ch, 0, 0, [], false⟩ = [k - 1, ch]) := Lib.hid (by simp [Pn.encOp, HC.out, HV.out, h9, h1'])
              clear d1 d2 d3 d4 d5 c2 c3
              go_wp2_with (at_builtin; go_must (refine wp_appk1 elemByte E0.out.1 (by omega) ?_))
              intro ao1 cap1 w1 T1 r1 k1 s1
              obtain ⟨l1, hl1⟩ : ∃ z, lj ++ [k - 1] = z := ⟨_, rfl⟩
              have hb1 : l1.length ≤ lj.length + 1 := by rw [← hl1]; simp
              rw [hl1] at r1
              have HL1 := Lib.hid hl1
              generalize Value.slice ao1 (lj.length + 1) cap1 = v1 at *
              have E1 := Lib.hid (E0.out.next r1 k1 (fun x hx => by have := s1 x hx; simpa [World.setCell] using this))
              clear r1 k1 s1 hl1
              clear b0 b1 b2 b3 b4 b5
              obtain ⟨b0, b1, b2, b3, b4, b5⟩ := E1.out.six
              go_wp2_with fail
              refine (ref10_hasCh _ _).mono ?_
              rintro e w9 ⟨rfl, rfl⟩
              rw [HC.out]
              go_wp2_with (at_builtin; go_must (refine wp_appk1 elemByte E1.out.1 (by omega) ?_))
              intro ao2 cap2 w2 T2 r2 k2 s2
              obtain ⟨l2, hl2⟩ : ∃ z, l1 ++ [ch] = z := ⟨_, rfl⟩
              have hb2 : l2.length ≤ l1.length + 1 := by rw [← hl2]; simp
              rw [hl2] at r2
              have HL2 := Lib.hid hl2
              generalize Value.slice ao2 (l1.length + 1) cap2 = v2 at *
              have E2 := Lib.hid (E1.out.next r2 k2 (fun x hx => by have := s2 x hx; simpa [World.setCell] using this))
              clear r2 k2 s2 hl2 b0 b1 b2 b3 b4 b5
              obtain ⟨b0, b1, b2, b3, b4, b5⟩ := E2.out.six
              go_wp2_with fail
              refine (ref10_hasV _ _).mono ?_
              rintro e w9 ⟨rfl, rfl⟩
              rw [HV.out]
              have HN : Hid (EW w w2 v2 (l0 ++ (l.take (j + 1)).flatMap Pn.encOp)) := Lib.hid ((EW.next HTJ.out KPJ.out E2.out.1 E2.out.2.1 E2.out.2.2.1).eq (by rw [take_flat _ HO.out, HQ.out, ← HL2.out, ← HL1.out, ← HLJ.out]; simp))
              go_wp2_with fail
              go_loopw [87, 4] (fun u v wr => u = .int .i64 0 ∧ EW w wr v (l0 ++ (l.take (j + 1)).flatMap Pn.encOp)) (fun u _ _ => 0)
              case atStart => exact ⟨rfl, HN.out⟩
              case round =>
                obtain ⟨rfl, hew⟩ := hrel
                have HEW := Lib.hid hew
                clear hew
                go_wp2_with fail
                go_roundw
                case rel => exact ⟨j + 1, by omega, by go_num, HEW.out⟩
                case measure => simp [intOf]; omega
          · obtain rfl : j = l.length := by omega
            have HN : Hid (EW w wi (.slice aj lj.length cj) (((p.length : Int) - 1) :: (p.take (k + 1)).flatMap Pn.encOps)) := Lib.hid (EW.eq ⟨Tj, HKJ.out, KPJ.out, HTJ.out⟩ (by
              rw [take_flat _ HX.out, ← HLJ.out, ← HL0.out, ← HLK.out, List.take_length]; simp [Pn.encOps]))
            go_wp2_with fail
            go_roundw
            case rel => exact ⟨k + 1, by omega, by go_num, HN.out⟩
            case measure => simp [intOf]; omega
      · obtain rfl : k = p.length := by omega
        have HN : Hid (EW w wo (.slice ak lk.length ck) (Pn.enc p)) := Lib.hid (EW.eq ⟨Ti, HK.out, KP.out, HT.out⟩ (by rw [← HLK.out, List.take_length]; rfl))
        go_wp2_with fail
        go_ret2
        exact .inl ⟨HR.out, _, rfl, HN.out⟩
end Go.Proofs.Ytopkfhmdgheghaa
