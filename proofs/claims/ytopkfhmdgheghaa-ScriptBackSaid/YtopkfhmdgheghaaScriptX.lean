/-
  handoffref24.Write: its contract.
  Conditions: no more than 100000 picks.
-/
import Derived.Test.YtopkfhmdgheghaaScriptW
import Derived.Test.YtopkfhmdgheghaaPlanW
import Derived.Test.YtopkfhmdgheghaaRef05C
namespace Go.Proofs.Ytopkfhmdgheghaa
open Go.RowKit
set_option linter.unusedVariables false
set_option linter.unusedSimpArgs false
set_option linter.unnecessarySimpa false

theorem quo16 {x : Int} (h : 0 ≤ x) (h2 : x ≤ 65535) : IntKind.u16.wrap (x.tdiv 256) % 256 = x / 256 := by
  rw [Int.tdiv_eq_ediv_of_nonneg h, wrap_u16 (by omega) (by omega)]; omega

set_option maxRecDepth 100000 in
set_option maxHeartbeats 3200000 in
theorem ref24_write (w : World) (cs : List Value) (s : Sn.Sc) (U : List Nat) (h : scE w cs s U) (hb : s.picks.length ≤ 100000) :
    Calls Try.prog 15 #[.agg cs.toArray] w (WrPost s w) := by
  obtain ⟨vp, vd, vk, rfl, h1, h2, h3⟩ := h
  have H1 := Lib.hid h1
  have H2 := Lib.hid h2
  have H3 := Lib.hid h3
  have hl1 := h1.le
  have hl2 := h2.le
  unfold maxLen at hl1 hl2
  obtain ⟨ap, cp, rfl⟩ := h1.shape
  obtain ⟨ad, cd, rfl⟩ := h2.shape
  obtain ⟨ak, ck, rfl⟩ := h3.shape
  obtain ⟨s0, hs0⟩ : ∃ s0, s0 = s := ⟨_, rfl⟩
  have HS := Lib.hid hs0
  obtain ⟨p, a, b, ds, ps⟩ := s
  simp only at hb hl1 hl2 H1 H2 H3 ⊢
  rw [← hs0]
  clear h1 h2 h3 hs0
  have HPB := Lib.hid hb
  have H0 := Lib.hid (Blk.fresh w [.slice ap p.length cp, .int .i64 a, .int .i64 b, .slice ad ds.length cd, .slice ak ps.length ck] 42 _ rfl)
  go_enter Try.func15, Try.ntmps15
  go_wp2_with fail
  refine (ref10_encode _ _ p U (H1.out.then opsE_kept ((Keeps.refl [] w).alloc _))).mono ?_
  rintro e w1 he
  rcases he with ⟨hr, vq, rfl, hq⟩ | ⟨hr, rfl, k1⟩
  · obtain ⟨Tq, q1, q2, q3⟩ := hq
    have HR := Lib.hid hr
    have HQ1 := Lib.hid q1
    have HQ2 := Lib.hid q2
    have HQ3 := Lib.hid q3
    obtain ⟨aq, cq, rfl⟩ := q1.shape
    have hbq := Sn.enc_len hr
    have HB1 := Lib.hid (H0.out.keep q2 (by simp))
    obtain ⟨⟨c0, c1, c2, c3, c4⟩, f0, f1, f2, f3, f4⟩ := Blk.five HB1.out
    clear hr q1 q2 q3
    go_wp2_with fail
    refine (ref05_can _ _ _ _).mono ?_
    rintro e w2 ⟨rfl, k2⟩
    have K2 : Hid (Keeps [] w1 w2) := Lib.hid (k2 ▸ Keeps.refl [] w1)
    have HB2 := Lib.hid (HB1.out.keep K2.out (by simp))
    clear k2 c0 c1 c2 c3 c4 f0 f1 f2 f3 f4
    obtain ⟨⟨c0, c1, c2, c3, c4⟩, f0, f1, f2, f3, f4⟩ := Blk.five HB2.out
    have HW2 := Lib.hid ((((Keeps.refl [] w).alloc _).then HQ2.out).then K2.out)
    cases hf : Po.fits a p.length b with
    | false =>
      have HF := Lib.hid hf
      clear hf
      go_wp2_with fail
      go_ret2
      exact wr_no (by rw [HS.out]; exact Sn.err_fits HR.out HF.out) (by omega) HW2.out
    | true =>
      have HF := Lib.hid hf
      obtain ⟨y1, y2, _, _, y3, y4⟩ := Po.fits_le hf
      clear hf
      cases hd : decide (255 < (ds.length : Int)) with
      | true =>
        have HD := Lib.hid hd
        go_wp2_with fail
        go_ret2
        exact wr_no (by rw [HS.out]; exact Sn.err_draws HR.out HF.out (by have := HD.out; simp at this; show 255 < ds.length; omega)) (by omega) HW2.out
      | false =>
        have hd2 : ds.length ≤ 255 := by simp at hd; omega
        have HD2 := Lib.hid hd2
        have D0 : Hid (EW w2 (w2.alloc (.cells #[.int .u8 a, .int .u8 (b - 1), .int .u8 (ds.length : Int)] 5)) (.slice (some ⟨w2.heap.size, 0, none⟩) 3 3) [a, b - 1, (ds.length : Int)]) := Lib.hid ⟨[w2.heap.size], KR.lit .u8 w2 [a, b - 1, (ds.length : Int)] _ _ rfl (by simp), (Keeps.refl [] w2).alloc _, fun x hx => by simp at hx; omega⟩
        have HB3 : Hid (∀ wr, Keeps [] w2 wr → Blk wr w.heap.size [.slice ap p.length cp, .int .i64 a, .int .i64 b, .slice ad ds.length cd, .slice ak ps.length ck] 42) := Lib.hid (fun wr k => HB2.out.keep k (by simp))
        have cA : (w2.alloc (.cells #[.int .u8 a, .int .u8 (b - 1), .int .u8 (ds.length : Int)] 5)).cell? ⟨w.heap.size, 3, none⟩ = some (.slice ad ds.length cd) := (HB3.out _ ((Keeps.refl [] w2).alloc _)).cell 3
        go_wp2_with fail
        go_loopw [54, 6] (fun u v wr => ∃ k : Nat, k ≤ ds.length ∧ u = .int .i64 k ∧ EW w2 wr v ([a, b - 1, (ds.length : Int)] ++ (ds.take k).flatMap Sn.two)) (fun u _ _ => ds.length - (intOf u).toNat)
        case atStart => exact ⟨0, Nat.zero_le _, rfl, by simpa using D0.out⟩
        case round =>
          obtain ⟨k, hk, rfl, Ti, hkr, hkp, hti⟩ := hrel
          obtain ⟨wo, rfl⟩ : ∃ wo : World, wo = wr := ⟨_, rfl⟩
          obtain ⟨lk, hlk⟩ : ∃ z, [a, b - 1, (ds.length : Int)] ++ (ds.take k).flatMap Sn.two = z := ⟨_, rfl⟩
          have hblk : lk.length ≤ 1000 := by rw [← hlk, List.length_append, Sn.two_len, List.length_take]; simp; omega
          rw [hlk] at hkr
          obtain ⟨ai, ci, rfl⟩ := hkr.shape
          have HLK := Lib.hid hlk
          have HK := Lib.hid hkr
          have KP := Lib.hid hkp
          have HT := Lib.hid hti
          clear hkr hkp hti hlk D0
          by_cases hlt : k < ds.length
          · have hv := (H2.out.then (numE_kept _) HW2.out).then (numE_kept _) KP.out
            obtain ⟨g, off, rfl, _, _, hc⟩ := hv.num hlt
            have hr := wfu16 (hv.wf _ (List.getElem_mem hlt))
            obtain ⟨x, hx⟩ : ∃ x, ds[k] = x := ⟨_, rfl⟩
            have HX : Hid (ds[k]? = some x) := Lib.hid (by rw [List.getElem?_eq_getElem hlt, hx])
            rw [show ds.getD k 0 = x by simp [List.getD, hlt, hx]] at hc
            rw [hx] at hr
            obtain ⟨r0, r1⟩ := hr
            clear hv hx
            go_wp2_with (at_builtin; go_must (refine wp_appk2 elemByte HK.out (by omega) ?_))
            intro ao7 cap7 w7 T7 r7 k7 s7
            have HN : Hid (EW w2 w7 (.slice ao7 (lk.length + 2) cap7) ([a, b - 1, (ds.length : Int)] ++ (ds.take (k + 1)).flatMap Sn.two)) := Lib.hid ((EW.next HT.out KP.out r7 k7 s7).eq (by rw [take_flat _ HX.out, ← HLK.out]; simp [Sn.two, quo16 r0 r1]))
            clear r7 k7 s7
            go_wp2_with fail
            go_roundw
            case rel => exact ⟨k + 1, by omega, by go_num, HN.out⟩
            case measure => simp [intOf]; omega
          · obtain rfl : k = ds.length := by omega
            rw [List.take_length] at HLK
            have HVQ : Hid (View wo (.slice aq (Pn.enc p).length cq) 1 (Pn.enc p).length ((Pn.enc p).map (Value.int .u8)) Tq) := Lib.hid (Row.view ((HQ1.out.then K2.out).then KP.out))
            go_wp2_with (at_builtin; go_must (refine wp_appks elemByte HK.out HVQ.out (by omega) ?_))
            intro ao8 cap8 w8 T8 r8 k8 s8
            have hk8 := KP.out.trans k8 (fun x hx => .inr (HT.out x hx))
            have cB : w8.cell? ⟨w.heap.size, 4, none⟩ = some (.slice ak ps.length ck) := (HB3.out _ hk8).cell 4
            obtain ⟨l8, hl8⟩ : ∃ z, lk ++ Pn.enc p = z := ⟨_, rfl⟩
            have hb8 : l8.length ≤ 6000 := by rw [← hl8, List.length_append]; omega
            have HL8 : Hid ([a, b - 1, (ds.length : Int)] ++ ds.flatMap Sn.two ++ Pn.enc p = l8) := Lib.hid (by rw [HLK.out]; exact hl8)
            rw [hl8] at r8
            generalize Value.slice ao8 (lk.length + (Pn.enc p).length) cap8 = v8 at *
            have E8 : Hid (EW w2 w8 v8 l8) := Lib.hid (EW.next HT.out KP.out r8 k8 s8)
            have hl3 := H3.out.le
            unfold maxLen at hl3
            clear r8 k8 s8 hk8 hl8 hlt
            go_wp2_with fail
            go_loopw [74, 6] (fun u v wr => ∃ k : Nat, k ≤ ps.length ∧ u = .int .i64 k ∧ EW w2 wr v (l8 ++ ps.take k) ∧ Hid ((ps.take k).all Sn.okPick = true)) (fun u _ _ => ps.length - (intOf u).toNat)
            case atStart => exact ⟨0, Nat.zero_le _, rfl, by simpa using E8.out, Lib.hid (by simp)⟩
            case round =>
              obtain ⟨k2, hk2, rfl, ⟨Tj, hkr, hkp, hti⟩, HA⟩ := hrel
              obtain ⟨wi, rfl⟩ : ∃ wi : World, wi = wr := ⟨_, rfl⟩
              obtain ⟨lj, hlj⟩ : ∃ z, l8 ++ ps.take k2 = z := ⟨_, rfl⟩
              have hblj : lj.length ≤ 200000 := by rw [← hlj, List.length_append, List.length_take]; omega
              rw [hlj] at hkr
              obtain ⟨aj, cj, rfl⟩ := hkr.shape
              have HLJ := Lib.hid hlj
              have HKJ := Lib.hid hkr
              have KPJ := Lib.hid hkp
              have HTJ := Lib.hid hti
              have HWI := Lib.hid (HW2.out.then hkp)
              clear hkr hkp hti hlj E8 cB
              by_cases hlt2 : k2 < ps.length
              · have hv := H3.out.then (numE_kept _) HWI.out
                obtain ⟨g, off, rfl, _, _, hc⟩ := hv.num hlt2
                obtain ⟨x, hx⟩ : ∃ x, ps[k2] = x := ⟨_, rfl⟩
                have HX : Hid (ps[k2]? = some x) := Lib.hid (by rw [List.getElem?_eq_getElem hlt2, hx])
                rw [show ps.getD k2 0 = x by simp [List.getD, hlt2, hx]] at hc
                clear hv hx
                by_cases hx0 : x < 0
                · have HNO : Hid (ps.all Sn.okPick = false) := Lib.hid (Sn.all_not HX.out (by omega))
                  go_wp2_with fail
                  go_ret2
                  exact wr_no (by rw [HS.out]; exact Sn.err_picks HR.out HF.out HD2.out HNO.out) (by omega) HWI.out
                · by_cases hx1 : 255 < x
                  · have HNO : Hid (ps.all Sn.okPick = false) := Lib.hid (Sn.all_not HX.out (by omega))
                    go_wp2_with fail
                    go_ret2
                    exact wr_no (by rw [HS.out]; exact Sn.err_picks HR.out HF.out HD2.out HNO.out) (by omega) HWI.out
                  · have HXR : Hid (0 ≤ x ∧ x ≤ 255) := Lib.hid (by omega)
                    have z0 : 0 ≤ x := by omega
                    have z1 : x ≤ 255 := by omega
                    go_wp2_with (at_builtin; go_must (refine wp_appk1 elemByte HKJ.out (by omega) ?_))
                    intro ao7 cap7 w7 T7 r7 k7 s7
                    have HN : Hid (EW w2 w7 (.slice ao7 (lj.length + 1) cap7) (l8 ++ ps.take (k2 + 1)) ∧ (ps.take (k2 + 1)).all Sn.okPick = true) := Lib.hid ⟨(EW.next HTJ.out KPJ.out r7 k7 s7).eq (by
                      obtain ⟨hk', e⟩ := List.getElem?_eq_some_iff.1 HX.out
                      rw [List.take_succ_eq_append_getElem hk', e, ← HLJ.out, List.append_assoc]), Sn.all_take HX.out HA.out HXR.out⟩
                    clear r7 k7 s7
                    go_wp2_with fail
                    go_roundw
                    case rel => exact ⟨k2 + 1, by omega, by go_num, HN.out.1, Lib.hid HN.out.2⟩
                    case measure => simp [intOf]; omega
              · obtain rfl : k2 = ps.length := by omega
                rw [List.take_length] at HLJ HA
                go_wp2_with fail
                go_ret2
                exact wr_yes (by rw [HS.out]; exact Sn.err_zero HR.out HF.out HD2.out HA.out) HW2.out ⟨Tj, HKJ.out, KPJ.out, HTJ.out⟩ (by rw [HS.out, ← HLJ.out, ← HL8.out]; simp [Sn.bytes])
  · have HR := Lib.hid hr
    have K1 := Lib.hid k1
    clear hr k1
    go_wp2_with fail
    go_ret2
    exact wr_no (by rw [HS.out]; exact Sn.err_right HR.out) (by omega) (((Keeps.refl [] w).alloc _).then K1.out)
end Go.Proofs.Ytopkfhmdgheghaa
