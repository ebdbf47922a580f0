/-
  The law ScriptBack: its walk.
  Conditions: none.
-/
import Derived.Test.YtopkfhmdgheghaaScriptO
import Derived.Test.YtopkfhmdgheghaaScriptH
import Derived.Test.YtopkfhmdgheghaaScriptX
import Derived.Deep.DrawnRows
namespace Go.Proofs.Ytopkfhmdgheghaa
open Go.RowKit
set_option linter.unusedVariables false
set_option linter.unusedSimpArgs false
set_option linter.unnecessarySimpa false

theorem sn_bytes_len {s : Sn.Sc} (h : Sn.err s = 0) : (Sn.bytes s).length ≤ 6000 + s.picks.length := by
  obtain ⟨h1, h2, h3, h4⟩ := Sn.err_ok h
  have := Sn.enc_len h1
  unfold Sn.bytes
  simp only [List.length_append, Sn.two_len, List.length_cons, List.length_nil]
  omega
theorem sn_bytes_range {s : Sn.Sc} (hd : ∀ d ∈ s.draws, 0 ≤ d ∧ d ≤ 65535) (h : Sn.err s = 0) : ∀ x ∈ Sn.bytes s, 0 ≤ x ∧ x ≤ 255 := by
  obtain ⟨h1, h2, h3, h4⟩ := Sn.err_ok h
  obtain ⟨y1, y2, _, _, y3, y4⟩ := Po.fits_le h2
  intro x hx
  unfold Sn.bytes at hx
  simp only [List.mem_append, List.mem_cons, List.not_mem_nil, or_false, List.mem_flatMap] at hx
  rcases hx with ((hx | ⟨d, hd1, hx⟩) | hx) | hx
  · rcases hx with rfl | rfl | rfl <;> omega
  · have := hd d hd1
    simp [Sn.two] at hx
    rcases hx with rfl | rfl <;> omega
  · exact Pn.enc_range s.plan h1 x hx
  · have := List.all_eq_true.1 h4 x hx
    simpa [Sn.okPick] using this
theorem sn_picks_len (l : List Int) : (Sn.read l).picks.length ≤ l.length := by
  show ((Sn.rest l).drop _).length ≤ _
  unfold Sn.rest
  simp only [List.length_drop]
  omega
theorem sc_draws {w : World} {cs : List Value} {s : Sn.Sc} {U : List Nat} (h : scE w cs s U) : ∀ d ∈ s.draws, 0 ≤ d ∧ d ≤ 65535 := by
  obtain ⟨_, _, _, _, _, h3, _⟩ := h
  exact fun d hd => wfu16 (h3.wf d hd)

set_option maxRecDepth 100000 in
set_option maxHeartbeats 3200000 in
theorem scriptBack_walk (w : World) (vb : Value) (lb : List Int) (SB : List Nat) (hb : GV (numE .u8) 1 w vb lb SB) (cs : Array Value) (s : Sn.Sc) (U : List Nat) (sz : cs.size = 5) (he : scE w cs.toList s U) (oc : ∀ y ∈ cs.toList, y.oneCell' = true) :
    Calls Try.prog 5 #[vb, .agg cs] w fun e w' => e = .returned (.bool true) ∧ Keeps [] w w' := by
  have hlb := hb.le
  unfold maxLen at hlb
  obtain ⟨ao2, cap2, rfl⟩ := hb.shape
  have HRB : Hid (∀ x ∈ lb, 0 ≤ x ∧ x ≤ 255) := Lib.hid (fun x hx => wf8 (hb.wf x hx))
  have HDR := Lib.hid (sc_draws he)
  have HE0 : Hid (∀ w', Keeps [] w w' → scE w' cs.toList s U) := Lib.hid (fun w' k => scE_kept.1 he k (by simp))
  obtain ⟨vp, vd, vk, hcs, _⟩ := he
  obtain rfl : cs = #[vp, .int .i64 s.sudogs, .int .i64 s.cache, vd, vk] := by apply Array.toList_inj.1; exact hcs
  obtain ⟨hz1, hz2⟩ : vp.oneCell' = true ∧ vd.oneCell' = true := ⟨oc _ (by simp), oc _ (by simp)⟩
  have hz3 : vk.oneCell' = true := oc _ (by simp)
  have HB := Lib.hid hb
  obtain ⟨w0, hw0⟩ : ∃ w0, w.alloc (.cells #[vp, .int .i64 s.sudogs, .int .i64 s.cache, vd, vk] 42) = w0 := ⟨_, rfl⟩
  have H0 : Hid (Keeps [] w w0) := Lib.hid (hw0 ▸ (Keeps.refl [] w).alloc _)
  have HBX : Hid (Blk w0 w.heap.size [vp, .int .i64 s.sudogs, .int .i64 s.cache, vd, vk] 42) := Lib.hid (hw0 ▸ Blk.fresh w _ _ _ rfl)
  clear hb hcs oc
  go_enter Try.func5, Try.ntmps5
  go_wp2_with fail
  refine (script_alive _).mono ?_
  rintro e w1 ⟨rfl, k1⟩
  have K1 := Lib.hid k1
  clear hw0 k1
  obtain ⟨⟨c0, c1, c2, c3, c4⟩, _⟩ := Blk.five (HBX.out.keep K1.out (by simp))
  cases hq1 : decide (2000 < (lb.length : Int)) with
  | true =>
    go_wp2_with fail
    go_ret
    exact ⟨rfl, H0.out.then K1.out⟩
  | false =>
    have HL : Hid (lb.length ≤ 2000) := Lib.hid (by simp at hq1; omega)
    go_wp2_with fail
    refine (script_great _ _ s U (HE0.out _ (H0.out.then K1.out))).mono ?_
    rintro e w2 ⟨gr, rfl, hgr, k2⟩
    have K2 := Lib.hid (K1.out.then k2)
    clear k2 c0 c1 c2 c3 c4
    cases gr with
    | true =>
      go_wp2_with fail
      go_ret
      exact ⟨rfl, H0.out.then K2.out⟩
    | false =>
      have HPB : Hid (s.picks.length ≤ 400) := Lib.hid (hgr rfl)
      clear hgr
      have HOK := Lib.hid (Sn.read_ok HRB.out)
      go_wp2_with fail
      refine (script_read _ _ lb SB (HB.out.then (numE_kept _) (H0.out.then K2.out)) (by have := HL.out; omega)).mono ?_
      rintro e w3 ⟨cs3, U3, rfl, g3, k3⟩
      obtain ⟨s3, hs3⟩ : ∃ s3, Sn.read lb = s3 := ⟨_, rfl⟩
      have HS3 := Lib.hid hs3
      have HPL : Hid (s3.picks.length ≤ 2000) := Lib.hid (by have := sn_picks_len lb; rw [hs3] at this; have := HL.out; omega)
      rw [hs3] at g3 HOK
      have K3 := Lib.hid (K2.out.then k3)
      have G3 := Lib.hid g3
      clear k3 g3 hs3
      go_wp2_with fail
      refine (script_write _ cs3.toList s3 U3 G3.out (by have := HPL.out; omega)).mono ?_
      rintro e w4 ⟨v4, rfl, T4, r4, k4, _⟩
      rw [HOK.out.1]
      obtain ⟨x, hx⟩ : ∃ x, Sn.bytes s3 = x := ⟨_, rfl⟩
      have HW4 : Hid (Sn.write s3 = x) := Lib.hid (by unfold Sn.write; rw [if_pos HOK.out.1, hx])
      rw [HW4.out] at r4
      have HXL : Hid (x.length ≤ 100000) := Lib.hid (by have := sn_bytes_len HOK.out.1; rw [hx] at this; have := HPL.out; omega)
      have HRX : Hid (Sn.read x = s3) := Lib.hid (by rw [← hx]; exact Sn.read_bytes HOK.out.2 HOK.out.1)
      have K4 := Lib.hid (K3.out.then k4)
      have G4 := Lib.hid (r4.gv (fun y hy => wf_u8 (by rw [← hx] at hy; exact sn_bytes_range HOK.out.2 HOK.out.1 y hy)))
      obtain ⟨a4, c4', rfl⟩ := r4.shape
      clear k4 r4 hx
      go_wp2_with fail
      refine (script_read _ _ x T4 G4.out HXL.out).mono ?_
      rw [HRX.out]
      rintro e w5 ⟨cs5, U5, rfl, g5, k5⟩
      have K5 := Lib.hid (K4.out.then k5)
      have G5 := Lib.hid g5
      clear k5 g5
      go_wp2_with fail
      refine (script_read _ _ lb SB (HB.out.then (numE_kept _) (H0.out.then K5.out)) (by have := HL.out; omega)).mono ?_
      rw [HS3.out]
      rintro e w6 ⟨cs6, U6, rfl, g6, k6⟩
      have K6 := Lib.hid (K5.out.then k6)
      have G56 : Hid (scE w6 cs5.toList s3 U5) := Lib.hid (scE_kept.1 G5.out k6 (by simp))
      have G6 := Lib.hid g6
      clear k6 g6
      go_wp2_with fail
      refine (ref24_same _ cs5.toList cs6.toList _ _ U5 U6 G56.out G6.out).mono ?_
      rintro e w7 ⟨rfl, k7⟩
      rw [decide_eq_true rfl]
      have K7 := Lib.hid (K6.out.then k7)
      clear k7
      obtain ⟨⟨c0, c1, c2, c3, c4⟩, _⟩ := Blk.five (HBX.out.keep K7.out (by simp))
      go_wp2_with fail
      refine (script_write _ _ s U (HE0.out _ (H0.out.then K7.out)) (by have := HPB.out; omega)).mono ?_
      rintro e w8 ⟨v8, rfl, T8, r8, k8, _⟩
      have K8 := Lib.hid (K7.out.then k8)
      clear c0 c1 c2 c3 c4
      obtain ⟨⟨c0, c1, c2, c3, c4⟩, _⟩ := Blk.five (HBX.out.keep K8.out (by simp))
      by_cases h0 : Sn.err s = 0
      · rw [h0]
        obtain ⟨y, hy⟩ : ∃ y, Sn.bytes s = y := ⟨_, rfl⟩
        have HW8 : Hid (Sn.write s = y) := Lib.hid (by unfold Sn.write; rw [if_pos h0, hy])
        rw [HW8.out] at r8
        have HYL : Hid (y.length ≤ 100000) := Lib.hid (by have := sn_bytes_len h0; rw [hy] at this; have := HPB.out; omega)
        have HRY : Hid (Sn.read y = s) := Lib.hid (by rw [← hy]; exact Sn.read_bytes HDR.out h0)
        have G8 := Lib.hid (r8.gv (fun z hz => wf_u8 (by rw [← hy] at hz; exact sn_bytes_range HDR.out h0 z hz)))
        obtain ⟨a8, c8', rfl⟩ := r8.shape
        clear k8 r8 hy h0
        go_upto_region 9 with fail
        have KD := (Keeps.refl [] w8).drew
        have d0 := KD.cell c0 List.not_mem_nil
        have d1 := KD.cell c1 List.not_mem_nil
        have d2 := KD.cell c2 List.not_mem_nil
        have d3 := KD.cell c3 List.not_mem_nil
        have d4 := KD.cell c4 List.not_mem_nil
        first
          | (go_region_law
              (first
                | (go_simp; go_at_call 17; (with_reducible refine (script_read _ _ y T8 (G8.out.then (numE_kept _) (Keeps.refl [] w8).drew) HYL.out).mono ?_); rw [HRY.out]; rintro e w9 ⟨cs9, U9, rfl, g9, k9⟩; have K9 := Lib.hid (((Keeps.refl [] w8).drew).then k9); have G9 := Lib.hid g9; clear k9 g9; have x0 := K9.out.cell c0 List.not_mem_nil; have x1 := K9.out.cell c1 List.not_mem_nil; have x2 := K9.out.cell c2 List.not_mem_nil; have x3 := K9.out.cell c3 List.not_mem_nil; have x4 := K9.out.cell c4 List.not_mem_nil)
                | (go_simp; go_at_call 16; (refine (ref24_same _ cs9.toList _ s s U9 U G9.out (HE0.out _ ((H0.out.then K8.out).then K9.out))).mono ?_); rintro e w10 ⟨rfl, k10⟩; rw [decide_eq_true rfl]; have K10 := Lib.hid (K9.out.then k10); clear k10)
                | fail))
          | fail
        all_goals
          go_wp2_with fail
          go_ret
          exact ⟨rfl, (H0.out.then K8.out).then K10.out⟩
      · obtain ⟨er, her⟩ : ∃ er, Sn.err s = er := ⟨_, rfl⟩
        have HW8 : Hid (Sn.write s = []) := Lib.hid (by unfold Sn.write; rw [if_neg h0])
        rw [HW8.out] at r8
        rw [her] at h0
        rw [her]
        have hq2 : (er != 0) = true := by simp [h0]
        obtain ⟨a8, c8', rfl⟩ := r8.shape
        clear k8 r8 her h0
        simp only [List.length_nil] at *
        go_upto_region 9 with fail
        go_quiet (fail)
        go_wp2_with fail
        go_ret
        exact ⟨rfl, (H0.out.then K8.out).drewN _⟩
end Go.Proofs.Ytopkfhmdgheghaa
