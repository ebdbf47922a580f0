/-
  The law PlanBytes: its walk.
  Conditions: none.
-/
import Derived.Test.YtonkbenmafapgaaPlanA
import Derived.Test.YtonkbenmafapgaaPlanZ
import Derived.Test.YtonkbenmafapgaaPlanU
import Derived.Test.YtonkbenmafapgaaPlanG
import Derived.Test.YtonkbenmafapgaaPlanW
import Derived.Laws.BytesArg
namespace Go.Proofs.Ytonkbenmafapgaa
open Go.RowKit
set_option linter.unusedVariables false
set_option linter.unusedSimpArgs false
set_option linter.unnecessarySimpa false

/-- string(b) -/
theorem conv_bytes {P : Program} {src e dst : TypeId} (hs : P.underlying src = some (.slice e)) (he : P.underlying e = some (.int .u8)) (hd : P.underlying dst = some .string) {w : World} {v : Value} {l : List Int} {S : List Nat} (h : View w v 1 l.length (l.map (Value.int .u8)) S) :
    (convert src dst v).run P w = .ok (.string (strOfNums l)) w := by
  by_cases h0 : l.length = 0
  · obtain rfl := List.eq_nil_of_length_eq_zero h0
    obtain ⟨ao, cap, rfl⟩ := h.shape
    cases ao with
    | none => exact run_convert_bytes_nil w src e hs he _ _ dst hd
    | some a =>
      rw [run_convert_bytes_string w src dst e _ _ cap hs he hd, run_bytesToString w _ _ cap [] (by simp [loadCells, loadCellsFrom])]
      rfl
  · obtain ⟨ao, cap, rfl⟩ := h.shape
    obtain ⟨g, off, rfl, _, _, hc⟩ := h.cell (by omega)
    refine run_convert_bytes_arg w src e hs he g off _ cap l rfl (fun i hi => ?_) dst hd
    have := hc i (by simpa using hi)
    rw [this]; simp [List.getD, hi]

set_option maxRecDepth 100000 in
set_option maxHeartbeats 3200000 in
theorem planBytes_walk (w : World) (vp vb : Value) (p : List (List Pn.Op)) (lb : List Int) (SP SB : List Nat) (hp : GV opsE 1 w vp p SP) (hb : GV (numE .u8) 1 w vb lb SB) :
    Calls Try.prog 12 #[vp, vb] w fun e w' => e = .returned (.bool true) ∧ Keeps [] w w' := by
  have hlb := hb.le
  unfold maxLen at hlb
  obtain ⟨ao1, cap1, rfl⟩ := hp.shape
  obtain ⟨ao2, cap2, rfl⟩ := hb.shape
  have HP := Lib.hid hp
  have HB := Lib.hid hb
  clear hp hb
  go_enter Try.func12, Try.ntmps12
  go_wp2_with fail
  refine (plan_alive _).mono ?_
  rintro e w1 ⟨rfl, k1⟩
  have K1 := Lib.hid k1
  clear k1
  go_wp2_with fail
  refine (plan_great _ _ p SP (HP.out.then opsE_kept K1.out)).mono ?_
  rintro e w2 ⟨gr, rfl, k2⟩
  have K2 := Lib.hid (K1.out.then k2)
  clear k2
  cases gr with
  | true =>
    go_wp2_with fail
    go_ret
    exact ⟨rfl, K2.out⟩
  | false =>
    cases hq1 : decide (2000 < (lb.length : Int)) with
    | true =>
      go_wp2_with fail
      go_ret
      exact ⟨rfl, K2.out⟩
    | false =>
      go_wp2_with fail
      refine (plan_encode _ _ p SP (HP.out.then opsE_kept K2.out)).mono ?_
      rintro e w3 h3
      cases hr : Pn.right p with
      | true =>
        rw [EncodePost, hr] at h3
        simp only [true_and, Bool.true_eq_false, false_and, or_false] at h3
        obtain ⟨v3, rfl, T3, r3, k3, _⟩ := h3
        have hxr := Pn.enc_range p hr
        obtain ⟨x, hx⟩ : ∃ x, Pn.enc p = x := ⟨_, rfl⟩
        rw [hx] at r3
        have K3 := Lib.hid (K2.out.then k3)
        have R3 := Lib.hid r3
        obtain ⟨a3, c3, rfl⟩ := r3.shape
        have HR := Lib.hid hr
        have HX := Lib.hid hx
        clear k3 r3 hr hx hxr
        go_wp2_with fail
        refine (ref10_encode _ _ p SP (HP.out.then opsE_kept K3.out)).mono ?_
        rintro e w4 h4
        rw [EncodePost, HR.out, HX.out] at h4
        simp only [true_and, Bool.true_eq_false, false_and, or_false] at h4
        obtain ⟨v4, rfl, T4, r4, k4, _⟩ := h4
        have K4 := Lib.hid (K3.out.then k4)
        have R34 := Lib.hid (R3.out.then k4)
        have R4 := Lib.hid r4
        obtain ⟨a4, c4, rfl⟩ := r4.shape
        clear k4 r4
        go_wp2_with fail
        refine (plan_decode _ _ lb SB (HB.out.then (numE_kept _) K4.out)).mono ?_
        rintro e w5 ⟨v5, S5, rfl, g5, s5, k5⟩
        obtain ⟨P, hP⟩ : ∃ P, (Pn.dec lb).1 = P := ⟨_, rfl⟩
        obtain ⟨n, hn⟩ : ∃ n, min (Pn.dec lb).2 lb.length = n := ⟨_, rfl⟩
        rw [hP] at g5
        rw [hn]
        have HPP := Lib.hid hP
        have HNN := Lib.hid hn
        have K5 := Lib.hid (K4.out.then k5)
        have R35 := Lib.hid (R34.out.then k5)
        have R45 := Lib.hid (R4.out.then k5)
        have G5 := Lib.hid g5
        obtain ⟨a5, c5, rfl⟩ := g5.shape
        clear k5 g5 s5 hP hn
        go_wp2_with fail
        refine (ref10_decode _ _ lb SB (HB.out.then (numE_kept _) K5.out)).mono ?_
        rw [HPP.out, HNN.out]
        rintro e w6 ⟨v6, S6, rfl, g6, s6, k6⟩
        have K6 := Lib.hid (K5.out.then k6)
        have hv1 := conv_bytes (P := Try.prog) (dst := 9) Try.underlying80 Try.underlying5 Try.underlying9 (Row.view (R35.out.then k6))
        have hv2 := conv_bytes (P := Try.prog) (dst := 9) Try.underlying80 Try.underlying5 Try.underlying9 (Row.view (R45.out.then k6))
        have G56 := Lib.hid (G5.out.then opsE_kept k6)
        have G6 := Lib.hid g6
        obtain ⟨a6, c6, rfl⟩ := g6.shape
        clear k6 g6 s6
        go_wp2_with fail
        refine (plan_right _ _ p SP (HP.out.then opsE_kept K6.out)).mono ?_
        rintro e w7 ⟨rfl, k7⟩
        rw [HR.out]
        have K7 := Lib.hid (K6.out.then k7)
        have G57 := Lib.hid (G56.out.then opsE_kept k7)
        have G67 := Lib.hid (G6.out.then opsE_kept k7)
        clear k7 hv1 hv2
        go_wp2_with fail
        refine (ref10_right _ _ p SP (HP.out.then opsE_kept K7.out)).mono ?_
        rintro e w8 ⟨rfl, k8⟩
        rw [HR.out]
        have K8 := Lib.hid (K7.out.then k8)
        have G58 := Lib.hid (G57.out.then opsE_kept k8)
        have G68 := Lib.hid (G67.out.then opsE_kept k8)
        clear k8
        go_wp2_with fail
        refine (ref10_same _ P P _ _ S5 S6 G58.out G68.out).mono ?_
        rintro e w9 ⟨rfl, k9⟩
        rw [decide_eq_true rfl]
        have K9 := Lib.hid (K8.out.then k9)
        clear k9
        go_wp2_with fail
        go_ret
        exact ⟨rfl, K9.out⟩
      | false =>
        rw [EncodePost, hr] at h3
        simp only [true_and, Bool.false_eq_true, false_and, false_or] at h3
        obtain ⟨rfl, k3⟩ := h3
        have K3 := Lib.hid (K2.out.then k3)
        have HR := Lib.hid hr
        clear k3 hr
        go_wp2_with fail
        refine (ref10_encode _ _ p SP (HP.out.then opsE_kept K3.out)).mono ?_
        rintro e w4 h4
        rw [EncodePost, HR.out] at h4
        simp only [true_and, Bool.false_eq_true, false_and, false_or] at h4
        obtain ⟨rfl, k4⟩ := h4
        have K4 := Lib.hid (K3.out.then k4)
        clear k4
        go_wp2_with fail
        refine (plan_decode _ _ lb SB (HB.out.then (numE_kept _) K4.out)).mono ?_
        rintro e w5 ⟨v5, S5, rfl, g5, s5, k5⟩
        obtain ⟨P, hP⟩ : ∃ P, (Pn.dec lb).1 = P := ⟨_, rfl⟩
        obtain ⟨n, hn⟩ : ∃ n, min (Pn.dec lb).2 lb.length = n := ⟨_, rfl⟩
        rw [hP] at g5
        rw [hn]
        have HPP := Lib.hid hP
        have HNN := Lib.hid hn
        have K5 := Lib.hid (K4.out.then k5)
        have G5 := Lib.hid g5
        obtain ⟨a5, c5, rfl⟩ := g5.shape
        clear k5 g5 s5 hP hn
        go_wp2_with fail
        refine (ref10_decode _ _ lb SB (HB.out.then (numE_kept _) K5.out)).mono ?_
        rw [HPP.out, HNN.out]
        rintro e w6 ⟨v6, S6, rfl, g6, s6, k6⟩
        have K6 := Lib.hid (K5.out.then k6)
        have hv1 := conv_bytes (P := Try.prog) (dst := 9) Try.underlying80 Try.underlying5 Try.underlying9 (Row.view (KR.nil .u8 w6 5))
        have G56 := Lib.hid (G5.out.then opsE_kept k6)
        have G6 := Lib.hid g6
        obtain ⟨a6, c6, rfl⟩ := g6.shape
        clear k6 g6 s6
        go_wp2_with fail
        refine (plan_right _ _ p SP (HP.out.then opsE_kept K6.out)).mono ?_
        rintro e w7 ⟨rfl, k7⟩
        rw [HR.out]
        have K7 := Lib.hid (K6.out.then k7)
        have G57 := Lib.hid (G56.out.then opsE_kept k7)
        have G67 := Lib.hid (G6.out.then opsE_kept k7)
        clear k7 hv1
        go_wp2_with fail
        refine (ref10_right _ _ p SP (HP.out.then opsE_kept K7.out)).mono ?_
        rintro e w8 ⟨rfl, k8⟩
        rw [HR.out]
        have K8 := Lib.hid (K7.out.then k8)
        have G58 := Lib.hid (G57.out.then opsE_kept k8)
        have G68 := Lib.hid (G67.out.then opsE_kept k8)
        clear k8
        go_wp2_with fail
        refine (ref10_same _ P P _ _ S5 S6 G58.out G68.out).mono ?_
        rintro e w9 ⟨rfl, k9⟩
        rw [decide_eq_true rfl]
        have K9 := Lib.hid (K8.out.then k9)
        clear k9
        go_wp2_with fail
        go_ret
        exact ⟨rfl, K9.out⟩
end Go.Proofs.Ytonkbenmafapgaa
