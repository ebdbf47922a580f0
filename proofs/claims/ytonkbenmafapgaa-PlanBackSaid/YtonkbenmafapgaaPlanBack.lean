/-
  The law PlanBack: its walk.
  Conditions: none.
-/
import Derived.Test.YtonkbenmafapgaaPlanA
import Derived.Test.YtonkbenmafapgaaPlanZ
import Derived.Test.YtonkbenmafapgaaPlanU
import Derived.Test.YtonkbenmafapgaaPlanK
namespace Go.Proofs.Ytonkbenmafapgaa
open Go.RowKit
set_option linter.unusedVariables false
set_option linter.unusedSimpArgs false
set_option linter.unnecessarySimpa false

theorem Pn.enc_len {p : List (List Pn.Op)} (h : Pn.right p = true) : (Pn.enc p).length ≤ 5000 := by
  obtain ⟨h1, h2, h3⟩ := Pn.right_rows h
  have := flat_le Pn.encOps 500 p (fun o ho => Pn.encOps_len (h3 o ho)) p.length
  rw [List.take_length] at this
  unfold Pn.enc
  rw [List.length_cons]; omega

set_option maxRecDepth 100000 in
set_option maxHeartbeats 3200000 in
theorem planBack_walk (w : World) (vb vm : Value) (lb lm : List Int) (SB SM : List Nat) (hb : GV (numE .u8) 1 w vb lb SB) (hm : GV (numE .u8) 1 w vm lm SM) :
    Calls Try.prog 13 #[vb, vm] w fun e w' => e = .returned (.bool true) ∧ Keeps [] w w' := by
  have hlb := hb.le
  have hlm := hm.le
  unfold maxLen at hlb hlm
  have hrb : ∀ x ∈ lb, 0 ≤ x ∧ x ≤ 255 := fun x hx => wf8 (hb.wf x hx)
  have hrm : ∀ x ∈ lm, 0 ≤ x ∧ x ≤ 255 := fun x hx => wf8 (hm.wf x hx)
  obtain ⟨ao1, cap1, rfl⟩ := hb.shape
  obtain ⟨ao2, cap2, rfl⟩ := hm.shape
  have HB := Lib.hid hb
  have HM := Lib.hid hm
  have HRB := Lib.hid hrb
  have HRM := Lib.hid hrm
  clear hb hm hrb hrm
  cases hq1 : decide (2000 < (lb.length : Int)) with
  | true =>
    go_enter Try.func13, Try.ntmps13
    go_wp2_with fail
    refine (plan_alive _).mono ?_
    rintro e w1 ⟨rfl, k1⟩
    have K1 := Lib.hid k1
    clear k1
    go_wp2_with fail
    go_ret
    exact ⟨rfl, K1.out⟩
  | false =>
    cases hq2 : decide (100 < (lm.length : Int)) with
    | true =>
      go_enter Try.func13, Try.ntmps13
      go_wp2_with fail
      refine (plan_alive _).mono ?_
      rintro e w1 ⟨rfl, k1⟩
      have K1 := Lib.hid k1
      clear k1
      go_wp2_with fail
      go_ret
      exact ⟨rfl, K1.out⟩
    | false =>
      have hl2 : lm.length ≤ 100 := by simp at hq2; omega
      obtain ⟨p, hp⟩ : ∃ p, (Pn.dec lb).1 = p := ⟨_, rfl⟩
      obtain ⟨x, hx⟩ : ∃ x, Pn.enc p = x := ⟨_, rfl⟩
      have hright : Pn.right p = true := by rw [← hp]; exact Pn.dec_right HRB.out
      have hd2 : (Pn.dec lb).2 = x.length := by rw [← hx, ← hp]; exact Pn.dec_size HRB.out
      have hxl : x.length ≤ 5000 := by rw [← hx]; exact Pn.enc_len hright
      have hxr : ∀ y ∈ x, 0 ≤ y ∧ y ≤ 255 := by rw [← hx]; exact Pn.enc_range p hright
      have hde : Pn.dec (x ++ lm) = (p, x.length) := by rw [← hx]; exact Pn.dec_enc p hright lm
      obtain ⟨n, hn⟩ : ∃ n, min x.length lb.length = n := ⟨_, rfl⟩
      have hn1 : n ≤ lb.length := by omega
      have hn2 : n = lb.length ∨ n = x.length := by omega
      have HP := Lib.hid hp
      have HX := Lib.hid hx
      have HRI := Lib.hid hright
      have HD2 := Lib.hid hd2
      have HXR := Lib.hid hxr
      have HDE := Lib.hid hde
      have HN := Lib.hid hn
      have HN2 := Lib.hid hn2
      clear hp hx hright hd2 hxr hde hn hn2
      go_enter Try.func13, Try.ntmps13
      go_wp2_with fail
      refine (plan_alive _).mono ?_
      rintro e w1 ⟨rfl, k1⟩
      have K1 := Lib.hid k1
      clear k1
      go_wp2_with fail
      refine (plan_decode _ _ lb SB (HB.out.then (numE_kept _) K1.out)).mono ?_
      rw [HP.out, HD2.out, HN.out]
      rintro e w2 ⟨v2, S2, rfl, g2, s2, k2⟩
      obtain ⟨a2, c2, rfl⟩ := g2.shape
      have K2 := Lib.hid (K1.out.then k2)
      have G2 := Lib.hid g2
      clear k2 g2 s2
      go_wp2_with fail
      refine (plan_encode _ _ p S2 G2.out).mono ?_
      rintro e w3 (⟨_, v3, rfl, T3, r3, k3, s3⟩ | ⟨h, _⟩)
      rotate_left
      · have := HRI.out; rw [h] at this; cases this
      rw [HX.out] at r3
      obtain ⟨a3, c3, rfl⟩ := r3.shape
      have K3 := Lib.hid (K2.out.then k3)
      have G3 := Lib.hid (G2.out.then opsE_kept k3)
      have R3 := Lib.hid r3
      clear k3 r3 s3
      have ka : Keeps [] w3 (w3.alloc (.cells #[] 5)) := (Keeps.refl [] w3).alloc _
      have R4 := Lib.hid (KR.lit .u8 w3 [] 5 w3.heap.size rfl (by simp))
      have V3 := Lib.hid (Row.view (R3.out.then ka))
      have KA := Lib.hid ka
      clear ka
      go_wp2_with (at_builtin; go_must (refine wp_appks elemByte R4.out V3.out (by rw [List.length_nil]; omega) ?_))
      intro a5 c5 w5 T5 r5 k5 s5
      have r5' : KR .u8 w5 (.slice a5 x.length c5) 5 x T5 := by simpa using r5
      have K5 : Hid (Keeps [] w3 w5) := Lib.hid (KA.out.trans k5 (fun y hy => .inr (by simp at hy; omega)))
      have R5 := Lib.hid r5'
      obtain ⟨TM, hvm, hvs⟩ := (HM.out.then (numE_kept _) (K3.out.then K5.out)).view_nums
      have VM := Lib.hid hvm
      have T5' : Hid (∀ y ∈ T5, w3.heap.size ≤ y) := Lib.hid (fun y hy => by
        have h := s5 y hy
        first | omega | (simp at h; omega))
      clear r5 r5' k5 s5 hvm hvs
      try simp only [List.length_nil, Nat.zero_add]
      go_wp2_with (at_builtin; go_must (refine wp_appks elemByte R5.out VM.out (by omega) ?_))
      intro a6 c6 w6 T6 r6 k6 s6
      have K6 : Hid (Keeps [] w3 w6) := Lib.hid (K5.out.trans k6 (fun y hy => .inr (T5'.out y hy)))
      have R6 := Lib.hid (r6.gv (fun y hy => by
        rcases List.mem_append.1 hy with h | h
        · exact wf_u8 (HXR.out y h)
        · exact wf_u8 (HRM.out y h)))
      clear r6 k6 s6
      go_wp2_with fail
      refine (plan_decode _ _ (x ++ lm) _ R6.out).mono ?_
      rw [HDE.out, List.length_append, Nat.min_eq_left (Nat.le_add_right _ _)]
      rintro e w7 ⟨v7, S7, rfl, g7, s7, k7⟩
      obtain ⟨a7, c7, rfl⟩ := g7.shape
      have K7 := Lib.hid (K3.out.then (K6.out.then k7))
      have G7 := Lib.hid g7
      have G3' := Lib.hid (G3.out.then opsE_kept (K6.out.then k7))
      clear k7 g7 s7
      have hb1 : ((n : Int) == (lb.length : Int)) = true ∨ (((n : Int) == (lb.length : Int)) = false ∧ ((n : Int) == (x.length : Int)) = true) := by
        rcases HN2.out with h | h
        · left; simp [h]
        · by_cases e : n = lb.length
          · left; simp [e]
          · right; simp; omega
      go_wp2_with fail
      refine (plan_right _ _ p S2 G3'.out).mono ?_
      rintro e w8 ⟨rfl, k8⟩
      rw [HRI.out]
      have K8 := Lib.hid (K7.out.then k8)
      have G8 := Lib.hid (G3'.out.then opsE_kept k8)
      have G78 := Lib.hid (G7.out.then opsE_kept k8)
      clear k8
      go_wp2_with fail
      refine (ref10_same _ p p _ _ S2 S7 G8.out G78.out).mono ?_
      rintro e w9 ⟨rfl, k9⟩
      rw [decide_eq_true rfl]
      have K9 := Lib.hid (K8.out.then k9)
      have G9 := Lib.hid (G8.out.then opsE_kept k9)
      clear k9
      rcases hb1 with hb1 | ⟨hb1, hb2⟩
      all_goals
        go_wp2_with fail
        refine (plan_clone _ _ p S2 G9.out HRI.out).mono ?_
        rintro e w10 ⟨v10, S10, rfl, g10, k10⟩
        obtain ⟨a10, c10, rfl⟩ := g10.shape
        have K10 := Lib.hid (K9.out.then k10)
        have G10 := Lib.hid g10
        have G9' := Lib.hid (G9.out.then opsE_kept k10)
        clear k10 g10
        go_wp2_with fail
        refine (ref10_same _ p p _ _ S10 S2 G10.out G9'.out).mono ?_
        rintro e w11 ⟨rfl, k11⟩
        rw [decide_eq_true rfl]
        have K11 := Lib.hid (K10.out.then k11)
        clear k11
        go_wp2_with fail
        go_ret
        exact ⟨rfl, K11.out⟩
end Go.Proofs.Ytonkbenmafapgaa
