/-
  Contracts of package queue: Push.
  Conditions: Qu.Inv.
-/
import Derived.Test.YtonkbenmafapgaaQueue
namespace Go.Proofs.Ytonkbenmafapgaa
open Go.RowKit
set_option linter.unusedVariables false
set_option linter.unusedSimpArgs false
set_option linter.unnecessarySimpa false
attribute [local go_sem ↓] Go.wp_at_zero Go.wp_at_succ

theorem List.set_getElem?_self' {α : Type} {l : List α} {k : Nat} {x : α} (h : l[k]? = some x) : l.set k x = l := by
  obtain ⟨hk, rfl⟩ := List.getElem?_eq_some_iff.1 h
  simp
namespace Qu
theorem headD_app {l m : List Int} {d : Int} (h : l ≠ []) : (l ++ m).headD d = l.headD d := by
  cases l with
  | nil => exact absurd rfl h
  | cons a r => rfl
def push (n : Nat) (R : List (List Int)) (k x : Int) : List (List Int) × Bool :=
  if line R k && decide (0 ≤ x) && decide (x < n) && (loc R x).isNone then (R.set k.toNat (row R k ++ [x]), true) else (R, false)
theorem push_inv' {n : Nat} {R : List (List Int)} (v : Inv n R) (k x : Int) : Inv n (push n R k x).1 := by
  unfold push
  split
  · rename_i h
    simp only [Bool.and_eq_true, decide_eq_true_eq, Option.isNone_iff_eq_none] at h
    obtain ⟨⟨⟨hk, h0⟩, h1⟩, h2⟩ := h
    obtain ⟨j, rfl, hj⟩ := line_nat hk
    rw [row_nat hj]
    exact push_inv v hj h0 h1 h2
  · exact v
end Qu

def QPost (r : List (List Int) × Bool) (p : Value) (n : Nat) (S : List Nat) (w : World) (e : Ending) (w' : World) : Prop :=
  e = .returned (.bool r.2) ∧ Keeps S w w' ∧ Qq w' p n r.1 S

set_option maxRecDepth 100000 in
set_option maxHeartbeats 1600000 in
theorem queue_push (w : World) (p : Value) (n : Nat) (R : List (List Int)) (S : List Nat) (k x : Int) (h : Qq w p n R S) :
    Calls Try.prog 34 #[p, .int .i64 k, .int .i64 x] w (QPost (Qu.push n R k x) p n S w) := by
  obtain ⟨b, rfl⟩ := h.shape
  have H := Lib.hid h
  have hv := h.inv
  have HV := Lib.hid hv
  have hn := hv.n64
  obtain ⟨ao, cap, ch⟩ := h.head0
  cases hk : Qu.line R k with
  | false =>
    have HF : Hid (Qu.push n R k x = (R, false)) := Lib.hid (by simp [Qu.push, hk])
    clear h hv ch
    go_enter Try.func34, Try.ntmps34
    go_wp2_with fail
    refine (queue_line _ _ _ _ _ _ H.out).mono ?_
    rintro e w1 ⟨rfl, rfl⟩
    rw [hk]
    go_wp2_with fail
    go_ret
    unfold QPost
    rw [HF.out]
    exact ⟨rfl, Keeps.refl _ _, H.out⟩
  | true =>
    obtain ⟨j, rfl, hj⟩ := Qu.line_nat hk
    by_cases h0 : x < 0
    · have HF : Hid (Qu.push n R j x = (R, false)) := Lib.hid (by unfold Qu.push; rw [if_neg]; simp; omega)
      clear h hv ch
      go_enter Try.func34, Try.ntmps34
      go_wp2_with fail
      refine (queue_line _ _ _ _ _ _ H.out).mono ?_
      rintro e w1 ⟨rfl, rfl⟩
      rw [hk]
      go_wp2_with fail
      go_ret
      unfold QPost
      rw [HF.out]
      exact ⟨rfl, Keeps.refl _ _, H.out⟩
    · obtain ⟨y, rfl⟩ := Int.eq_ofNat_of_zero_le (show 0 ≤ x by omega)
      by_cases h1 : y < n
      · cases hl : Qu.loc R (y : Int) with
        | some j2 =>
          have HF : Hid (Qu.push n R j y = (R, false)) := Lib.hid (by unfold Qu.push; rw [if_neg]; simp [hl])
          obtain ⟨g1, o1, c1, e0, _, e1, _⟩ := h.thingAt h1
          have ht : (Qu.tc R (y : Int)).1 = (j2 : Int) := by unfold Qu.tc; rw [hl]
          rw [ht] at e1
          have hk1 : ((j2 : Int) != -1) = true := by simp
          clear h hv ch hl ht
          go_enter Try.func34, Try.ntmps34
          go_wp2_with fail
          refine (queue_line _ _ _ _ _ _ H.out).mono ?_
          rintro e w1 ⟨rfl, rfl⟩
          rw [hk]
          go_wp2_with fail
          go_ret
          unfold QPost
          rw [HF.out]
          exact ⟨rfl, Keeps.refl _ _, H.out⟩
        | none =>
          have HF : Hid (Qu.push n R j y = (R.set j (R.getD j [] ++ [(y : Int)]), true)) := Lib.hid (by unfold Qu.push; rw [if_pos (by simp [hk, hl, h1]), Qu.row_nat hj]; rfl)
          obtain ⟨g1, o1, c1, g2, o2, c2, rfl, hraw⟩ := h.raw (by omega) (by omega)
          have hpi := Qu.push_inv hv hj (show 0 ≤ (y : Int) by omega) (by omega) hl
          have hpt := Qu.push_th hv hj (show 0 ≤ (y : Int) by omega) (by omega) hl
          rw [Int.toNat_natCast] at hpt
          have hbd := fun z hz => hv.bound z (Qu.mem_flat hj (y := z) hz)
          have hof := fun z hz => Qu.tc_of hv hj (y := z) hz
          have hynl : (y : Int) ∉ R.getD j [] := fun hm => Qu.loc_none.1 hl (Qu.mem_flat hj hm)
          have hlen : (R.getD j []).length ≤ 64 := by
            have h1 := fun a => Qu.count_le hj (R := R) a
            have h2 := hv.one
            have := Qu.len_bound (l := R.getD j []) (n := n) (fun a => Nat.le_trans (h1 a) (h2 a)) hbd
            omega
          have hlg := Qu.ln_get hj
          have hlnl : (Qu.ln R).length = R.length := by simp [Qu.ln]
          obtain ⟨l, hl2⟩ : ∃ l, R.getD j [] = l := ⟨_, rfl⟩
          rw [hl2] at hpt hpi hbd hof hynl hlen hlg HF
          have ht := Qu.tc_none hl
          have htg := Qu.th_get (R := R) h1
          rw [ht] at htg
          obtain ⟨⟨e0, e1, e2⟩, f0, f1, f2⟩ := hraw.thing htg
          obtain ⟨⟨d0, d1, d2⟩, q0, q1, q2⟩ := hraw.line hlg
          obtain ⟨hh0, hh1⟩ := hraw.head
          rw [Qu.th_len] at hh0
          rw [hlnl] at hh1
          have HR := Lib.hid hraw
          have HPI := Lib.hid hpi
          have HPT := Lib.hid hpt
          have HLG := Lib.hid hlg
          have HBD := Lib.hid hbd
          have HOF := Lib.hid hof
          have HYN := Lib.hid hynl
          obtain ⟨n1, n2, n3⟩ := (⟨hraw.2.2.2.1, hraw.2.2.2.2.1, hraw.2.2.2.2.2⟩ : b ≠ g1 ∧ b ≠ g2 ∧ g1 ≠ g2)
          have n3' : g2 ≠ g1 := fun e => n3 e.symm
          have hr64 := hv.r64
          simp only [Qu.lc] at d0 d1 d2
          have hjI : (j : Int) < (R.length : Int) := by omega
          have hyI : (y : Int) < (n : Int) := by omega
          obtain ⟨la, hla⟩ : ∃ la, l.getLastD (-1) = la := ⟨_, rfl⟩
          rw [hla] at d1
          have HLa := Lib.hid hla
          clear h hv ch hl hraw hpi hpt hlg hbd hof hynl ht htg hl2 hlnl hla
          go_enter Try.func34, Try.ntmps34
          go_wp2_with fail
          refine (queue_line _ _ _ _ _ _ H.out).mono ?_
          rintro e w1 ⟨rfl, rfl⟩
          rw [hk]
          go_upto_region 5 with fail
          go_cut [42] (fun _ w' => QRaw w' b g1 o1 c1 g2 o2 c2 ((Qu.th n R).set y ((j : Int), -1, la)) (Qu.ln R) ∧ Keeps [b, g1, g2] w w')
          case first =>
            go_wp2_with fail
            go_region
            go_wp2_with fail
            go_meet
            exact ⟨(HR.out.tAll (x := y) (by rw [Qu.th_len]; exact h1) (j : Int) (-1) la).drew, ((((Keeps.refl _ w).setCell (by simp) _).setCell (by simp) _).setCell (by simp) _).drew⟩
          case rest =>
            obtain ⟨hr1, hk1⟩ := hcut
            have HR1 := Lib.hid hr1
            have HK1 := Lib.hid hk1
            obtain ⟨⟨d0, d1, d2⟩, q0, q1, q2⟩ := hr1.line HLG.out
            simp only [Qu.lc] at d0 d1 d2
            rw [HLa.out] at d1
            obtain ⟨hh0, hh1⟩ := hr1.head
            rw [List.length_set, Qu.th_len] at hh0
            rw [show (Qu.ln R).length = R.length by simp [Qu.ln]] at hh1
            clear hr1 hk1 e0 e1 e2 f0 f1 f2
            obtain ⟨q5, hq5⟩ : ∃ q, (la == -1) = q := ⟨_, rfl⟩
            have HQ5 := Lib.hid hq5
            go_upto_if 58 with fail
            go_cut [42] (fun _ w' => QRaw w' b g1 o1 c1 g2 o2 c2 (Qu.th n (R.set j (l ++ [(y : Int)]))) ((Qu.ln R).set j ((l ++ [(y : Int)]).headD (-1), la, (l.length : Int))) ∧ Keeps [b, g1, g2] w w')
            case first =>
              by_cases hl0 : l = []
              · subst hl0
                have hla1 : la = -1 := HLa.out.symm
                obtain rfl : q5 = true := by rw [← HQ5.out, hla1]; rfl
                subst hla1
                have HA : Hid (Qu.th n (R.set j ([] ++ [(y : Int)])) = (Qu.th n R).set y ((j : Int), -1, -1)) := Lib.hid (by have := HPT.out; rwa [if_pos rfl] at this)
                go_wp2_with fail
                go_meet
                refine ⟨?_, (HK1.out.setCell (by simp) _)⟩
                have := HR1.out.l0 HLG.out (y : Int)
                rw [HA.out]
                exact this
              · have hlm : la ∈ l := by
                  rw [← HLa.out, List.getLastD_eq_getLast?, List.getLast?_eq_some_getLast hl0]; exact List.getLast_mem hl0
                have hlb := HBD.out la hlm
                obtain ⟨z, rfl⟩ := Int.eq_ofNat_of_zero_le hlb.1
                have hzn : z < n := by omega
                have hzy : y ≠ z := fun e => HYN.out (by rw [e]; exact hlm)
                have HA : Hid (Qu.th n (R.set j (l ++ [(y : Int)])) = ((Qu.th n R).set y ((j : Int), -1, (z : Int))).set z ((j : Int), (y : Int), Qu.prv l (z : Int))) := Lib.hid (by
                  have := HPT.out; rw [if_neg hl0, HLa.out, Int.toNat_natCast] at this; exact this)
                have hzg : ((Qu.th n R).set y ((j : Int), -1, (z : Int)))[z]? = some ((j : Int), Qu.nxt l (z : Int), Qu.prv l (z : Int)) := by
                  rw [List.getElem?_set_ne hzy, Qu.th_get hzn, HOF.out _ hlm]
                have HZ := Lib.hid hzg
                obtain ⟨⟨z0, z1, z2⟩, zf0, zf1, zf2⟩ := HR1.out.thing hzg
                have hzI : (z : Int) < (n : Int) := by omega
                obtain rfl : q5 = false := by rw [← HQ5.out]; simp
                have HHD : Hid ((l ++ [(y : Int)]).headD (-1) = l.headD (-1)) := Lib.hid (Qu.headD_app hl0)
                clear hlm hlb hzg hl0
                generalize Qu.nxt l (z : Int) = nz at *
                go_wp2_with fail
                go_region
                go_wp2_with fail
                go_meet
                refine ⟨?_, ((HK1.out.setCell (by simp) _).drew)⟩
                have := HR1.out.t1 HZ.out (y : Int)
                rw [HA.out, HHD.out, show ((l.headD (-1), (z : Int), (l.length : Int)) : Int × Int × Int) = Qu.lc l by unfold Qu.lc; rw [HLa.out], List.set_getElem?_self' HLG.out]
                exact this.drew
            case rest =>
              obtain ⟨hr2, hk2⟩ := hcut
              have HR2 := Lib.hid hr2
              have HK2 := Lib.hid hk2
              have hjl : j < (Qu.ln R).length := by simp [Qu.ln]; exact hj
              have hg2 : ((Qu.ln R).set j ((l ++ [(y : Int)]).headD (-1), la, (l.length : Int)))[j]? = some ((l ++ [(y : Int)]).headD (-1), la, (l.length : Int)) := by simp [hjl]
              have HG2 := Lib.hid hg2
              obtain ⟨⟨d0, d1, d2⟩, q0, q1, q2⟩ := hr2.line hg2
              have HLN : Hid (Qu.ln (R.set j (l ++ [(y : Int)])) = (Qu.ln R).set j ((l ++ [(y : Int)]).headD (-1), (y : Int), (l.length : Int) + 1)) := Lib.hid (by
                rw [Qu.ln_set]; unfold Qu.lc; simp)
              clear hr2 hk2 hg2 hjl
              generalize (l ++ [(y : Int)]).headD (-1) = hd at *
              go_wp2_with fail
              go_ret
              unfold QPost
              rw [HF.out]
              refine ⟨rfl, ((HK2.out.setCell (by simp) _).setCell (by simp) _), ?_⟩
              have r1 := HR2.out.l1 HG2.out (y : Int)
              have r2 := r1.l2 (x := j) (t := (hd, (y : Int), (l.length : Int))) (by simp [Qu.ln, hj]) ((l.length : Int) + 1)
              simp only [List.set_set] at r2
              exact r2.q rfl HLN.out.symm HPI.out
      · have HF : Hid (Qu.push n R j y = (R, false)) := Lib.hid (by unfold Qu.push; rw [if_neg]; simp [h1])
        clear h hv
        go_enter Try.func34, Try.ntmps34
        go_wp2_with fail
        refine (queue_line _ _ _ _ _ _ H.out).mono ?_
        rintro e w1 ⟨rfl, rfl⟩
        rw [hk]
        go_wp2_with fail
        go_ret
        unfold QPost
        rw [HF.out]
        exact ⟨rfl, Keeps.refl _ _, H.out⟩
end Go.Proofs.Ytonkbenmafapgaa
