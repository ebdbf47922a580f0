/-
  The law PoolNew: its walk.
  Conditions: none.
-/
import Derived.Test.YtonkbenmafapgaaPoolM
import Derived.Test.YtonkbenmafapgaaPoolSame
import Derived.Test.YtonkbenmafapgaaRef05R
import Derived.Test.YtonkbenmafapgaaRep
namespace Go.Proofs.Ytonkbenmafapgaa
open Go.RowKit
set_option linter.unusedVariables false
set_option linter.unusedSimpArgs false
set_option linter.unnecessarySimpa false
attribute [local go_sem ↓] Go.wp_at_zero Go.wp_at_succ

theorem RP.forms {w : World} {vc vm : Value} {C : List (List Int)} {M : List Int} {R : List Nat} (h : RP w vc vm C M R) : ∃ ac cc am cm, vc = .slice ac C.length cc ∧ vm = .slice am M.length cm := by
  obtain ⟨h1, U, h2, _⟩ := h
  obtain ⟨ac, cc, rfl⟩ := h1.shape
  obtain ⟨am, cm, rfl⟩ := h2.shape
  exact ⟨ac, cc, am, cm, rfl, rfl⟩
theorem Blk.five {w : World} {g : Nat} {a b c d e : Value} {t : TypeId} (h : Blk w g [a, b, c, d, e] t) : w.cell? ⟨g, 0, none⟩ = some a ∧ w.cell? ⟨g, 1, none⟩ = some b ∧ w.cell? ⟨g, 2, none⟩ = some c ∧ w.cell? ⟨g, 3, none⟩ = some d ∧ w.cell? ⟨g, 4, none⟩ = some e :=
  ⟨h.cell 0, h.cell 1, h.cell 2, h.cell 3, h.cell 4⟩
theorem Po.right_nat {size most f : Int} {C : List (List Int)} {M : List Int} (h : Po.right size most f C M = true) : ∃ N m F : Nat, size = N ∧ most = m ∧ f = F ∧ N ≤ 64 ∧ F ≤ N := by
  unfold Po.right at h
  simp only [Bool.and_eq_true, decide_eq_true_eq] at h
  obtain ⟨⟨⟨⟨h1, h2⟩, h3⟩, h4⟩, h5⟩ := h
  obtain ⟨a1, a2, a3, a4, a5, a6⟩ := Po.fits_le h1
  exact ⟨size.toNat, most.toNat, f.toNat, by omega, by omega, by omega, by omega, by omega⟩
theorem Po.fits_nat {size takers most : Int} (h : Po.fits size takers most = true) : ∃ N T m : Nat, size = N ∧ takers = T ∧ most = m ∧ N ≤ 64 ∧ T ≤ 8 ∧ 1 ≤ m ∧ m ≤ 16 := by
  obtain ⟨a1, a2, a3, a4, a5, a6⟩ := Po.fits_le h
  exact ⟨size.toNat, takers.toNat, most.toNat, by omega, by omega, by omega, by omega, by omega, by omega, by omega⟩
theorem Po.new_outs0 (N T : Nat) : Po.outs (Po.new N T).H 0 = 0 := by simp [Po.outs]

set_option maxRecDepth 100000 in
set_option maxHeartbeats 6400000 in
theorem poolNew_walk (w : World) (size most f takers : Int) (vc vm : Value) (C : List (List Int)) (M : List Int) (S : List Nat) (h : RP w vc vm C M S) :
    Calls Try.prog 10 #[.agg #[.int .i64 size, .int .i64 most, vc, vm, .int .i64 f], .int .i64 takers] w fun e w' => e = .returned (.bool true) ∧ Keeps [] w w' := by
  obtain ⟨ac, cc, am, cm, rfl, rfl⟩ := h.forms
  have hle := h.1.le
  have hle2 : M.length ≤ maxLen := by obtain ⟨_, U, h2, _⟩ := h; exact h2.le
  unfold maxLen at hle hle2
  have HR := Lib.hid h
  clear h
  cases hq1 : decide (20 < (C.length : Int)) with
  | true =>
    go_enter Try.func10, Try.ntmps10
    go_wp2_with fail
    refine (pool_alive _).mono ?_
    rintro e w1 ⟨rfl, k1⟩
    have hbx := (blk_new w [.int .i64 size, .int .i64 most, .slice ac C.length cc, .slice am M.length cm, .int .i64 f] 38 _ rfl).keep k1 (by simp)
    obtain ⟨c0, c1, c2, c3, c4⟩ := hbx.five
    have K1 := Lib.hid (((Keeps.refl [] w).alloc _).then k1)
    clear k1 hbx
    go_wp2_with fail
    go_ret
    exact ⟨rfl, K1.out⟩
  | false =>
    cases hq2 : decide (100 < (M.length : Int)) with
    | true =>
      go_enter Try.func10, Try.ntmps10
      go_wp2_with fail
      refine (pool_alive _).mono ?_
      rintro e w1 ⟨rfl, k1⟩
      have hbx := (blk_new w [.int .i64 size, .int .i64 most, .slice ac C.length cc, .slice am M.length cm, .int .i64 f] 38 _ rfl).keep k1 (by simp)
      obtain ⟨c0, c1, c2, c3, c4⟩ := hbx.five
      have K1 := Lib.hid (((Keeps.refl [] w).alloc _).then k1)
      clear k1 hbx
      go_wp2_with fail
      go_ret
      exact ⟨rfl, K1.out⟩
    | false =>
      have hM : M.length ≤ 100 := by simp at hq2; omega
      have hC20 : C.length ≤ 20 := by simp at hq1; omega
      go_enter Try.func10, Try.ntmps10
      go_wp2_with fail
      refine (pool_alive _).mono ?_
      rintro e w1 ⟨rfl, k1⟩
      have hbx := (blk_new w [.int .i64 size, .int .i64 most, .slice ac C.length cc, .slice am M.length cm, .int .i64 f] 38 _ rfl).keep k1 (by simp)
      obtain ⟨c0, c1, c2, c3, c4⟩ := hbx.five
      have K1 := Lib.hid (((Keeps.refl [] w).alloc _).then k1)
      have R1 := Lib.hid (HR.out.then K1.out)
      have HB := Lib.hid hbx
      clear k1 hbx HR
      go_wp2_with fail
      go_loop [28, 6] (fun i _ => ∃ k : Nat, k ≤ C.length ∧ i = .int .i64 k ∧ Hid (∀ j, j < k → (C.getD j []).length ≤ 100)) (fun i _ => C.length - (intOf i).toNat)
      case atStart => exact ⟨0, Nat.zero_le _, rfl, Lib.hid (fun j hj => by omega)⟩
      case round =>
        obtain ⟨k, hk, rfl, hall⟩ := hrel
        by_cases hlt : k < C.length
        · obtain ⟨g, off, cs, U, rfl, _, _, _, hc, he, _⟩ := R1.out.1.get (List.getElem?_eq_getElem hlt)
          obtain ⟨v, rfl, hv⟩ := he
          have hcell := hc 0 (by omega)
          rw [Nat.mul_one, Nat.add_zero] at hcell
          simp only [List.getElem?_cons_zero] at hcell
          obtain ⟨ar, cr, rfl⟩ := hv.shape
          have hrl := hv.le
          unfold maxLen at hrl
          have HE : Hid (C.getD k [] = C[k]) := Lib.hid (by simp [List.getD, hlt])
          clear hv hc
          generalize C[k] = row at *
          cases hq3 : decide (100 < (row.length : Int)) with
          | true =>
            go_wp2_with fail
            go_ret
            exact ⟨rfl, K1.out⟩
          | false =>
            go_wp2_with fail
            go_round
            case rel => exact ⟨k + 1, by omega, by go_num, Lib.hid (fun j hj => by
              by_cases e : j = k
              · subst e; rw [HE.out]; simp at hq3; omega
              · exact hall.out j (by omega))⟩
            case measure => simp [intOf]; omega
        · obtain rfl : k = C.length := by omega
          have HA : Hid (∀ l ∈ C, l.length ≤ 1000) := Lib.hid (fun l hl => by
            obtain ⟨j, hj, rfl⟩ := List.getElem_of_mem hl
            have := hall.out j hj
            simp [List.getD, hj] at this
            omega)
          clear hall hlt hk
          cases hcan : Po.fits size takers most with

          | true =>
            cases hright : Po.right size most f C M with
            | true =>
              obtain ⟨N, T, m, rfl, rfl, rfl, hN, hT, hm1, hm2⟩ := Po.fits_nat hcan
              have HN := Lib.hid (fun w' => pool_new w' N T m hN hT hm1 hm2)
              obtain ⟨N2, m3, F, hN2, hm3, rfl, hN64, hFN⟩ := Po.right_nat hright
              obtain rfl : N2 = N := by omega
              obtain rfl : m3 = m := by omega
              have HRI := Lib.hid hright
              have HOF := Lib.hid (Po.of_right (N2 : Int) (m3 : Int) (F : Int) C M)
              have hcn := hcan
              have HCN := Lib.hid hcan
              clear hcan hright hcn
              go_wp2_with fail
              refine (HN.out _).mono ?_
              rintro e w2 ⟨p, S2, rfl, k2, h2, s2⟩
              obtain ⟨b2, rfl⟩ := h2.shape
              have HP2 := Lib.hid h2
              have S2' := Lib.hid s2
              have K2 := Lib.hid (K1.out.then k2)
              have R2 := Lib.hid (R1.out.then k2)
              have HB2 := Lib.hid (HB.out.keep k2 (by simp))
              clear h2 s2 k2 c0 c1 c2 c3 c4
              obtain ⟨c0, c1, c2, c3, c4⟩ := HB2.out.five
              go_wp2_with fail
              refine (pool_of _ _ _ _ _ _ C M S R2.out (by omega) HA.out).mono ?_
              rintro e w3 ⟨k3, h3⟩
              rw [HOF.out, HRI.out] at h3
              simp only [true_and, Bool.true_eq_false, false_and, or_false] at h3
              obtain ⟨b3, S3, H3, rfl, h3, s3, t3⟩ := h3
              rw [Int.toNat_natCast] at t3
              have hiv := Po.of_inv (n := N2) (m := m3) (f := F) (by rw [HOF.out]; exact HRI.out) t3
              have HIV := Lib.hid hiv
              have HP3 : Hid (PS w3 (.pointer (some ⟨b3, 0, none⟩)) N2 m3 ⟨C, M, F, H3⟩ S3) := Lib.hid h3
              clear h3 s3 t3 hiv
              have K3 := Lib.hid (K2.out.then k3)
              have R3 := Lib.hid (R2.out.then k3)
              have HB3 := Lib.hid (HB2.out.keep k3 (by simp))
              have HP23 := Lib.hid (HP2.out.then k3)
              clear k3 c0 c1 c2 c3 c4
              obtain ⟨c0, c1, c2, c3, c4⟩ := HB3.out.five
              go_wp2_with fail
              go_region_held3 (fun w' => w'.cell? ⟨w.heap.size, 0, none⟩ = some (.int .i64 (N2 : Int)) ∧ w'.cell? ⟨w.heap.size, 1, none⟩ = some (.int .i64 (m3 : Int)) ∧ w'.cell? ⟨w.heap.size, 2, none⟩ = some (.slice ac C.length cc) ∧ w'.cell? ⟨w.heap.size, 3, none⟩ = some (.slice am M.length cm) ∧ w'.cell? ⟨w.heap.size, 4, none⟩ = some (.int .i64 (F : Int)))
                (first | (with_reducible exact ⟨c0, c1, c2, c3, c4⟩) | (with_reducible exact ⟨e0, e1, e2, e3, e4⟩) | go_keep)
                (first
                  | (go_at_call 51; (with_reducible refine (ref05_can _ _ _ _).mono ?_); rintro e w8 ⟨rfl, rfl⟩; rw [HCN.out])
                  | (go_at_call 52; (with_reducible refine (ref05_right _ _ _ _ _ _ C M S (R3.out.then (Keeps.refl _ _).drew) (by omega)).mono ?_); rintro e w9 ⟨rfl, k9⟩; rw [HRI.out]; have K9 := Lib.hid ((Keeps.refl [] w3).drew.then k9); obtain ⟨e0, e1, e2, e3, e4⟩ := (HB3.out.keep K9.out (by simp)).five; clear k9)
                  | fail)
              all_goals
                clear c0 c1 c2 c3 c4
                have K4 := Lib.hid (K3.out.then K9.out)
                have R4 := Lib.hid (R3.out.then K9.out)
                have HP24 := Lib.hid (HP23.out.then K9.out)
                have HP34 := Lib.hid (HP3.out.then K9.out)
                have HB4 := Lib.hid (HB3.out.keep K9.out (by simp))
                clear K9
                go_wp2_with fail
                refine (pool_count _ _ _ _ 0 _ _ _ _ HP24.out (Nat.zero_le _) (by omega)).mono ?_
                rintro e w5 ⟨rfl, rfl⟩
                rw [Po.new_outs0]
                go_wp2_with fail
                refine (pool_fresh _ _ _ _ _ _ _ _ _ HP24.out).mono ?_
                rintro e w6 ⟨rfl, rfl⟩
                go_wp2_with fail
                refine (pool_same _ _ _ _ _ _ ⟨C, M, F, H3⟩ _ S HP34.out R4.out HIV.out).mono ?_
                rintro e w7 ⟨rfl, k7⟩
                have K5 := Lib.hid (K4.out.then k7)
                clear k7
                go_wp2_with fail
                go_ret
                exact ⟨rfl, K5.out⟩
            | false =>
              obtain ⟨N, T, m, rfl, rfl, rfl, hN, hT, hm1, hm2⟩ := Po.fits_nat hcan
              have HN := Lib.hid (fun w' => pool_new w' N T m hN hT hm1 hm2)
              have HRI := Lib.hid hright
              have HOF := Lib.hid (Po.of_right (N : Int) (m : Int) f C M)
              have hcn := hcan
              have HCN := Lib.hid hcan
              clear hcan hright hcn
              go_wp2_with fail
              refine (HN.out _).mono ?_
              rintro e w2 ⟨p, S2, rfl, k2, h2, s2⟩
              obtain ⟨b2, rfl⟩ := h2.shape
              have HP2 := Lib.hid h2
              have S2' := Lib.hid s2
              have K2 := Lib.hid (K1.out.then k2)
              have R2 := Lib.hid (R1.out.then k2)
              have HB2 := Lib.hid (HB.out.keep k2 (by simp))
              clear h2 s2 k2 c0 c1 c2 c3 c4
              obtain ⟨c0, c1, c2, c3, c4⟩ := HB2.out.five
              go_wp2_with fail
              refine (pool_of _ _ _ _ _ _ C M S R2.out (by omega) HA.out).mono ?_
              rintro e w3 ⟨k3, h3⟩
              rw [HOF.out, HRI.out] at h3
              simp only [true_and, Bool.false_eq_true, false_and, false_or] at h3
              subst h3
              have K3 := Lib.hid (K2.out.then k3)
              have R3 := Lib.hid (R2.out.then k3)
              have HB3 := Lib.hid (HB2.out.keep k3 (by simp))
              have HP23 := Lib.hid (HP2.out.then k3)
              clear k3 c0 c1 c2 c3 c4
              obtain ⟨c0, c1, c2, c3, c4⟩ := HB3.out.five
              go_wp2_with fail
              go_region_held3 (fun w' => w'.cell? ⟨w.heap.size, 0, none⟩ = some (.int .i64 (N : Int)) ∧ w'.cell? ⟨w.heap.size, 1, none⟩ = some (.int .i64 (m : Int)) ∧ w'.cell? ⟨w.heap.size, 2, none⟩ = some (.slice ac C.length cc) ∧ w'.cell? ⟨w.heap.size, 3, none⟩ = some (.slice am M.length cm) ∧ w'.cell? ⟨w.heap.size, 4, none⟩ = some (.int .i64 f))
                (first | (with_reducible exact ⟨c0, c1, c2, c3, c4⟩) | (with_reducible exact ⟨e0, e1, e2, e3, e4⟩) | go_keep)
                (first
                  | (go_at_call 51; (with_reducible refine (ref05_can _ _ _ _).mono ?_); rintro e w8 ⟨rfl, rfl⟩; rw [HCN.out])
                  | (go_at_call 52; (with_reducible refine (ref05_right _ _ _ _ _ _ C M S (R3.out.then (Keeps.refl _ _).drew) (by omega)).mono ?_); rintro e w9 ⟨rfl, k9⟩; rw [HRI.out]; have K9 := Lib.hid ((Keeps.refl [] w3).drew.then k9); obtain ⟨e0, e1, e2, e3, e4⟩ := (HB3.out.keep K9.out (by simp)).five; clear k9)
                  | fail)
              all_goals
                clear c0 c1 c2 c3 c4
                have K4 := Lib.hid (K3.out.then K9.out)
                have R4 := Lib.hid (R3.out.then K9.out)
                have HP24 := Lib.hid (HP23.out.then K9.out)
                have HB4 := Lib.hid (HB3.out.keep K9.out (by simp))
                clear K9
                go_wp2_with fail
                refine (pool_count _ _ _ _ 0 _ _ _ _ HP24.out (Nat.zero_le _) (by omega)).mono ?_
                rintro e w5 ⟨rfl, rfl⟩
                rw [Po.new_outs0]
                go_wp2_with fail
                refine (pool_fresh _ _ _ _ _ _ _ _ _ HP24.out).mono ?_
                rintro e w6 ⟨rfl, rfl⟩
                go_wp2_with fail
                go_ret
                exact ⟨rfl, K4.out⟩
          | false =>
            cases hright : Po.right size most f C M with
            | true =>
              have HN := Lib.hid (fun w' => pool_new_no w' size takers most hcan)
              obtain ⟨N, m, F, rfl, rfl, rfl, hN64, hFN⟩ := Po.right_nat hright
              have HRI := Lib.hid hright
              have HOF := Lib.hid (Po.of_right (N : Int) (m : Int) (F : Int) C M)
              have hcn := hcan
              have HCN := Lib.hid hcan
              clear hcan hright hcn
              go_wp2_with fail
              refine (HN.out _).mono ?_
              rintro e w2 ⟨rfl, rfl⟩
              have K2 := Lib.hid K1.out
              have R2 := Lib.hid R1.out
              have HB2 := Lib.hid HB.out
              go_wp2_with fail
              refine (pool_of _ _ _ _ _ _ C M S R2.out (by omega) HA.out).mono ?_
              rintro e w3 ⟨k3, h3⟩
              rw [HOF.out, HRI.out] at h3
              simp only [true_and, Bool.true_eq_false, false_and, or_false] at h3
              obtain ⟨b3, S3, H3, rfl, h3, s3, t3⟩ := h3
              rw [Int.toNat_natCast] at t3
              have hiv := Po.of_inv (n := N) (m := m) (f := F) (by rw [HOF.out]; exact HRI.out) t3
              have HIV := Lib.hid hiv
              have HP3 : Hid (PS w3 (.pointer (some ⟨b3, 0, none⟩)) N m ⟨C, M, F, H3⟩ S3) := Lib.hid h3
              clear h3 s3 t3 hiv
              have K3 := Lib.hid (K2.out.then k3)
              have R3 := Lib.hid (R2.out.then k3)
              have HB3 := Lib.hid (HB2.out.keep k3 (by simp))
              clear k3 c0 c1 c2 c3 c4
              obtain ⟨c0, c1, c2, c3, c4⟩ := HB3.out.five
              go_wp2_with fail
              go_region_held3 (fun w' => w'.cell? ⟨w.heap.size, 0, none⟩ = some (.int .i64 (N : Int)) ∧ w'.cell? ⟨w.heap.size, 1, none⟩ = some (.int .i64 (m : Int)) ∧ w'.cell? ⟨w.heap.size, 2, none⟩ = some (.slice ac C.length cc) ∧ w'.cell? ⟨w.heap.size, 3, none⟩ = some (.slice am M.length cm) ∧ w'.cell? ⟨w.heap.size, 4, none⟩ = some (.int .i64 (F : Int)))
                (first | (with_reducible exact ⟨c0, c1, c2, c3, c4⟩) | (with_reducible exact ⟨e0, e1, e2, e3, e4⟩) | go_keep)
                (first
                  | (go_at_call 51; (with_reducible refine (ref05_can _ _ _ _).mono ?_); rintro e w8 ⟨rfl, rfl⟩; rw [HCN.out])
                  | (go_at_call 52; (with_reducible refine (ref05_right _ _ _ _ _ _ C M S (R3.out.then (Keeps.refl _ _).drew) (by omega)).mono ?_); rintro e w9 ⟨rfl, k9⟩; rw [HRI.out]; have K9 := Lib.hid ((Keeps.refl [] w3).drew.then k9); obtain ⟨e0, e1, e2, e3, e4⟩ := (HB3.out.keep K9.out (by simp)).five; clear k9)
                  | fail)
              all_goals
                clear c0 c1 c2 c3 c4
                have K4 := Lib.hid (K3.out.then K9.out)
                have R4 := Lib.hid (R3.out.then K9.out)
                have HP34 := Lib.hid (HP3.out.then K9.out)
                have HB4 := Lib.hid (HB3.out.keep K9.out (by simp))
                clear K9
                go_wp2_with fail
                refine (pool_same _ _ _ _ _ _ ⟨C, M, F, H3⟩ _ S HP34.out R4.out HIV.out).mono ?_
                rintro e w7 ⟨rfl, k7⟩
                have K5 := Lib.hid (K4.out.then k7)
                clear k7
                go_wp2_with fail
                go_ret
                exact ⟨rfl, K5.out⟩
            | false =>
              have HN := Lib.hid (fun w' => pool_new_no w' size takers most hcan)
              have HRI := Lib.hid hright
              have HOF := Lib.hid (Po.of_right size most f C M)
              have hcn := hcan
              have HCN := Lib.hid hcan
              clear hcan hright hcn
              go_wp2_with fail
              refine (HN.out _).mono ?_
              rintro e w2 ⟨rfl, rfl⟩
              have K2 := Lib.hid K1.out
              have R2 := Lib.hid R1.out
              have HB2 := Lib.hid HB.out
              go_wp2_with fail
              refine (pool_of _ _ _ _ _ _ C M S R2.out (by omega) HA.out).mono ?_
              rintro e w3 ⟨k3, h3⟩
              rw [HOF.out, HRI.out] at h3
              simp only [true_and, Bool.false_eq_true, false_and, false_or] at h3
              subst h3
              have K3 := Lib.hid (K2.out.then k3)
              have R3 := Lib.hid (R2.out.then k3)
              have HB3 := Lib.hid (HB2.out.keep k3 (by simp))
              clear k3 c0 c1 c2 c3 c4
              obtain ⟨c0, c1, c2, c3, c4⟩ := HB3.out.five
              go_wp2_with fail
              go_region_held3 (fun w' => w'.cell? ⟨w.heap.size, 0, none⟩ = some (.int .i64 size) ∧ w'.cell? ⟨w.heap.size, 1, none⟩ = some (.int .i64 most) ∧ w'.cell? ⟨w.heap.size, 2, none⟩ = some (.slice ac C.length cc) ∧ w'.cell? ⟨w.heap.size, 3, none⟩ = some (.slice am M.length cm) ∧ w'.cell? ⟨w.heap.size, 4, none⟩ = some (.int .i64 f))
                (first | (with_reducible exact ⟨c0, c1, c2, c3, c4⟩) | (with_reducible exact ⟨e0, e1, e2, e3, e4⟩) | go_keep)
                (first
                  | (go_at_call 51; (with_reducible refine (ref05_can _ _ _ _).mono ?_); rintro e w8 ⟨rfl, rfl⟩; rw [HCN.out])
                  | (go_at_call 52; (with_reducible refine (ref05_right _ _ _ _ _ _ C M S (R3.out.then (Keeps.refl _ _).drew) (by omega)).mono ?_); rintro e w9 ⟨rfl, k9⟩; rw [HRI.out]; have K9 := Lib.hid ((Keeps.refl [] w3).drew.then k9); obtain ⟨e0, e1, e2, e3, e4⟩ := (HB3.out.keep K9.out (by simp)).five; clear k9)
                  | fail)
              all_goals
                clear c0 c1 c2 c3 c4
                have K4 := Lib.hid (K3.out.then K9.out)
                have R4 := Lib.hid (R3.out.then K9.out)
                have HB4 := Lib.hid (HB3.out.keep K9.out (by simp))
                clear K9
                go_wp2_with fail
                go_ret
                exact ⟨rfl, K4.out⟩
end Go.Proofs.Ytonkbenmafapgaa
