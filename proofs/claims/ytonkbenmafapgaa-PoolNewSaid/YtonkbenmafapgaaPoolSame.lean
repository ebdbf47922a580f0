/-
  The contract of handofflaw05.same: where the two agree it says so.
  Conditions: what holds of every pool (Po.Inv).
-/
import Derived.Test.YtonkbenmafapgaaRef05G
import Derived.Deep.DrawnRows
namespace Go.Proofs.Ytonkbenmafapgaa
open Go.RowKit
set_option linter.unusedVariables false
set_option linter.unusedSimpArgs false
set_option linter.unnecessarySimpa false
attribute [local go_sem ↓] Go.wp_at_zero Go.wp_at_succ

set_option maxRecDepth 100000 in
set_option maxHeartbeats 4000000 in
theorem pool_same (w : World) (b size most : Nat) (vc vm : Value) (s : Po.St) (S R : List Nat) (hp : PS w (.pointer (some ⟨b, 0, none⟩)) size most s S) (h : RP w vc vm s.C s.M R) (v : Po.Inv size most s) :
    Calls Try.prog 22 #[.pointer (some ⟨b, 0, none⟩), .agg #[.int .i64 size, .int .i64 most, vc, vm, .int .i64 s.f]] w fun e w' => e = .returned (.bool true) ∧ Keeps [] w w' := by
  have H := Lib.hid h
  have HP := Lib.hid hp
  have HPl : Hid (Pl w (.pointer (some ⟨b, 0, none⟩)) size most s.C s.M s.f s.H S) := Lib.hid hp
  have HV := Lib.hid v
  obtain ⟨h1, U1, h2, h3⟩ := h
  have hle := h1.le
  unfold maxLen at hle
  have hlens := v.lens
  have hfl := v.fl
  have hs1 := v.s1
  have hhl := v.hl
  have hm2 := v.m2
  have hfH : s.f ≤ s.H.length := by omega
  have hf1 : s.f ≤ 1000 := by omega
  have houts := v.outs
  have hcach : ∀ l ∈ s.C, l.length ≤ 1000 := fun l hl => by have := v.caches l hl; omega
  have HCa := Lib.hid hcach
  obtain ⟨aoc, capc, rfl⟩ := h1.shape
  obtain ⟨aom, capm, rfl⟩ := h2.shape
  have H1 := Lib.hid h1
  have H2 := Lib.hid h2
  clear h1 h2 h3 v hp hcach hm2
  have hb := blk_new w [.int .i64 size, .int .i64 most, .slice aoc s.C.length capc, .slice aom s.M.length capm, .int .i64 s.f] 38 _ rfl
  have HB := Lib.hid hb
  clear hb
  go_enter Try.func22, Try.ntmps22
  go_wp2_with fail
  go_loopw [5, 6, 10] (fun _ _ i wr => ∃ k : Nat, k ≤ s.C.length ∧ i = .int .i64 k ∧ Keeps [] w wr ∧ Blk wr w.heap.size [.int .i64 size, .int .i64 most, .slice aoc s.C.length capc, .slice aom s.M.length capm, .int .i64 s.f] 38) (fun _ _ i _ => s.C.length - (intOf i).toNat)
  case atStart => exact ⟨0, Nat.zero_le _, rfl, (Keeps.refl _ _).alloc _, HB.out⟩
  case round =>
    obtain ⟨k, hk, rfl, hke, hbb⟩ := hrel
    have HKe := Lib.hid hke
    have HBb := Lib.hid hbb
    clear hke
    by_cases hlt : k < s.C.length
    · obtain ⟨g, off, cs, U, rfl, hgS, hg, hcs, hcell, ⟨vk, rfl, hvk⟩, hUS⟩ := (H1.out.then intsE_kept HKe.out).get (List.getElem?_eq_getElem hlt)
      have c0 : wr.cell? ⟨g, off + k, none⟩ = some vk := by have := hcell 0 (by omega); rwa [Nat.mul_one, Nat.add_zero] at this
      have hca : Po.cache s.C k = s.C[k] := by simp [Po.cache, Po.taker, hlt]
      obtain ⟨l, hl⟩ : ∃ l, s.C[k] = l := ⟨_, rfl⟩
      rw [hl] at hvk hca
      obtain ⟨aok, capk, rfl⟩ := hvk.shape
      have HVk := Lib.hid hvk
      have HCk := Lib.hid hca
      clear hcs hcell hvk hca hl hbb
      go_wp2_with fail
      refine (pool_cache _ _ _ _ _ _ _ _ _ _ (HP.out.then HKe.out) HCa.out).mono ?_
      rintro e w9 ⟨v9, S9, rfl, k9, i9, _⟩
      obtain ⟨ao9, cap9, rfl⟩ := i9.shape
      rw [HCk.out] at i9 ⊢
      have K9 := Lib.hid k9
      have I9 := Lib.hid i9
      clear k9 i9
      go_wp2_with fail
      refine (same02 _ _ _ _ _ _ _ I9.out (HVk.out.then K9.out)).mono ?_
      rintro e w10 ⟨rfl, m10, rfl⟩
      rw [show decide (l = l) = true by simp]
      have HK10 := Lib.hid ((HKe.out.then K9.out).drewN m10)
      have HB10 := Lib.hid ((HBb.out.keep K9.out (by simp)).keep ((Keeps.refl [] w9).drewN m10) (by simp))
      clear c0
      go_wp2_with fail
      go_roundw
      case rel => exact ⟨k + 1, by omega, by go_num, HK10.out, HB10.out⟩
      case measure => simp [intOf]; omega
    · obtain rfl : k = s.C.length := by omega
      obtain ⟨⟨c0, c1, c2, c3, c4⟩, _⟩ := hbb.cells5
      have hM1k : s.M.length ≤ 1000 := by omega
      have hF1k : s.C.flatten.length ≤ 1000 := by omega
      have hcnt : (((Po.outs s.H s.f : Nat) : Int) == (s.f : Int) - ((s.M ++ s.C.flatten).length : Int)) = true := by
        rw [List.length_append]; simp only [beq_iff_eq, Int.natCast_add]; omega
      obtain ⟨ct, hct⟩ : ∃ ct, (Po.outs s.H s.f : Nat) = ct := ⟨_, rfl⟩
      obtain ⟨cr, hcr⟩ : ∃ cr : Int, (s.f : Int) - ((s.M ++ s.C.flatten).length : Int) = cr := ⟨_, rfl⟩
      rw [hct, hcr] at hcnt
      have HCt := Lib.hid hct
      have HCr := Lib.hid hcr
      have hm1 : Po.cache s.C (-1) = [] := by simp [Po.cache, Po.taker]
      have hm2 : Po.cache s.C (s.C.length : Int) = [] := by simp [Po.cache, Po.taker]
      have HM1 := Lib.hid hm1
      have HM2 := Lib.hid hm2
      clear hct hcr hm1 hm2 houts hbb
      go_wp2_with fail
      go_region_held3 (fun w' => w'.cell? ⟨w.heap.size, 0, none⟩ = some (.int .i64 size) ∧ w'.cell? ⟨w.heap.size, 1, none⟩ = some (.int .i64 most) ∧ w'.cell? ⟨w.heap.size, 2, none⟩ = some (.slice aoc s.C.length capc) ∧ w'.cell? ⟨w.heap.size, 3, none⟩ = some (.slice aom s.M.length capm) ∧ w'.cell? ⟨w.heap.size, 4, none⟩ = some (.int .i64 s.f))
        (first | (with_reducible exact ⟨c0, c1, c2, c3, c4⟩) | (with_reducible exact ⟨d0, d1, d2, d3, d4⟩) | (with_reducible exact ⟨e0, e1, e2, e3, e4⟩) | (with_reducible exact ⟨g0, g1, g2, g3, g4⟩) | (with_reducible exact ⟨h0, h1, h2, h3, h4⟩) | (with_reducible exact ⟨j0, j1, j2, j3, j4⟩) | go_keep)
        (first
          | (go_at_call 25; (with_reducible refine (pool_middle _ _ _ _ _ _ _ _ _ (Pl.then HPl.out (HKe.out.drew)) hM1k).mono ?_); rintro e w1 ⟨v1, S1, rfl, k1, i1, _⟩; obtain ⟨ao1, cap1, rfl⟩ := i1.shape; have K1 := Lib.hid (HKe.out.drew.then k1); have I1 := Lib.hid i1; have B1 := Lib.hid (HBb.out.drew.keep k1 (by simp)); obtain ⟨⟨d0, d1, d2, d3, d4⟩, _⟩ := B1.out.cells5; clear k1 i1)
          | (go_at_call 43; (with_reducible refine (same02 _ _ _ s.M s.M _ _ I1.out (H2.out.then K1.out)).mono ?_); rintro e w2 ⟨rfl, m2, rfl⟩; rw [show decide (s.M = s.M) = true by simp])
          | (go_at_call 27; (with_reducible refine (pool_fresh _ _ _ _ _ _ _ _ _ (Pl.then HPl.out (K1.out.drewN m2))).mono ?_); rintro e w3 ⟨rfl, rfl⟩)
          | (go_at_call 17; (with_reducible refine (pool_count _ _ _ _ _ _ _ _ _ (Pl.then HPl.out (K1.out.drewN m2)) hfH hf1).mono ?_); rintro e w3 ⟨rfl, rfl⟩; rw [HCt.out])
          | (go_at_call 65; (with_reducible refine (ref05_count _ _ _ _ _ _ s.C s.M R (H.out.then (K1.out.drewN m2)) hM1k hF1k hf1).mono ?_); rintro e w5 ⟨rfl, k5⟩; rw [HCr.out]; have K5 := Lib.hid ((K1.out.drewN m2).then k5); obtain ⟨⟨g0, g1, g2, g3, g4⟩, _⟩ := ((B1.out.keep ((Keeps.refl [] w1).drewN m2) (by simp)).keep k5 (by simp)).cells5; have B5 := Lib.hid ((B1.out.keep ((Keeps.refl [] w1).drewN m2) (by simp)).keep k5 (by simp)); clear k5)
          | (go_at_call 26; (with_reducible refine (pool_cache _ _ _ _ _ _ _ _ _ (-1) (Pl.then HPl.out K5.out) HCa.out).mono ?_); rintro e w6 ⟨v6, S6, rfl, k6, i6, _⟩; rw [HM1.out] at i6; obtain ⟨ao6, cap6, rfl⟩ := i6.shape; have K6 := Lib.hid (K5.out.then k6); have B6 := Lib.hid (B5.out.keep k6 (by simp)); obtain ⟨⟨h0, h1, h2, h3, h4⟩, _⟩ := B6.out.cells5; clear k6 i6)
          | (go_at_call 26; (with_reducible refine (pool_cache _ _ _ _ _ _ _ _ _ (s.C.length : Int) (Pl.then HPl.out K6.out) HCa.out).mono ?_); rintro e w7 ⟨v7, S7, rfl, k7, i7, _⟩; rw [HM2.out] at i7; obtain ⟨ao7, cap7, rfl⟩ := i7.shape; have K7 := Lib.hid (K6.out.then k7); obtain ⟨⟨j0, j1, j2, j3, j4⟩, _⟩ := (B6.out.keep k7 (by simp)).cells5; clear k7 i7)
          | fail)
      go_wp2_with fail
      go_ret
      exact ⟨rfl, K7.out⟩
end Go.Proofs.Ytonkbenmafapgaa
