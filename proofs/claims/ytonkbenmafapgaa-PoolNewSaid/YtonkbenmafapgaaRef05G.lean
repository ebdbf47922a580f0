/-
  Contracts of handoffref05: Give.
  Conditions: what holds of every pool (Po.Inv).
-/
import Derived.Test.YtonkbenmafapgaaRef05T
namespace Go.Proofs.Ytonkbenmafapgaa
open Go.RowKit
set_option linter.unusedVariables false
set_option linter.unusedSimpArgs false
set_option linter.unnecessarySimpa false

theorem Po.Inv.live2 {size most : Nat} {s : Po.St} (v : Po.Inv size most s) (x : Int) : (decide (0 ≤ x) && decide (x < (s.f : Int)) && !decide (x ∈ s.M ++ s.C.flatten)) = Po.live s.f s.H x := by
  rw [v.live]
  congr 1
  have h : (s.M ++ s.C.flatten).count x = Po.cnt s x := List.count_append
  rw [Bool.eq_iff_iff]
  simp only [Bool.not_eq_true', decide_eq_false_iff_not, decide_eq_true_eq]
  rw [← h]
  exact (List.count_eq_zero (a := x) (l := s.M ++ s.C.flatten)).symm

def RGivePost (r : Po.St × Bool) (size most : Nat) (S : List Nat) (w : World) (e : Ending) (w' : World) : Prop :=
  ∃ vc vm S', e = .returned (.tuple #[.agg #[.int .i64 size, .int .i64 most, vc, vm, .int .i64 r.1.f], .bool r.2]) ∧ Keeps [] w w' ∧ RP w' vc vm r.1.C r.1.M S' ∧ ∀ x ∈ S', x ∈ S ∨ w.heap.size ≤ x
theorem RMid5.gstep {w wr w7 : World} {cb cr : List Value} {M c m6 : List Int} {j k gC offC capc cap7 : Nat} {ao7 : Option Addr} {A B B7 : List Nat} (hke : Keeps [] w wr) (ha : IR wr (.slice (some ⟨gC, offC, none⟩) (j + 1) capc) 3 (c.take (j + 1)) A)
    (hA : ∀ x ∈ A, w.heap.size + 2 ≤ x) (hB : ∀ x ∈ B, w.heap.size + 2 ≤ x) (hd : ∀ x ∈ B, x ∉ A) (hb1 : Blk wr w.heap.size cb 38) (hb2 : Blk wr (w.heap.size + 1) cr 38)
    (hj : c.length - k = j + 1) (hm6 : M ++ c.reverse.take k = m6) (r7 : IR w7 (.slice ao7 (m6.length + 1) cap7) 3 (m6 ++ [c.getD j 0]) B7) (k7 : Keeps B wr w7) (s7 : ∀ x ∈ B7, x ∈ B ∨ wr.heap.size ≤ x) :
    RMid5 w cb cr (c.take (c.length - (k + 1))) (M ++ c.reverse.take (k + 1)) (.slice (some ⟨gC, offC, none⟩) j capc) (.slice ao7 (m6.length + 1) cap7) w7 := by
  have hml : (c.take (j + 1)).length = j + 1 := by simp; omega
  have hpre : IR wr (.slice (some ⟨gC, offC, none⟩) j capc) 3 (c.take j) A := by
    have := IR.prefix (l := c.take (j + 1)) (by rw [hml]; exact ha) j (by omega)
    rwa [List.take_take, Nat.min_eq_left (by omega)] at this
  have e1 : (c.take (c.length - (k + 1))).length = j := by simp; omega
  have e2 : M ++ c.reverse.take (k + 1) = m6 ++ [c.getD j 0] := by rw [Po.rev_next c k j hj, ← List.append_assoc, hm6]
  refine ⟨some ⟨gC, offC, none⟩, capc, ao7, cap7, A, B7, by rw [e1], by rw [e2]; simp, hke.trans k7 (fun x hx => .inr (by have := hB x hx; omega)), ?_, by rw [e2]; exact r7, hA, ?_, ?_, hb1.keep k7 (fun h => by have := hB _ h; omega), hb2.keep k7 (fun h => by have := hB _ h; omega)⟩
  · rw [show c.length - (k + 1) = j by omega]
    exact hpre.keep k7 (fun x hx hb => hd x hb hx)
  · intro x hx
    have hb2l := hb2.lt
    rcases s7 x hx with h | h
    · exact hB x h
    · omega
  · intro x hx hxA
    have := ha.lt x hxA
    rcases s7 x hx with h | h
    · exact hd x h hxA
    · omega
theorem rgive_fin {w W Wf : World} {size most : Nat} {r : Po.St × Bool} {S S' : List Nat} {vc vm : Value} {f : Int} {ok : Bool} {e : Ending} (hk : Keeps [] w W) (hr : RP W vc vm r.1.C r.1.M S') (hS : ∀ x ∈ S', x ∈ S ∨ w.heap.size + 2 ≤ x) (hlS : ∀ x ∈ S, x < w.heap.size)
    (kf : Keeps [w.heap.size, w.heap.size + 1] W Wf) (hf : f = r.1.f) (hok : ok = r.2)
    (he : e = .returned (.tuple #[.agg #[.int .i64 size, .int .i64 most, vc, vm, .int .i64 f], .bool ok])) : RGivePost r size most S w e Wf := by
  subst hf hok
  refine ⟨vc, vm, S', he, hk.trans kf (fun x hx => .inr (by simp at hx; omega)), hr.keep kf (fun y hy h => ?_), fun y hy => ?_⟩
  · simp at h
    rcases hS y hy with h1 | h1
    · have := hlS y h1; omega
    · omega
  · rcases hS y hy with h1 | h1
    · exact .inl h1
    · exact .inr (by omega)

set_option maxRecDepth 100000 in
set_option maxHeartbeats 1600000 in
theorem ref05_give (w : World) (size most : Nat) (vc vm : Value) (s : Po.St) (S : List Nat) (g x : Int) (h : RP w vc vm s.C s.M S) (v : Po.Inv size most s) (hC8 : s.C.length ≤ 1000) :
    Calls Try.prog 21 #[.agg #[.int .i64 size, .int .i64 most, vc, vm, .int .i64 s.f], .int .i64 g, .int .i64 x] w (RGivePost (Po.give most s g x) size most S w) := by
  have H := Lib.hid h
  have HV := Lib.hid v
  obtain ⟨h1, U1, h2, h3⟩ := h
  obtain ⟨hm1, hm2, hs1⟩ := (⟨v.m1, v.m2, v.s1⟩ : _ ∧ _ ∧ _)
  have hle := h1.le
  unfold maxLen at hle
  obtain ⟨aoc, capc, rfl⟩ := h1.shape
  obtain ⟨aom, capm, rfl⟩ := h2.shape
  have H1 := Lib.hid h1
  have H2 := Lib.hid h2
  have H3 := Lib.hid h3
  clear h1 h2 h3 v
  have hb2 := blk_new (w.alloc (.cells #[.int .i64 size, .int .i64 most, .slice aoc s.C.length capc, .slice aom s.M.length capm, .int .i64 s.f] 38)) [.int .i64 0, .int .i64 0, .slice none 0 0, .slice none 0 0, .int .i64 0] 38 _ rfl
  have hb1 := (blk_new w [.int .i64 size, .int .i64 most, .slice aoc s.C.length capc, .slice aom s.M.length capm, .int .i64 s.f] 38 _ rfl).alloc (.cells #[.int .i64 0, .int .i64 0, .slice none 0 0, .slice none 0 0, .int .i64 0] 38)
  simp only [World.size_alloc] at hb2
  have hlens := HV.out.lens
  have hf64 : s.f ≤ 64 := by have := HV.out.fl; omega
  cases ht : Po.taker s.C g with
  | false =>
    have HF : Hid (Po.give most s g x = (s, false)) := Lib.hid (by simp [Po.give, ht])
    have hcase : g < 0 ∨ (0 ≤ g ∧ (s.C.length : Int) ≤ g) := by
      simp [Po.taker] at ht
      omega
    clear ht
    obtain ⟨⟨b0, b1, b2, b3, b4⟩, e0, e1, e2, e3, e4⟩ := hb2.cells5
    clear hb1 hb2
    rcases hcase with h1 | ⟨h1, h2⟩
    all_goals
      go_enter Try.func21, Try.ntmps21
      go_wp2_with fail
      refine bodyPost_ret (v := .tuple #[.agg #[.int .i64 size, .int .i64 most, .slice aoc s.C.length capc, .slice aom s.M.length capm, .int .i64 s.f], .bool false]) (by simp [results, Try.results21, go_sem, b0, b1, b2, b3, b4]) rfl ?_
      rw [HF.out]
      exact ⟨_, _, S, rfl, ((Keeps.refl [] w).alloc _).alloc _, H.out.then (((Keeps.refl [] w).alloc _).alloc _), fun x hx => .inl hx⟩
  | true =>
    have h2 := ht
    simp only [Po.taker, Bool.and_eq_true, decide_eq_true_eq] at h2
    obtain ⟨n, rfl⟩ := Int.eq_ofNat_of_zero_le h2.1
    have hn : n < s.C.length := by omega
    have hnI : (n : Int) < (s.C.length : Int) := by omega
    have hnD : decide (s.C.length ≤ n) = false := by simp; omega
    have hn0 : decide ((n : Int) < 0) = false := by simp
    have hlv2 := HV.out.live2 x
    have HB1 := Lib.hid hb1
    have HB2 := Lib.hid hb2
    clear hb1 hb2
    cases hlv : Po.live s.f s.H x with
    | false =>
      have HF : Hid (Po.give most s n x = (s, false)) := Lib.hid (by simp [Po.give, hlv])
      rw [hlv] at hlv2
      have HLV := Lib.hid hlv2
      clear hlv2 h2
      go_enter Try.func21, Try.ntmps21
      go_wp2_with fail
      refine (ref05_live _ _ _ _ _ _ s.C s.M S x (H.out.then (((Keeps.refl [] w).alloc _).alloc _)) (by omega) (by omega)).mono ?_
      rintro e w1 ⟨rfl, k1⟩
      rw [HLV.out]
      have K1 := Lib.hid ((((Keeps.refl [] w).alloc _).alloc _).then k1)
      obtain ⟨⟨p0, p1, p2, p3, p4⟩, _⟩ := (HB1.out.keep k1 (by simp)).cells5
      obtain ⟨⟨b0, b1, b2, b3, b4⟩, e0, e1, e2, e3, e4⟩ := (HB2.out.keep k1 (by simp)).cells5
      clear k1
      go_wp2_with fail
      refine bodyPost_ret (v := .tuple #[.agg #[.int .i64 size, .int .i64 most, .slice aoc s.C.length capc, .slice aom s.M.length capm, .int .i64 s.f], .bool false]) (by simp [results, Try.results21, go_sem, b0, b1, b2, b3, b4]) rfl ?_
      rw [HF.out]
      exact rgive_fin (W := w1) (S' := S) K1.out (H.out.then K1.out) (fun x hx => .inl hx) H1.out.lt ((((((Keeps.refl _ w1).setCell (by simp) _).setCell (by simp) _).setCell (by simp) _).setCell (by simp) _).setCell (by simp) _) rfl rfl rfl
    | true =>
      rw [hlv] at hlv2
      have HLV := Lib.hid hlv2
      have hk := List.getElem?_eq_getElem hn
      obtain ⟨c, hcc⟩ : ∃ c, s.C[n] = c := ⟨_, rfl⟩
      rw [hcc] at hk
      have hcD : s.C.getD n [] = c := by rw [List.getD_eq_getElem?_getD, hk]; rfl
      have HGV : Hid (Po.give most s n x = (Po.gave most s n c x, true)) := Lib.hid (by
        unfold Po.give; rw [ht, hlv]; simp only [if_true, Int.toNat_natCast, hcD, Bool.and_self])
      have hcl : c.length ≤ most := HV.out.caches c (List.mem_of_getElem? hk)
      have hMl : s.M.length ≤ 64 := HV.out.lens.1
      obtain ⟨gT, offT, cs, U, rfl, hgS, hgT, hcs, hcell, ⟨vk, rfl, hvk⟩, hUS⟩ := H1.out.get hk
      have cT : w.cell? ⟨gT, offT + n, none⟩ = some vk := by have := hcell 0 (by omega); rwa [Nat.mul_one, Nat.add_zero] at this
      obtain ⟨aok, capk, rfl⟩ := hvk.shape
      have HVk := Lib.hid hvk
      have hcl16 : c.length ≤ 16 := by omega
      obtain ⟨o, ho⟩ : ∃ o, c.take (c.length - Po.puts most c) = o := ⟨_, rfl⟩
      have HOe := Lib.hid ho
      have hol : o.length ≤ 16 := by rw [← ho]; simp; omega
      obtain ⟨m, hm⟩ : ∃ m, s.M ++ c.reverse.take (Po.puts most c) = m := ⟨_, rfl⟩
      have HMe := Lib.hid hm
      have hml : m.length ≤ 80 := by rw [← hm]; simp; omega
      obtain ⟨q, hq⟩ : ∃ q, decide (c.length = most) = q := ⟨_, rfl⟩
      have HQ : Hid (q = decide (c.length = most)) := Lib.hid hq.symm
      have hq2 : ((c.length : Int) == (most : Int)) = q := by rw [← hq, Bool.eq_iff_iff]; simp; omega
      clear hcs hcell hvk hk hcc hcD h2 ho hm hlv2
      go_enter Try.func21, Try.ntmps21
      go_wp2_with fail
      refine (ref05_live _ _ _ _ _ _ s.C s.M S x (H.out.then (((Keeps.refl [] w).alloc _).alloc _)) (by omega) (by omega)).mono ?_
      rintro e wl ⟨rfl, kl⟩
      rw [HLV.out]
      have KL := Lib.hid ((((Keeps.refl [] w).alloc _).alloc _).then kl)
      have HBl1 := Lib.hid (HB1.out.keep kl (by simp))
      have HBl2 := Lib.hid (HB2.out.keep kl (by simp))
      have c2l : wl.cell? ⟨w.heap.size, 2, none⟩ = some (.slice (some ⟨gT, offT, none⟩) s.C.length capc) := HBl1.out.cell 2
      have c2a : (wl.alloc (.cells #[] 3)).cell? ⟨w.heap.size, 2, none⟩ = some (.slice (some ⟨gT, offT, none⟩) s.C.length capc) := (World.cell?_alloc_past _ _ _ (block_lt_of_cell c2l)).trans c2l
      have cTl : wl.cell? ⟨gT, offT + n, none⟩ = some (.slice aok c.length capk) := KL.out.cell cT (by simp)
      have cTa : (wl.alloc (.cells #[] 3)).cell? ⟨gT, offT + n, none⟩ = some (.slice aok c.length capk) := (World.cell?_alloc_past _ _ _ (block_lt_of_cell cTl)).trans cTl
      have hwl : w.heap.size + 2 ≤ wl.heap.size := by have := HBl2.out.lt; omega
      clear kl
      go_wp2_with (at_builtin; go_must (refine wp_apps elemInt (IR.lit wl 3 wl.heap.size rfl) (IV.then HVk.out (KL.out.then ((Keeps.refl [] wl).alloc _))) (by rw [List.length_nil]; omega) ?_))
      intro ao1 cap1 w1 A1 r1 k1 s1
      have k01 : Keeps [] wl w1 := ((Keeps.refl [] wl).alloc _).trans k1 (fun x hx => .inr (by simp at hx; omega))
      have HR1 := Lib.hid r1
      have HK1 : Hid (Keeps [] w w1) := Lib.hid (KL.out.then k01)
      have HA1 : Hid (∀ x ∈ A1, wl.heap.size ≤ x) := Lib.hid (fun x hx => by rcases s1 x hx with h | h <;> omega)
      have HB11 := Lib.hid (HBl1.out.keep k01 (by simp))
      have HB21 := Lib.hid (HBl2.out.keep k01 (by simp))
      have c3 : w1.cell? ⟨w.heap.size, 3, none⟩ = some (.slice aom s.M.length capm) := HB11.out.cell 3
      have c3a : (w1.alloc (.cells #[] 3)).cell? ⟨w.heap.size, 3, none⟩ = some (.slice aom s.M.length capm) := (World.cell?_alloc_past _ _ _ (block_lt_of_cell c3)).trans c3
      clear r1 k1 s1 c2l c2a cTl cTa
      go_wp2_with (at_builtin; go_must (refine wp_apps elemInt (IR.lit w1 3 w1.heap.size rfl) (IV.then H2.out (HK1.out.then ((Keeps.refl [] w1).alloc _))) (by rw [List.length_nil]; omega) ?_))
      intro ao2 cap2 w2 A2 r2 k2 s2
      have k12 : Keeps [] w1 w2 := ((Keeps.refl [] w1).alloc _).trans k2 (fun x hx => .inr (by simp at hx; omega))
      have HM0 : Hid (RMid5 w [.int .i64 size, .int .i64 most, .slice (some ⟨gT, offT, none⟩) s.C.length capc, .slice aom s.M.length capm, .int .i64 s.f] [.int .i64 0, .int .i64 0, .slice none 0 0, .slice none 0 0, .int .i64 0] c s.M (.slice ao1 c.length cap1) (.slice ao2 s.M.length cap2) w2) := Lib.hid (by
        have h1 := HB21.out.lt
        refine ⟨ao1, cap1, ao2, cap2, A1, A2, rfl, rfl, HK1.out.then k12, by simpa using HR1.out.then k12, by simpa using r2, fun x hx => by have := HA1.out x hx; omega, fun x hx => by rcases s2 x hx with h | h <;> omega, fun x hx hx1 => ?_, HB11.out.keep k12 (by simp), HB21.out.keep k12 (by simp)⟩
        have := HR1.out.lt x hx1
        rcases s2 x hx with h | h <;> omega)
      have c1 : w2.cell? ⟨w.heap.size, 1, none⟩ = some (.int .i64 most) := (HB11.out.keep k12 (by simp)).cell 1
      clear r2 k2 s2 c3 c3a k12 k01
      go_upto_if 41 with fail
      go_cut [8, 9] (fun v7 v8 w' => RMid5 w [.int .i64 size, .int .i64 most, .slice (some ⟨gT, offT, none⟩) s.C.length capc, .slice aom s.M.length capm, .int .i64 s.f] [.int .i64 0, .int .i64 0, .slice none 0 0, .slice none 0 0, .int .i64 0] o m v7 v8 w')
      case first =>
        cases q with
        | true =>
          have h0 : c.length = most := by have := HQ.out; simpa using this
          have HPu : Hid (Po.puts most c = c.length - most / 2) := Lib.hid (by simp [Po.puts, h0])
          have HM1 : Hid (RMid5 w [.int .i64 size, .int .i64 most, .slice (some ⟨gT, offT, none⟩) s.C.length capc, .slice aom s.M.length capm, .int .i64 s.f] [.int .i64 0, .int .i64 0, .slice none 0 0, .slice none 0 0, .int .i64 0] (c.take (c.length - 0)) (s.M ++ c.reverse.take 0) (.slice ao1 c.length cap1) (.slice ao2 s.M.length cap2) w2) := Lib.hid (by simpa using HM0.out)
          clear h0 HM0 c1
          go_wp2_with fail
          go_loopw [8, 9] (fun v7 v8 wr => ∃ k : Nat, k ≤ c.length - most / 2 ∧ RMid5 w [.int .i64 size, .int .i64 most, .slice (some ⟨gT, offT, none⟩) s.C.length capc, .slice aom s.M.length capm, .int .i64 s.f] [.int .i64 0, .int .i64 0, .slice none 0 0, .slice none 0 0, .int .i64 0] (c.take (c.length - k)) (s.M ++ c.reverse.take k) v7 v8 wr) (fun v7 _ _ => slenv v7)
          case atStart => exact ⟨0, Nat.zero_le _, HM1.out⟩
          case round =>
            obtain ⟨k, hk, ao6, cap6, am6, cam6, A6, B6, rfl, rfl, hke, hro, hrm, hA6, hB6, hd6, hbb1, hbb2⟩ := hrel
            have c1 : wr.cell? ⟨w.heap.size, 1, none⟩ = some (.int .i64 most) := hbb1.cell 1
            obtain ⟨m6, hm6⟩ : ∃ m, s.M ++ c.reverse.take k = m := ⟨_, rfl⟩
            have hm6l : m6.length ≤ 80 := by rw [← hm6]; simp; omega
            rw [hm6] at hrm ⊢
            by_cases hlt : k < c.length - most / 2
            · obtain ⟨j, hj⟩ : ∃ j, c.length - k = j + 1 := ⟨c.length - k - 1, by omega⟩
              have hjl : (c.take (j + 1)).length = j + 1 := by simp; omega
              rw [hj, hjl] at hro
              rw [hj, hjl]
              obtain ⟨gC, offC, rfl, rfl, hgC, hcC, _⟩ := hro.cells (by omega)
              have cC : wr.cell? ⟨gC, offC + j, none⟩ = some (.int .i64 (c.getD j 0)) := by
                have := hcC j (by omega)
                rw [this, List.getD_eq_getElem?_getD, List.getD_eq_getElem?_getD, List.getElem?_take, if_pos (by omega)]
              have hcap : j + 1 ≤ cap6 := by obtain ⟨_, _, _, e, h1, _⟩ := hro; simp at e; omega
              have hcapI : (j : Int) + 1 ≤ cap6 := by omega
              have hj64 : j ≤ 64 := by omega
              have hgt : decide ((most : Int) / 2 < (j : Int) + 1) = true := by simp; omega
              have HKe := Lib.hid hke
              have HRo := Lib.hid hro
              have HRm := Lib.hid hrm
              have HA6 := Lib.hid hA6
              have HB6 := Lib.hid hB6
              have HD6 := Lib.hid hd6
              have HBb1 := Lib.hid hbb1
              have HBb2 := Lib.hid hbb2
              have HM6 := Lib.hid hm6
              have HJ := Lib.hid hj
              have Hlt : Hid (k + 1 ≤ c.length - most / 2) := Lib.hid hlt
              clear hke hro hrm hA6 hB6 hd6 hbb1 hbb2 hm6 hcC hjl hj hlt hk
              obtain ⟨x2, HX⟩ : ∃ x, Hid (c.getD j 0 = x) := ⟨_, rfl⟩
              rw [HX.out] at cC
              go_wp2_with (at_builtin; go_must (refine wp_appn elemInt HRm.out (by omega) ?_))
              intro ao7 cap7 w7 B7 r7 k7 s7
              have HST := Lib.hid (RMid5.gstep HKe.out HRo.out HA6.out HB6.out HD6.out HBb1.out HBb2.out HJ.out HM6.out (by rw [HX.out]; exact r7) k7 s7)
              clear r7 k7 s7
              go_wp2_with fail
              go_roundw
              case rel => exact ⟨k + 1, Hlt.out, HST.out⟩
              case measure => simp [slenv]
            · have HTM : Hid (RMid5 w [.int .i64 size, .int .i64 most, .slice (some ⟨gT, offT, none⟩) s.C.length capc, .slice aom s.M.length capm, .int .i64 s.f] [.int .i64 0, .int .i64 0, .slice none 0 0, .slice none 0 0, .int .i64 0] o m (.slice ao6 (c.take (c.length - k)).length cap6) (.slice am6 m6.length cam6) wr) := Lib.hid (by
                have hN : c.length - most / 2 = k := by omega
                rw [← HOe.out, ← HMe.out, HPu.out, hN, hm6]
                exact ⟨ao6, cap6, am6, cam6, A6, B6, rfl, rfl, hke, hro, hrm, hA6, hB6, hd6, hbb1, hbb2⟩)
              obtain ⟨z, hz⟩ : ∃ z, (c.take (c.length - k)).length = z := ⟨_, rfl⟩
              have hz2 : z = c.length - k := by rw [← hz]; simp
              rw [hz] at HTM ⊢
              have hgt : decide ((most : Int) / 2 < (z : Int)) = false := by simp; omega
              have hz64 : z ≤ 64 := by omega
              clear hke hro hrm hA6 hB6 hd6 hbb1 hbb2 hm6 hz hz2 hlt hk
              go_wp2_with fail
              go_meet
              exact HTM.out
        | false =>
          have h0 : ¬ c.length = most := by have := HQ.out; simpa using this
          have HTM : Hid (RMid5 w [.int .i64 size, .int .i64 most, .slice (some ⟨gT, offT, none⟩) s.C.length capc, .slice aom s.M.length capm, .int .i64 s.f] [.int .i64 0, .int .i64 0, .slice none 0 0, .slice none 0 0, .int .i64 0] o m (.slice ao1 c.length cap1) (.slice ao2 s.M.length cap2) w2) := Lib.hid (by
            have e1 : Po.puts most c = 0 := by simp [Po.puts, h0]
            have e2 : o = c := by rw [← HOe.out, e1]; simp
            have e3 : m = s.M := by rw [← HMe.out, e1]; simp
            rw [e2, e3]
            exact HM0.out)
          clear h0
          go_wp2_with fail
          go_meet
          exact HTM.out
      case rest =>
        obtain ⟨ao6, cap6, am6, cam6, A6, B6, rfl, rfl, hke, hro, hrm, hA6, hB6, hd6, hbb1, hbb2⟩ := hcut
        obtain ⟨⟨p0, p1, p2, p3, p4⟩, f0, f1, f2, f3, f4⟩ := hbb1.cells5
        have HKe := Lib.hid hke
        have HRo := Lib.hid hro
        have HA6 := Lib.hid hA6
        have HB6 := Lib.hid hB6
        have HD6 := Lib.hid hd6
        have HBb1 := Lib.hid hbb1
        have HBb2 := Lib.hid hbb2
        have HRm := Lib.hid hrm
        have HSB : Hid (∀ y ∈ S ++ B6, y ∈ S ∨ w.heap.size + 2 ≤ y) := Lib.hid (fun y hy => by
          rcases List.mem_append.1 hy with h | h
          · exact .inl h
          · exact .inr (hB6 y h))
        have HRPm : Hid (RP wc (.slice (some ⟨gT, offT, none⟩) s.C.length capc) (.slice am6 m.length cam6) s.C m (S ++ B6)) := Lib.hid
          ⟨(H1.out.then intsE_kept hke).mono (fun y hy => by simp [hy]) (fun y hy => by
            rcases List.mem_append.1 hy with h | h
            · have := H1.out.lt y h; have := hke.size; omega
            · exact hrm.lt y h), B6, hrm.iv, fun y hy => by simp [hy]⟩
        have HWr : Hid (Keeps [w.heap.size] wc ((wc.setCell ⟨w.heap.size, 3, none⟩ (.slice am6 m.length cam6)).drew)) := Lib.hid (((Keeps.refl _ wc).setCell (by simp) _).drew)
        have hbx := ((hbb1.set 3 (.slice am6 m.length cam6)).drew)
        simp only [List.set_cons_succ, List.set_cons_zero] at hbx
        have HBX := Lib.hid hbx
        obtain ⟨⟨x0, x1, x2, x3, x4⟩, _⟩ := hbx.cells5
        have hbz := (((hbb1.set 3 (.slice am6 m.length cam6)).alloc (.cells #[.int .i64 x] 3)).drew)
        simp only [List.set_cons_succ, List.set_cons_zero] at hbz
        obtain ⟨⟨u0, u1, u2, u3, u4⟩, _⟩ := hbz.cells5
        clear hbz
        have hns : ∀ y ∈ S ++ B6, y ∉ [w.heap.size] := fun y hy h => by
          simp at h
          rcases HSB.out y hy with h1 | h1
          · have := H1.out.lt y h1; omega
          · omega
        have HR0 := Lib.hid (HRPm.out.keep HWr.out hns)
        have HP0 := Lib.hid (HRo.out.keep HWr.out (fun y hy h => by have := HA6.out y hy; simp at h; omega))
        have HBX2 := Lib.hid ((HBb2.out.other (a := ⟨w.heap.size, 3, none⟩) (by simp) (.slice am6 m.length cam6)).drew)
        have hwc := HBb2.out.lt
        have HSA : Hid (∀ y ∈ S ++ B6, y ∉ A6) := Lib.hid (fun y hy hA => by
          rcases List.mem_append.1 hy with h | h
          · have := H1.out.lt y h; have := HA6.out y hA; omega
          · exact HD6.out y h hA)
        clear hke hro hrm hA6 hB6 hd6 hbb1 hbb2 hbx hns
        go_wp2_with fail
        go_region_held3 (fun w' => w'.cell? ⟨w.heap.size, 0, none⟩ = some (.int .i64 size) ∧ w'.cell? ⟨w.heap.size, 1, none⟩ = some (.int .i64 most) ∧ w'.cell? ⟨w.heap.size, 2, none⟩ = some (.slice (some ⟨gT, offT, none⟩) s.C.length capc) ∧ w'.cell? ⟨w.heap.size, 3, none⟩ = some (.slice am6 m.length cam6) ∧ w'.cell? ⟨w.heap.size, 4, none⟩ = some (.int .i64 s.f))
          (first | (with_reducible exact ⟨x0, x1, x2, x3, x4⟩) | (with_reducible exact ⟨u0, u1, u2, u3, u4⟩) | (with_reducible exact ⟨y0, y1, y2, y3, y4⟩) | (with_reducible exact ⟨z0, z1, z2, z3, z4⟩) | go_keep)
          (first
            | (refine step_appn elemInt HP0.out (by omega) ?_; intro ao7 cap7 w7 A7 r7 k7 s7; have hbk7 := HBX.out.keep k7 (fun h => by have := HA6.out _ h; omega); obtain ⟨⟨z0, z1, z2, z3, z4⟩, _⟩ := hbk7.cells5; have HBX7 := Lib.hid hbk7; have HBY7 := Lib.hid (HBX2.out.keep k7 (fun h => by have := HA6.out _ h; omega)); have HR7 := Lib.hid (HR0.out.keep k7 HSA.out); have HI7 := Lib.hid r7.iv; have K7 := Lib.hid k7; have S7 := Lib.hid s7; clear r7 k7 s7 hbk7)
            | (go_at_call 64; refine (ref05_with _ _ _ _ _ _ _ s.C m (o ++ [x]) (S ++ B6) A7 n HR7.out hn HI7.out hC8).mono ?_; rintro e w5 ⟨vc5, S5, rfl, k5, r5, t5⟩; obtain ⟨ao5, cap5, rfl⟩ := r5.1.shape; obtain ⟨⟨y0, y1, y2, y3, y4⟩, _⟩ := (HBX7.out.keep k5 (by simp)).cells5; obtain ⟨⟨b0, b1, b2, b3, b4⟩, q0, q1, q2, q3, q4⟩ := (HBY7.out.keep k5 (by simp)).cells5; have K5 := Lib.hid k5; have R5 := Lib.hid r5; have T5 := Lib.hid t5; clear k5 r5 t5))
        go_wp2_with fail
        refine bodyPost_ret (v := .tuple #[.agg #[.int .i64 size, .int .i64 most, .slice ao5 s.C.length cap5, .slice am6 m.length cam6, .int .i64 s.f], .bool true]) (by simp [results, Try.results21, go_sem, b0, b1, b2, b3, b4]) rfl ?_
        rw [HGV.out]
        have hk7 : Keeps [] w w7 := (HKe.out.trans HWr.out (fun y hy => .inr (by simp at hy; omega))).trans K7.out (fun y hy => .inr (by have := HA6.out y hy; omega))
        refine rgive_fin (W := w5) (S' := S5) (hk7.then K5.out) ?_ (fun y hy => by
          rcases T5.out y hy with h | h | h
          · exact HSB.out y h
          · rcases S7.out y h with h1 | h1
            · exact .inr (HA6.out y h1)
            · simp at h1; right; omega
          · have := K7.out.size; simp at this; right; omega) H1.out.lt ((((((Keeps.refl _ w5).setCell (by simp) _).setCell (by simp) _).setCell (by simp) _).setCell (by simp) _).setCell (by simp) _) rfl rfl rfl
        show RP w5 _ _ (s.C.set n (c.take (c.length - Po.puts most c) ++ [x])) (s.M ++ c.reverse.take (Po.puts most c)) S5
        rw [HOe.out, HMe.out]
        have := R5.out
        rw [List.length_set] at this
        exact this
end Go.Proofs.Ytonkbenmafapgaa
