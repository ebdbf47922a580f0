/-
  Contracts of handoffref05: Take and Give.
  Conditions: what holds of every pool (Po.Inv).
-/
import Derived.Test.YtonkbenmafapgaaRef05
namespace Go.Proofs.Ytonkbenmafapgaa
open Go.RowKit
set_option linter.unusedVariables false
set_option linter.unusedSimpArgs false
set_option linter.unnecessarySimpa false

def RTakePost (r : Po.St × Int × Bool) (size most : Nat) (S : List Nat) (w : World) (e : Ending) (w' : World) : Prop :=
  ∃ vc vm S', e = .returned (.tuple #[.agg #[.int .i64 size, .int .i64 most, vc, vm, .int .i64 r.1.f], .int .i64 r.2.1, .bool r.2.2]) ∧ Keeps [] w w' ∧ RP w' vc vm r.1.C r.1.M S' ∧ ∀ x ∈ S', x ∈ S ∨ w.heap.size ≤ x
/-- own and mid, in hand; cb: the pool's box; cr: the result's -/
def RMid5 (w : World) (cb cr : List Value) (o m : List Int) (v7 v8 : Value) (w' : World) : Prop :=
  ∃ ao cap am cam A B, v7 = .slice ao o.length cap ∧ v8 = .slice am m.length cam ∧ Keeps [] w w' ∧ IR w' v7 3 o A ∧ IR w' v8 3 m B ∧ (∀ x ∈ A, w.heap.size + 2 ≤ x) ∧ (∀ x ∈ B, w.heap.size + 2 ≤ x) ∧ (∀ x ∈ B, x ∉ A) ∧
    Blk w' w.heap.size cb 38 ∧ Blk w' (w.heap.size + 1) cr 38
theorem RMid5.step {w wr w7 : World} {cb cr : List Value} {M l6 : List Int} {j gM offM capm cap7 : Nat} {ao7 : Option Addr} {A B A7 : List Nat} (hke : Keeps [] w wr) (hb : IR wr (.slice (some ⟨gM, offM, none⟩) (j + 1) capm) 3 (M.take (j + 1)) B)
    (hA : ∀ x ∈ A, w.heap.size + 2 ≤ x) (hB : ∀ x ∈ B, w.heap.size + 2 ≤ x) (hd : ∀ x ∈ B, x ∉ A) (hb1 : Blk wr w.heap.size cb 38) (hb2 : Blk wr (w.heap.size + 1) cr 38)
    (hj : M.length - l6.length = j + 1) (r7 : IR w7 (.slice ao7 (l6.length + 1) cap7) 3 (M.reverse.take l6.length ++ [M.getD j 0]) A7) (k7 : Keeps A wr w7) (s7 : ∀ x ∈ A7, x ∈ A ∨ wr.heap.size ≤ x) :
    RMid5 w cb cr (M.reverse.take (l6.length + 1)) (M.take (M.length - (l6.length + 1))) (.slice ao7 (l6.length + 1) cap7) (.slice (some ⟨gM, offM, none⟩) j capm) w7 := by
  have hml : (M.take (j + 1)).length = j + 1 := by simp; omega
  have hpre : IR wr (.slice (some ⟨gM, offM, none⟩) j capm) 3 (M.take j) B := by
    have := IR.prefix (l := M.take (j + 1)) (by rw [hml]; exact hb) j (by omega)
    rwa [List.take_take, Nat.min_eq_left (by omega)] at this
  have e1 : (M.reverse.take (l6.length + 1)).length = l6.length + 1 := by simp; omega
  have e2 : (M.take (M.length - (l6.length + 1))).length = j := by simp; omega
  refine ⟨ao7, cap7, some ⟨gM, offM, none⟩, capm, A7, B, by rw [e1], by rw [e2], hke.trans k7 (fun x hx => .inr (by have := hA x hx; omega)), by rw [Po.rev_next M l6.length j hj]; exact r7, ?_, ?_, hB, ?_, hb1.keep k7 (fun h => by have := hA _ h; omega), hb2.keep k7 (fun h => by have := hA _ h; omega)⟩
  · rw [show M.length - (l6.length + 1) = j by omega]
    exact hpre.keep k7 hd
  · intro x hx
    have := hke.size
    have hb1l := hb2.lt
    rcases s7 x hx with h | h
    · exact hA x h
    · omega
  · intro x hx hx7
    have := hb.lt x hx
    rcases s7 x hx7 with h | h
    · exact hd x hx h
    · omega

theorem keeps5 (W : World) (b : Nat) (v0 v1 v2 v3 v4 : Value) : Keeps [b] W (((((W.setCell ⟨b, 0, none⟩ v0).setCell ⟨b, 1, none⟩ v1).setCell ⟨b, 2, none⟩ v2).setCell ⟨b, 3, none⟩ v3).setCell ⟨b, 4, none⟩ v4) :=
  (((((Keeps.refl _ W).setCell (by simp) _).setCell (by simp) _).setCell (by simp) _).setCell (by simp) _).setCell (by simp) _
/-- the result is stored, and given back -/
theorem rtake_fin {w W Wf : World} {size most : Nat} {r : Po.St × Int × Bool} {S S' : List Nat} {vc vm : Value} {f x : Int} {ok : Bool} {e : Ending} (hk : Keeps [] w W) (hr : RP W vc vm r.1.C r.1.M S') (hS : ∀ x ∈ S', x ∈ S ∨ w.heap.size + 2 ≤ x) (hlS : ∀ x ∈ S, x < w.heap.size)
    (kf : Keeps [w.heap.size, w.heap.size + 1] W Wf) (hf : f = r.1.f) (hx : x = r.2.1) (hok : ok = r.2.2)
    (he : e = .returned (.tuple #[.agg #[.int .i64 size, .int .i64 most, vc, vm, .int .i64 f], .int .i64 x, .bool ok])) : RTakePost r size most S w e Wf := by
  subst hf hx hok
  refine ⟨vc, vm, S', he, hk.trans kf (fun x hx => .inr (by simp at hx; omega)), hr.keep kf (fun y hy h => ?_), fun y hy => ?_⟩
  · simp at h
    rcases hS y hy with h1 | h1
    · have := hlS y h1; omega
    · omega
  · rcases hS y hy with h1 | h1
    · exact .inl h1
    · exact .inr (by omega)

set_option maxRecDepth 100000 in
set_option maxHeartbeats 1600000 in
theorem ref05_take (w : World) (size most : Nat) (vc vm : Value) (s : Po.St) (S : List Nat) (g : Int) (h : RP w vc vm s.C s.M S) (v : Po.Inv size most s) (hC8 : s.C.length ≤ 1000) :
    Calls Try.prog 20 #[.agg #[.int .i64 size, .int .i64 most, vc, vm, .int .i64 s.f], .int .i64 g] w (RTakePost (Po.take size most s g) size most S w) := by
  have H := Lib.hid h
  have HV := Lib.hid v
  obtain ⟨h1, U1, h2, h3⟩ := h
  obtain ⟨hm1, hm2, hs1⟩ := (⟨v.m1, v.m2, v.s1⟩ : _ ∧ _ ∧ _)
  have hle := h1.le
  unfold maxLen at hle
  obtain ⟨aoc, capc, rfl⟩ := h1.shape
  obtain ⟨aom, capm, rfl⟩ := h2.shape
  have H1 := Lib.hid h1
  have H2 := Lib.hid h2
  have H3 := Lib.hid h3
  clear h1 h2 h3 v
  have hb2 := blk_new (w.alloc (.cells #[.int .i64 size, .int .i64 most, .slice aoc s.C.length capc, .slice aom s.M.length capm, .int .i64 s.f] 38)) [.int .i64 0, .int .i64 0, .slice none 0 0, .slice none 0 0, .int .i64 0] 38 _ rfl
  have hb1 := (blk_new w [.int .i64 size, .int .i64 most, .slice aoc s.C.length capc, .slice aom s.M.length capm, .int .i64 s.f] 38 _ rfl).alloc (.cells #[.int .i64 0, .int .i64 0, .slice none 0 0, .slice none 0 0, .int .i64 0] 38)
  simp only [World.size_alloc] at hb2
  cases ht : Po.taker s.C g with
  | false =>
    have HF : Hid (Po.take size most s g = (s, 0, false)) := Lib.hid (by simp [Po.take, ht])
    have hcase : g < 0 ∨ (0 ≤ g ∧ (s.C.length : Int) ≤ g) := by
      simp [Po.taker] at ht
      omega
    clear ht
    obtain ⟨⟨b0, b1, b2, b3, b4⟩, e0, e1, e2, e3, e4⟩ := hb2.cells5
    clear hb1 hb2
    rcases hcase with h1 | ⟨h1, h2⟩
    all_goals
      go_enter Try.func20, Try.ntmps20
      go_wp2_with fail
      refine bodyPost_ret (v := .tuple #[.agg #[.int .i64 size, .int .i64 most, .slice aoc s.C.length capc, .slice aom s.M.length capm, .int .i64 s.f], .int .i64 0, .bool false]) (by simp [results, Try.results20, go_sem, b0, b1, b2, b3, b4]) rfl ?_
      rw [HF.out]
      exact ⟨_, _, S, rfl, ((Keeps.refl [] w).alloc _).alloc _, H.out.then (((Keeps.refl [] w).alloc _).alloc _), fun x hx => .inl hx⟩
  | true =>
    have h2 := ht
    simp only [Po.taker, Bool.and_eq_true, decide_eq_true_eq] at h2
    obtain ⟨n, rfl⟩ := Int.eq_ofNat_of_zero_le h2.1
    have hn : n < s.C.length := by omega
    have hnI : (n : Int) < (s.C.length : Int) := by omega
    have hnD : decide (s.C.length ≤ n) = false := by simp; omega
    have hk := List.getElem?_eq_getElem hn
    obtain ⟨c, hcc⟩ : ∃ c, s.C[n] = c := ⟨_, rfl⟩
    rw [hcc] at hk
    have hcD : s.C.getD n [] = c := by rw [List.getD_eq_getElem?_getD, hk]; rfl
    have HTK : Hid (Po.take size most s n = if Po.own most c s.M = [] then (if s.f < size then (⟨s.C, s.M, s.f + 1, s.H⟩, (s.f : Int), true) else (s, 0, false)) else (Po.took s n (Po.own most c s.M) (Po.mid most c s.M), (Po.own most c s.M).getLastD 0, true)) := Lib.hid (by
      unfold Po.take; rw [ht]; simp only [if_true, Int.toNat_natCast, hcD])
    have hcl : c.length ≤ most := HV.out.caches c (List.mem_of_getElem? hk)
    have hMl : s.M.length ≤ 64 := HV.out.lens.1
    obtain ⟨gT, offT, cs, U, rfl, hgS, hgT, hcs, hcell, ⟨vk, rfl, hvk⟩, hUS⟩ := H1.out.get hk
    have cT : w.cell? ⟨gT, offT + n, none⟩ = some vk := by have := hcell 0 (by omega); rwa [Nat.mul_one, Nat.add_zero] at this
    obtain ⟨aok, capk, rfl⟩ := hvk.shape
    have HVk := Lib.hid hvk
    have cT3 : (((w.alloc (.cells #[.int .i64 size, .int .i64 most, .slice (some ⟨gT, offT, none⟩) s.C.length capc, .slice aom s.M.length capm, .int .i64 s.f] 38)).alloc (.cells #[.int .i64 0, .int .i64 0, .slice none 0 0, .slice none 0 0, .int .i64 0] 38)).alloc (.cells #[] 3)).cell? ⟨gT, offT + n, none⟩ = some (.slice aok c.length capk) :=
      (World.cell?_alloc_past _ _ _ (by simp; omega)).trans ((World.cell?_alloc_past _ _ _ (by simp; omega)).trans ((World.cell?_alloc_past _ _ _ hgT).trans cT))
    have hn0 : decide ((n : Int) < 0) = false := by simp
    have HK := Lib.hid hk
    have hcl16 : c.length ≤ 16 := by omega
    have hol := Po.own_len HV.out.m1 (M := s.M) hcl
    obtain ⟨o, ho⟩ : ∃ o, Po.own most c s.M = o := ⟨_, rfl⟩
    have HOe := Lib.hid ho
    rw [ho] at hol HTK
    obtain ⟨m, hm⟩ : ∃ m, Po.mid most c s.M = m := ⟨_, rfl⟩
    have HMe := Lib.hid hm
    rw [hm] at HTK
    have HB1 := Lib.hid hb1
    have HB2 := Lib.hid hb2
    obtain ⟨q, hq⟩ : ∃ q, ((c.length : Int) == 0) = q := ⟨_, rfl⟩
    have HQ : Hid (q = decide (c = [])) := Lib.hid (by rw [← hq, Bool.eq_iff_iff]; simp)
    clear hcs hcell hvk hk hcc hcD h2 ho hm hb1 hb2
    go_enter Try.func20, Try.ntmps20
    go_wp2_with (at_builtin; go_must (refine wp_apps elemInt (IR.lit _ 3 (w.heap.size + 1 + 1) (by simp)) (IV.then HVk.out ((((Keeps.refl [] w).alloc _).alloc _).alloc _)) (by rw [List.length_nil]; omega) ?_))
    intro ao1 cap1 w1 A1 r1 k1 s1
    have HR1 := Lib.hid r1
    have HK1 : Hid (Keeps [] w w1) := Lib.hid (((((Keeps.refl [] w).alloc _).alloc _).alloc _).trans k1 (fun x hx => .inr (by simp at hx; omega)))
    have HA1 : Hid (∀ x ∈ A1, w.heap.size + 2 ≤ x) := Lib.hid (fun x hx => by rcases s1 x hx with h | h <;> omega)
    have hb11 := (HB1.out.alloc (.cells #[] 3)).keep k1 (by simp; try omega)
    have hb21 := (HB2.out.alloc (.cells #[] 3)).keep k1 (by simp; try omega)
    have HB11 := Lib.hid hb11
    have HB21 := Lib.hid hb21
    have c3 : w1.cell? ⟨w.heap.size, 3, none⟩ = some (.slice aom s.M.length capm) := hb11.cell 3
    have c3a : (w1.alloc (.cells #[] 3)).cell? ⟨w.heap.size, 3, none⟩ = some (.slice aom s.M.length capm) := (World.cell?_alloc_past _ _ _ (block_lt_of_cell c3)).trans c3
    clear r1 k1 s1 hb11 hb21
    go_wp2_with (at_builtin; go_must (refine wp_apps elemInt (IR.lit w1 3 w1.heap.size rfl) (IV.then H2.out (HK1.out.then ((Keeps.refl [] w1).alloc _))) (by rw [List.length_nil]; omega) ?_))
    intro ao2 cap2 w2 A2 r2 k2 s2
    have k12 : Keeps [] w1 w2 := ((Keeps.refl [] w1).alloc _).trans k2 (fun x hx => .inr (by simp at hx; omega))
    have HM0 : Hid (RMid5 w [.int .i64 size, .int .i64 most, .slice (some ⟨gT, offT, none⟩) s.C.length capc, .slice aom s.M.length capm, .int .i64 s.f] [.int .i64 0, .int .i64 0, .slice none 0 0, .slice none 0 0, .int .i64 0] c s.M (.slice ao1 c.length cap1) (.slice ao2 s.M.length cap2) w2) := Lib.hid (by
      have h1 := HB21.out.lt
      refine ⟨ao1, cap1, ao2, cap2, A1, A2, rfl, rfl, HK1.out.then k12, by simpa using HR1.out.then k12, by simpa using r2, HA1.out, fun x hx => by rcases s2 x hx with h | h <;> omega, fun x hx hx1 => ?_, HB11.out.keep k12 (by simp), HB21.out.keep k12 (by simp)⟩
      have := HR1.out.lt x hx1
      rcases s2 x hx with h | h <;> omega)
    clear r2 k2 s2 c3 c3a k12
    go_upto_if 33 with fail
    go_cut [7, 8] (fun v7 v8 w' => RMid5 w [.int .i64 size, .int .i64 most, .slice (some ⟨gT, offT, none⟩) s.C.length capc, .slice aom s.M.length capm, .int .i64 s.f] [.int .i64 0, .int .i64 0, .slice none 0 0, .slice none 0 0, .int .i64 0] o m v7 v8 w')
    case first =>
      cases q with
      | true =>
        have h0 : c = [] := by have := HQ.out; simpa using this
        have HOwn : Hid (o = s.M.reverse.take (min (Po.room most) s.M.length)) := Lib.hid (by rw [← HOe.out]; subst h0; simp [Po.own, Po.pulls])
        have HMid : Hid (m = s.M.take (s.M.length - min (Po.room most) s.M.length)) := Lib.hid (by rw [← HMe.out]; subst h0; simp [Po.mid, Po.pulls])
        have HM1 : Hid (RMid5 w [.int .i64 size, .int .i64 most, .slice (some ⟨gT, offT, none⟩) s.C.length capc, .slice aom s.M.length capm, .int .i64 s.f] [.int .i64 0, .int .i64 0, .slice none 0 0, .slice none 0 0, .int .i64 0] (s.M.reverse.take 0) (s.M.take (s.M.length - 0)) (.slice ao1 c.length cap1) (.slice ao2 s.M.length cap2) w2) := Lib.hid (by
          have := HM0.out
          subst h0
          simpa using this)
        clear h0 HM0
        go_wp2_with fail
        go_loopw [7, 8] (fun v7 v8 wr => ∃ k : Nat, k ≤ min (Po.room most) s.M.length ∧ RMid5 w [.int .i64 size, .int .i64 most, .slice (some ⟨gT, offT, none⟩) s.C.length capc, .slice aom s.M.length capm, .int .i64 s.f] [.int .i64 0, .int .i64 0, .slice none 0 0, .slice none 0 0, .int .i64 0] (s.M.reverse.take k) (s.M.take (s.M.length - k)) v7 v8 wr) (fun v7 _ _ => 100 - slenv v7)
        case atStart => exact ⟨0, Nat.zero_le _, HM1.out⟩
        case round =>
          obtain ⟨k, hk, ao6, cap6, am6, cam6, A6, B6, rfl, rfl, hke, hro, hrm, hA6, hB6, hd6, hbb1, hbb2⟩ := hrel
          have c1 : wr.cell? ⟨w.heap.size, 1, none⟩ = some (.int .i64 most) := hbb1.cell 1
          have hkl : (s.M.reverse.take k).length = k := by simp; omega
          obtain ⟨l6, hl6⟩ : ∃ l, s.M.reverse.take k = l := ⟨_, rfl⟩
          rw [hl6] at hkl hro ⊢
          subst hkl
          by_cases hlt : l6.length < min (Po.room most) s.M.length
          · obtain ⟨j, hj⟩ : ∃ j, s.M.length - l6.length = j + 1 := ⟨s.M.length - l6.length - 1, by omega⟩
            have hml : (s.M.take (j + 1)).length = j + 1 := by simp; omega
            rw [hj, hml] at hrm
            rw [hj, hml]
            obtain ⟨gM, offM, rfl, rfl, hgM, hcM, _⟩ := hrm.cells (by omega)
            have cM : wr.cell? ⟨gM, offM + j, none⟩ = some (.int .i64 (s.M.getD j 0)) := by
              have := hcM j (by omega)
              rw [this, List.getD_eq_getElem?_getD, List.getD_eq_getElem?_getD, List.getElem?_take, if_pos (by omega)]
            have hcap : j + 1 ≤ cam6 := by obtain ⟨_, _, _, e, h1, _⟩ := hrm; simp at e; omega
            have hcapI : (j : Int) + 1 ≤ cam6 := by omega
            have hk65 : l6.length ≤ 64 := by omega
            have hj64 : j ≤ 64 := by omega
            have HKe := Lib.hid hke
            have HRo := Lib.hid hro
            have HRm := Lib.hid hrm
            have HA6 := Lib.hid hA6
            have HB6 := Lib.hid hB6
            have HD6 := Lib.hid hd6
            have HBb1 := Lib.hid hbb1
            have HBb2 := Lib.hid hbb2
            have HL6 := Lib.hid hl6
            have HJ := Lib.hid hj
            have Hlt : Hid (l6.length + 1 ≤ min (Po.room most) s.M.length) := Lib.hid hlt
            have hkr : (l6.length : Int) < (most : Int) / 2 ∨ (¬ (l6.length : Int) < (most : Int) / 2 ∧ (l6.length : Int) < 1) := by unfold Po.room at hlt; omega
            clear hke hro hrm hA6 hB6 hd6 hbb1 hbb2 hl6 hcM hml hj hlt hk
            obtain ⟨x, HX⟩ : ∃ x, Hid (s.M.getD j 0 = x) := ⟨_, rfl⟩
            rw [HX.out] at cM
            rcases hkr with hkr | ⟨hkr, hkr2⟩
            all_goals
              go_wp2_with (at_builtin; go_must (refine wp_appn elemInt HRo.out (by omega) ?_))
              intro ao7 cap7 w7 A7 r7 k7 s7
              have HST := Lib.hid (RMid5.step HKe.out HRm.out HA6.out HB6.out HD6.out HBb1.out HBb2.out HJ.out (by rw [HX.out, HL6.out]; exact r7) k7 s7)
              clear r7 k7 s7
              go_wp2_with fail
              go_roundw
              case rel => exact ⟨l6.length + 1, Hlt.out, HST.out⟩
              case measure => simp [slenv]; omega
          · have HTM : Hid (RMid5 w [.int .i64 size, .int .i64 most, .slice (some ⟨gT, offT, none⟩) s.C.length capc, .slice aom s.M.length capm, .int .i64 s.f] [.int .i64 0, .int .i64 0, .slice none 0 0, .slice none 0 0, .int .i64 0] o m (.slice ao6 l6.length cap6) (.slice am6 (s.M.take (s.M.length - l6.length)).length cam6) wr) := Lib.hid (by
              have hN : min (Po.room most) s.M.length = l6.length := by omega
              rw [HOwn.out, HMid.out, hN, hl6]
              exact ⟨ao6, cap6, am6, cam6, A6, B6, rfl, rfl, hke, hro, hrm, hA6, hB6, hd6, hbb1, hbb2⟩)
            obtain ⟨z, hz⟩ : ∃ z, (s.M.take (s.M.length - l6.length)).length = z := ⟨_, rfl⟩
            have hz2 : z = s.M.length - l6.length := by rw [← hz]; simp
            rw [hz] at HTM ⊢
            clear hke hro hrm hA6 hB6 hd6 hbb1 hbb2 hl6 hz
            by_cases hz0 : z = 0
            · subst hz0
              clear hlt hk hz2
              go_wp2_with fail
              go_meet
              exact HTM.out
            · have hz3 : 0 < z := by omega
              have hz65 : z ≤ 64 := by omega
              have hkr : ¬ (l6.length : Int) < (most : Int) / 2 ∧ ¬ (l6.length : Int) < 1 := by unfold Po.room at hlt; omega
              obtain ⟨hkr1, hkr2⟩ := hkr
              have hkr3 := decide_eq_false hkr1
              have hkr4 := decide_eq_false hkr2
              clear hlt hk hz2 hz0 hkr1 hkr2
              go_wp2_with fail
              go_meet
              exact HTM.out
      | false =>
        have h0 : c ≠ [] := by have := HQ.out; simpa using this
        have HTM : Hid (RMid5 w [.int .i64 size, .int .i64 most, .slice (some ⟨gT, offT, none⟩) s.C.length capc, .slice aom s.M.length capm, .int .i64 s.f] [.int .i64 0, .int .i64 0, .slice none 0 0, .slice none 0 0, .int .i64 0] o m (.slice ao1 c.length cap1) (.slice ao2 s.M.length cap2) w2) := Lib.hid (by
          have e1 : Po.own most c s.M = c := by simp [Po.own, Po.pulls, h0]
          have e2 : Po.mid most c s.M = s.M := by simp [Po.mid, Po.pulls, h0]
          rw [← HOe.out, ← HMe.out, e1, e2]
          exact HM0.out)
        clear h0
        go_wp2_with fail
        go_meet
        exact HTM.out
    case rest =>
      obtain ⟨ao6, cap6, am6, cam6, A6, B6, rfl, rfl, hke, hro, hrm, hA6, hB6, hd6, hbb1, hbb2⟩ := hcut
      obtain ⟨⟨p0, p1, p2, p3, p4⟩, f0, f1, f2, f3, f4⟩ := hbb1.cells5
      obtain ⟨⟨b0, b1, b2, b3, b4⟩, e0, e1, e2, e3, e4⟩ := hbb2.cells5
      have HKe := Lib.hid hke
      have HRo := Lib.hid hro
      have HRm := Lib.hid hrm
      have HA6 := Lib.hid hA6
      have HB6 := Lib.hid hB6
      have HBb2 := Lib.hid hbb2
      have HBb1 := Lib.hid hbb1
      have hmu : m.length ≤ s.M.length := by rw [← HMe.out]; unfold Po.mid; simp
      have HSB : Hid (∀ y ∈ S ++ B6, y ∈ S ∨ w.heap.size + 2 ≤ y) := Lib.hid (fun y hy => by
        rcases List.mem_append.1 hy with h | h
        · exact .inl h
        · exact .inr (hB6 y h))
      have HRPm : Hid (RP wc (.slice (some ⟨gT, offT, none⟩) s.C.length capc) (.slice am6 m.length cam6) s.C m (S ++ B6)) := Lib.hid
        ⟨(H1.out.then intsE_kept hke).mono (fun y hy => by simp [hy]) (fun y hy => by
          rcases List.mem_append.1 hy with h | h
          · have := H1.out.lt y h; have := hke.size; omega
          · exact hrm.lt y h), B6, hrm.iv, fun y hy => by simp [hy]⟩
      by_cases h0 : o = []
      · have hcM := Po.own_nil HV.out.m1 (HOe.out.trans h0)
        have HmM : Hid (m = s.M) := Lib.hid (by rw [← HMe.out, hcM.2]; simp [Po.mid])
        have HRP : Hid (RP wc (.slice (some ⟨gT, offT, none⟩) s.C.length capc) (.slice am6 m.length cam6) s.C s.M (S ++ B6)) := Lib.hid (by have := HRPm.out; rw [HmM.out] at this ⊢; exact this)
        subst h0
        rw [if_pos rfl] at HTK
        clear hke hro hrm hA6 hB6 hd6 hbb1 hbb2 hcM
        cases hf : decide (s.f < size) with
        | true =>
          have HT2 : Hid (Po.take size most s n = (⟨s.C, s.M, s.f + 1, s.H⟩, (s.f : Int), true)) := Lib.hid (by rw [HTK.out, if_pos (by simpa using hf)])
          have hf64 : s.f ≤ 64 := by simp at hf; omega
          have hfI : (s.f : Int) < (size : Int) := by simp at hf; omega
          go_wp2_with fail
          go_region
          go_wp2_with fail
          refine bodyPost_ret (v := .tuple #[.agg #[.int .i64 size, .int .i64 most, .slice (some ⟨gT, offT, none⟩) s.C.length capc, .slice am6 m.length cam6, .int .i64 ((s.f : Int) + 1)], .int .i64 s.f, .bool true]) (by simp [results, Try.results20, go_sem, b0, b1, b2, b3, b4]) rfl ?_
          rw [HT2.out]
          exact rtake_fin (W := wc) (S' := S ++ B6) HKe.out HRP.out HSB.out H1.out.lt (((((((((Keeps.refl _ wc).setCell (by simp) _).setCell (by simp) _).setCell (by simp) _).setCell (by simp) _).setCell (by simp) _).setCell (by simp) _).setCell (by simp) _).drew) (by simp) rfl rfl rfl
        | false =>
          have HT2 : Hid (Po.take size most s n = (s, 0, false)) := Lib.hid (by rw [HTK.out, if_neg (by simpa using hf)])
          go_wp2_with fail
          refine bodyPost_ret (v := .tuple #[.agg #[.int .i64 size, .int .i64 most, .slice (some ⟨gT, offT, none⟩) s.C.length capc, .slice am6 m.length cam6, .int .i64 s.f], .int .i64 0, .bool false]) (by simp [results, Try.results20, go_sem, b0, b1, b2, b3, b4]) rfl ?_
          rw [HT2.out]
          exact rtake_fin (W := wc) (S' := S ++ B6) HKe.out HRP.out HSB.out H1.out.lt (((((((Keeps.refl _ wc).setCell (by simp) _).setCell (by simp) _).setCell (by simp) _).setCell (by simp) _).setCell (by simp) _).setCell (by simp) _) rfl rfl rfl rfl
      · obtain ⟨L, hL⟩ : ∃ L, o.length = L + 1 := ⟨o.length - 1, by have := List.length_pos_iff.2 h0; omega⟩
        rw [if_neg h0] at HTK
        have hxb : 0 ≤ o.getLastD 0 ∧ o.getLastD 0 < s.f := HV.out.last HK.out HOe.out.symm h0
        obtain ⟨x, hx⟩ := Int.eq_ofNat_of_zero_le hxb.1
        obtain ⟨gO, offO, rfl, rfl, hgO, hcO, _⟩ := hro.cells (by omega)
        have cO : wc.cell? ⟨gO, offO + L, none⟩ = some (.int .i64 (x : Int)) := by
          rw [hcO L (by omega), ← hx, List.getLastD_eq_getLast?, List.getLast?_eq_getElem?, List.getD_eq_getElem?_getD, hL]; rfl
        have hcapO : L + 1 ≤ cap6 := by obtain ⟨_, _, _, e, h1, _⟩ := hro; simp at e; omega
        have hroL := hro
        rw [hL] at hroL
        have hpre := IR.prefix hro L (by omega)
        have ed : o.take L = o.dropLast := by rw [List.dropLast_eq_take, hL]; rfl
        rw [ed] at hpre
        have hdl : o.dropLast.length = L := by rw [List.length_dropLast, hL]; rfl
        have HPre := Lib.hid hpre
        have HT2 : Hid (Po.take size most s n = (Po.took s n o m, (x : Int), true)) := Lib.hid (by rw [HTK.out, hx])
        have hI1 : (0 : Int) ≤ (L : Int) := by omega
        have hI2 : (L : Int) ≤ (cap6 : Int) := by omega
        have hL16 : L ≤ 16 := by omega
        have hL1 : 0 < L + 1 := by omega
        have n1 : w.heap.size ≠ gO := by have := hA6 gO (by simp); omega
        have n2 : w.heap.size + 1 ≠ gO := by have := hA6 gO (by simp); omega
        rw [hL]
        clear hke hro hrm hA6 hB6 hd6 hbb1 hbb2 hroL hpre ed hx hxb hcO h0 HTK hL
        go_wp2_with fail
        have HWr : Hid (Keeps [w.heap.size] wc ((wc.setCell ⟨w.heap.size, 3, none⟩ (.slice am6 m.length cam6)).drew)) := Lib.hid (((Keeps.refl _ wc).setCell (by simp) _).drew)
        have hbx := ((HBb1.out.set 3 (.slice am6 m.length cam6)).drew)
        simp only [List.set_cons_succ, List.set_cons_zero] at hbx
        have HBX := Lib.hid hbx
        obtain ⟨⟨x0, x1, x2, x3, x4⟩, _⟩ := hbx.cells5
        have hns : ∀ y ∈ S ++ B6, y ∉ [w.heap.size] := fun y hy h => by
          simp at h
          rcases HSB.out y hy with h1 | h1
          · have := H1.out.lt y h1; omega
          · omega
        have HR0 := Lib.hid (HRPm.out.keep HWr.out hns)
        have HP0 := Lib.hid (HPre.out.iv.keep HWr.out (fun y hy h => by have := HA6.out y hy; simp at h; omega))
        have HBX2 := Lib.hid ((HBb2.out.other (a := ⟨w.heap.size, 3, none⟩) (by simp) (.slice am6 m.length cam6)).drew)
        clear hbx hns
        have hwr : IntKind.i64.wrap (L : Int) = (L : Int) := by rw [IntKind.wrap_i64]; omega
        have hwt : (L : Int).toNat = L := by simp
        go_region_held3 (fun w' => w'.cell? ⟨w.heap.size, 0, none⟩ = some (.int .i64 size) ∧ w'.cell? ⟨w.heap.size, 1, none⟩ = some (.int .i64 most) ∧ w'.cell? ⟨w.heap.size, 2, none⟩ = some (.slice (some ⟨gT, offT, none⟩) s.C.length capc) ∧ w'.cell? ⟨w.heap.size, 3, none⟩ = some (.slice am6 m.length cam6) ∧ w'.cell? ⟨w.heap.size, 4, none⟩ = some (.int .i64 s.f))
          (first | (with_reducible exact ⟨x0, x1, x2, x3, x4⟩) | (with_reducible exact ⟨y0, y1, y2, y3, y4⟩) | go_keep)
          (first | (go_at_call 64; refine (ref05_with _ _ _ _ _ _ _ s.C m o.dropLast (S ++ B6) [gO] n HR0.out hn HP0.out hC8).mono ?_; rintro e w5 ⟨vc5, S5, rfl, k5, r5, t5⟩; obtain ⟨ao5, cap5, rfl⟩ := r5.1.shape; obtain ⟨⟨y0, y1, y2, y3, y4⟩, _⟩ := (HBX.out.keep k5 (by simp)).cells5; obtain ⟨⟨z0, z1, z2, z3, z4⟩, q0, q1, q2, q3, q4⟩ := (HBX2.out.keep k5 (by simp)).cells5; have K5 := Lib.hid k5; have R5 := Lib.hid r5; have T5 := Lib.hid t5; clear k5 r5 t5))
        clear hwr hwt
        go_wp2_with fail
        refine bodyPost_ret (v := .tuple #[.agg #[.int .i64 size, .int .i64 most, .slice ao5 s.C.length cap5, .slice am6 m.length cam6, .int .i64 s.f], .int .i64 x, .bool true]) (by simp [results, Try.results20, go_sem, z0, z1, z2, z3, z4]) rfl ?_
        rw [HT2.out]
        have hs2 := HBb2.out.lt
        have hgO2 := HA6.out gO (by simp)
        exact rtake_fin (W := w5) (S' := S5) ((HKe.out.trans HWr.out (fun x hx => .inr (by simp at hx; omega))).then K5.out) R5.out (fun y hy => by
          rcases T5.out y hy with h | h | h
          · exact HSB.out y h
          · simp at h; right; omega
          · simp at h; right; omega) H1.out.lt ((((((Keeps.refl _ w5).setCell (by simp) _).setCell (by simp) _).setCell (by simp) _).setCell (by simp) _).setCell (by simp) _) rfl rfl rfl (by rw [List.length_set]; rfl)
end Go.Proofs.Ytonkbenmafapgaa
