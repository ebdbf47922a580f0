/-
  Contracts of package pool, the fourth part: Give.
  Conditions: what holds of every pool (Po.Inv).
-/
import Derived.Test.YtonkbenmafapgaaPoolC
import Derived.StillTailTactics
namespace Go.Proofs.Ytonkbenmafapgaa
open Go.RowKit
set_option linter.unusedVariables false
set_option linter.unusedSimpArgs false
set_option linter.unnecessarySimpa false

def GivePost (r : Po.St × Bool) (p : Value) (size most : Nat) (S : List Nat) (w : World) (e : Ending) (w' : World) : Prop :=
  e = .returned (.bool r.2) ∧ ∃ S', PS w' p size most r.1 S' ∧ Keeps S w w' ∧ ∀ k ∈ S', k ∈ S ∨ w.heap.size ≤ k
/-- Give, with the cache in hand -/
def GMid (w : World) (b : Nat) (size most : Nat) (vc vh : Value) (f : Nat) (o m : List Int) (U Tm : List Nat) (v7 : Value) (w' : World) : Prop :=
  ∃ ao cap vm Tm', v7 = .slice ao o.length cap ∧ Keeps (b :: Tm) w w' ∧ Blk w' b [.int .i64 size, .int .i64 most, vc, vm, .int .i64 f, vh] 94 ∧
    IR w' v7 3 o U ∧ IR w' vm 3 m Tm' ∧ (∀ x ∈ Tm', x ∈ Tm ∨ w.heap.size ≤ x)
/-- Give's loop, at its k-th round -/
def GLoop (w : World) (b : Nat) (size most : Nat) (vc vh : Value) (f : Nat) (M c : List Int) (U Tm : List Nat) (k : Nat) (v7 : Value) (w' : World) : Prop :=
  ∃ ao cap vm Tm', v7 = .slice ao (c.length - k) cap ∧ Keeps (b :: Tm) w w' ∧ Blk w' b [.int .i64 size, .int .i64 most, vc, vm, .int .i64 f, vh] 94 ∧
    IR w' v7 3 (c.take (c.length - k)) U ∧ IR w' vm 3 (M ++ c.reverse.take k) Tm' ∧ (∀ x ∈ Tm', x ∈ Tm ∨ w.heap.size ≤ x)

theorem GLoop.step {w wr w7 : World} {b size most : Nat} {vc vh : Value} {f : Nat} {M c : List Int} {U Tm T6 T7 : List Nat} {k gC offC j capc n7 cap7 : Nat} {ao7 : Option Addr}
    (hbU : b ∉ U) (hbT : b ∉ Tm) (hTU : ∀ x ∈ Tm, x ∉ U) (hb : b < w.heap.size) (hUl : ∀ x ∈ U, x < w.heap.size) (hke : Keeps (b :: Tm) w wr)
    {vm : Value} (hbl : Blk wr b [.int .i64 size, .int .i64 most, vc, vm, .int .i64 f, vh] 94)
    (hrc : IR wr (.slice (some ⟨gC, offC, none⟩) (j + 1) capc) 3 (c.take (j + 1)) U) (hT6 : ∀ x ∈ T6, x ∈ Tm ∨ w.heap.size ≤ x) (hj : c.length - k = j + 1)
    (r7 : IR w7 (.slice ao7 n7 cap7) 3 ((M ++ c.reverse.take k) ++ [c.getD j 0]) T7) (k7 : Keeps T6 wr w7) (s7 : ∀ x ∈ T7, x ∈ T6 ∨ wr.heap.size ≤ x) (m : Nat) :
    GLoop w b size most vc vh f M c U Tm (k + 1) (.slice (some ⟨gC, offC, none⟩) j capc) ((w7.setCell ⟨b, 3, none⟩ (.slice ao7 n7 cap7)).drewN m) := by
  have hsz := hke.size
  have hb6 : b ∉ T6 := fun hx => by rcases hT6 b hx with h | h; exact hbT h; omega
  have hb7 : b ∉ T7 := fun hx => by rcases s7 b hx with h | h; exact hb6 h; omega
  have hU6 : ∀ x ∈ U, x ∉ T6 := fun x hx h6 => by rcases hT6 x h6 with h | h; exact hTU x h hx; have := hUl x hx; omega
  have hml : (c.take (j + 1)).length = j + 1 := by simp; omega
  have hset : Keeps [b] w7 (w7.setCell ⟨b, 3, none⟩ (.slice ao7 n7 cap7)) := (Keeps.refl [b] w7).setCell (by simp) _
  have hpre : IR wr (.slice (some ⟨gC, offC, none⟩) j capc) 3 (c.take j) U := by
    have := IR.prefix (l := c.take (j + 1)) (by rw [hml]; exact hrc) j (by omega)
    rwa [List.take_take, Nat.min_eq_left (by omega)] at this
  have hdr : ∀ W : World, Keeps [] W (W.drewN m) := fun W => (Keeps.refl [] W).drewN m
  refine ⟨some ⟨gC, offC, none⟩, capc, .slice ao7 n7 cap7, T7, by rw [show c.length - (k + 1) = j by omega], ?_, ?_, ?_, ?_, ?_⟩
  · refine ((hke.trans k7 (fun x hx => ?_)).setCell (by simp) _).drewN m
    rcases hT6 x hx with h | h
    · left; simp [h]
    · exact .inr h
  · have := ((hbl.keep k7 hb6).set 3 (.slice ao7 n7 cap7)).keep (hdr _) (by simp)
    simpa using this
  · rw [show c.length - (k + 1) = j by omega]
    exact ((hpre.keep k7 hU6).keep hset (fun x hx h => by simp at h; subst h; exact hbU hx)).then (hdr _)
  · rw [Po.rev_next c k j hj, ← List.append_assoc]
    exact (r7.keep hset (fun x hx h => by simp at h; subst h; exact hb7 hx)).then (hdr _)
  · intro x hx
    rcases s7 x hx with h | h
    · exact hT6 x h
    · right; omega

set_option maxRecDepth 100000 in
set_option maxHeartbeats 1600000 in
theorem pool_give (w : World) (p : Value) (size most : Nat) (s : Po.St) (S : List Nat) (g y : Int) (h : PS w p size most s S) (v : Po.Inv size most s) :
    Calls Try.prog 18 #[p, .int .i64 g, .int .i64 y] w (GivePost (Po.give most s g y) p size most S w) := by
  have HP := Lib.hid h
  have HV := Lib.hid v
  obtain ⟨b, vc, vm, vh, T1, Us, Tm, Th, rfl, hb, hc, hm, hh, ha, rfl⟩ := h
  obtain ⟨hm1, hm2, hs1⟩ := (⟨v.m1, v.m2, v.s1⟩ : _ ∧ _ ∧ _)
  have hfH : (s.f : Int) ≤ (s.H.length : Int) := by have := v.fl; have := v.hl; omega
  clear v
  cases ht : Po.taker s.C g with
  | false =>
    have HF : Hid (Po.give most s g y = (s, false)) := Lib.hid (by simp [Po.give, ht])
    clear hb hc hm hh ha
    go_enter Try.func18, Try.ntmps18
    go_wp2_with fail
    refine (pool_taker _ _ _ _ _ _ _ _ _ _ HP.out).mono ?_
    rintro e w1 ⟨rfl, rfl⟩
    rw [ht]
    go_wp2_with fail
    go_ret
    unfold GivePost
    rw [HF.out]
    exact ⟨rfl, _, HP.out, Keeps.refl _ _, fun k hk => .inl hk⟩
  | true =>
    cases hlv : Po.live s.f s.H y with
    | false =>
      have HF : Hid (Po.give most s g y = (s, false)) := Lib.hid (by simp [Po.give, hlv])
      clear hb hc hm hh ha
      go_enter Try.func18, Try.ntmps18
      go_wp2_with fail
      refine (pool_taker _ _ _ _ _ _ _ _ _ _ HP.out).mono ?_
      rintro e w1 ⟨rfl, rfl⟩
      rw [ht]
      go_wp2_with fail
      refine (pool_live _ _ _ _ _ _ _ _ _ _ HP.out hfH).mono ?_
      rintro e w1 ⟨rfl, rfl⟩
      rw [hlv]
      go_wp2_with fail
      go_ret
      unfold GivePost
      rw [HF.out]
      exact ⟨rfl, _, HP.out, Keeps.refl _ _, fun k hk => .inl hk⟩
    | true =>
      have h2 := ht
      simp only [Po.taker, Bool.and_eq_true, decide_eq_true_eq] at h2
      obtain ⟨n, rfl⟩ := Int.eq_ofNat_of_zero_le h2.1
      have h3 := hlv
      simp only [Po.live, Bool.and_eq_true, decide_eq_true_eq] at h3
      obtain ⟨x, rfl⟩ := Int.eq_ofNat_of_zero_le h3.1.1
      have hxH : x < s.H.length := by omega
      have hn : n < s.C.length := by omega
      have hle := hc.le
      unfold maxLen at hle
      obtain ⟨ao, cap, rfl⟩ := hc.shape
      have hk := List.getElem?_eq_getElem hn
      obtain ⟨c, hcc⟩ : ∃ c, s.C[n] = c := ⟨_, rfl⟩
      rw [hcc] at hk
      have hcD : s.C.getD n [] = c := by rw [List.getD_eq_getElem?_getD, hk]; rfl
      have HGV : Hid (Po.give most s n x = (Po.gave most s n c x, true)) := Lib.hid (by
        unfold Po.give; rw [ht, hlv]; simp only [if_true, Int.toNat_natCast, hcD, Bool.and_self])
      have hcl : c.length ≤ most := HV.out.caches c (List.mem_of_getElem? hk)
      have hMl : s.M.length ≤ 64 := HV.out.lens.1
      obtain ⟨gT, offT, x0, U, rfl, rfl, hgT, cT, fT, hr, hU, hgU⟩ := hc.get hk
      obtain ⟨aoc, capc, rfl⟩ := hr.shape
      have c2 : w.cell? ⟨b, 2, none⟩ = some (.slice (some ⟨gT, offT, none⟩) s.C.length cap) := hb.cell 2
      have c1 : w.cell? ⟨b, 1, none⟩ = some (.int .i64 most) := hb.cell 1
      have hlt : (n : Int) < s.C.length := by omega
      obtain ⟨aoh, caph, rfl⟩ := hh.shape
      have hHx := List.getElem?_eq_getElem hxH
      obtain ⟨gH, offH, rfl, rfl, hgH, cH, fH⟩ := hh.cells hHx
      generalize s.H[x] = t0 at *
      have HB := Lib.hid hb
      have HC := Lib.hid hc
      have HM := Lib.hid hm
      have HH := Lib.hid hh
      have HA := Lib.hid ha
      have HR := Lib.hid hr
      have HU := Lib.hid hU
      have HK := Lib.hid hk
      have ha2 := ha
      simp only [Apart, List.pairwise_cons, List.mem_cons, List.not_mem_nil, or_false, forall_eq_or_imp, forall_eq] at ha2
      obtain ⟨⟨a1, a2, a3, a4⟩, ⟨a5, a6, a7⟩, ⟨a8, a9⟩, a10, a11⟩ := ha2
      have hUf : ∀ x ∈ U, x ∈ Us.flatten := fun x hx => List.mem_flatten.2 ⟨U, List.mem_of_getElem? hU, hx⟩
      have HAp : Hid (b ∉ U ∧ b ∉ Tm ∧ (∀ x ∈ Tm, x ∉ U) ∧ b < w.heap.size ∧ (∀ x ∈ U, x < w.heap.size) ∧ gT ∉ Tm ∧ gH ∉ Tm ∧ gH ∉ U) := Lib.hid
        ⟨fun h => a2 (hUf b h), a3, fun x hx h => a8 x (hUf x h) hx, hb.lt, hr.lt, a6, fun h => a10 gH h (by simp), fun h => a9 gH (hUf _ h) (by simp)⟩
      have n1 : b ≠ gT := by simpa using a1
      have n2 : b ≠ gH := by simpa using a4
      have n3 : gT ≠ gH := by simpa using a7
      clear hb hc hm hh ha hr hU hk hcc hcD h2 h3 hHx a1 a2 a3 a4 a5 a6 a7 a8 a9 a10 a11 hUf
      have hcl16 : c.length ≤ 16 := by omega
      obtain ⟨o, ho⟩ : ∃ o, c.take (c.length - Po.puts most c) = o := ⟨_, rfl⟩
      have HOe := Lib.hid ho
      have hol : o.length ≤ 16 := by rw [← ho]; simp; omega
      clear ho
      obtain ⟨q, hq⟩ : ∃ q, decide (c.length = most) = q := ⟨_, rfl⟩
      have HQ : Hid (q = decide (c.length = most)) := Lib.hid hq.symm
      have hq2 : ((c.length : Int) == (most : Int)) = q := by rw [← hq, Bool.eq_iff_iff]; simp; omega
      go_enter Try.func18, Try.ntmps18
      go_wp2_with fail
      refine (pool_taker _ _ _ _ _ _ _ _ _ _ HP.out).mono ?_
      rintro e w1 ⟨rfl, rfl⟩
      rw [ht]
      go_wp2_with fail
      refine (pool_live _ _ _ _ _ _ _ _ _ _ HP.out hfH).mono ?_
      rintro e w1 ⟨rfl, rfl⟩
      rw [hlv]
      go_upto_if 32 with fail
      go_cut [7] (fun v7 w' => GMid w b size most (.slice (some ⟨gT, offT, none⟩) s.C.length cap) (.slice (some ⟨gH, offH, none⟩) s.H.length caph) s.f o (s.M ++ c.reverse.take (Po.puts most c)) U Tm v7 w')
      case first =>
        cases q with
        | true =>
          have h0 : c.length = most := by have := HQ.out; simpa using this
          have HPu : Hid (Po.puts most c = c.length - most / 2) := Lib.hid (by simp [Po.puts, h0])
          have HB0 : Hid (GLoop w b size most (.slice (some ⟨gT, offT, none⟩) s.C.length cap) (.slice (some ⟨gH, offH, none⟩) s.H.length caph) s.f s.M c U Tm 0 (.slice aoc c.length capc) w) := Lib.hid
            ⟨aoc, capc, vm, Tm, by simp, Keeps.refl _ _, HB.out, by simpa using HR.out, by simpa using HM.out, fun x hx => .inl hx⟩
          clear h0
          go_wp2_with fail
          go_loopw [7] (fun v7 wr => ∃ k : Nat, k ≤ c.length - most / 2 ∧ GLoop w b size most (.slice (some ⟨gT, offT, none⟩) s.C.length cap) (.slice (some ⟨gH, offH, none⟩) s.H.length caph) s.f s.M c U Tm k v7 wr) (fun v7 _ => slenv v7)
          case atStart => exact ⟨0, Nat.zero_le _, HB0.out⟩
          case round =>
            obtain ⟨k, hk, ao6, cap6, vm6, T6, rfl, hke, hbl, hro, hrm, hT6⟩ := hrel
            have d1 : wr.cell? ⟨b, 1, none⟩ = some (.int .i64 most) := hbl.cell 1
            by_cases hlt2 : k < c.length - most / 2
            · obtain ⟨j, hj⟩ : ∃ j, c.length - k = j + 1 := ⟨c.length - k - 1, by omega⟩
              rw [hj] at hro
              have hml : (c.take (j + 1)).length = j + 1 := by simp; omega
              obtain ⟨gC, offC, rfl, rfl, hgC, hcC, _⟩ := hro.cells (by omega)
              have cC : wr.cell? ⟨gC, offC + j, none⟩ = some (.int .i64 (c.getD j 0)) := by
                have := hcC j (by omega)
                rw [this, List.getD_eq_getElem?_getD, List.getD_eq_getElem?_getD, List.getElem?_take, if_pos (by omega)]
              have hcap : j + 1 ≤ cap6 := by obtain ⟨_, _, _, e, h1, _⟩ := hro; simp at e; omega
              obtain ⟨m6, hm6⟩ : ∃ m, s.M ++ c.reverse.take k = m := ⟨_, rfl⟩
              have hm6l : m6.length ≤ 80 := by rw [← hm6]; simp; omega
              rw [hm6] at hrm
              obtain ⟨aom, capm, rfl⟩ := hrm.shape
              have d3 : wr.cell? ⟨b, 3, none⟩ = some (.slice aom m6.length capm) := hbl.cell 3
              have f3 : wr.frozen? ⟨b, 3, none⟩ = false := hbl.free 3
              have hapT : b ∉ T6 := fun h => by
                rcases hT6 b h with h | h
                · exact HAp.out.2.1 h
                · have := HAp.out.2.2.2.1; omega
              have hgC6 : gC ∉ T6 := fun h => by
                rcases hT6 gC h with h | h
                · exact HAp.out.2.2.1 gC h (by simp)
                · have := HAp.out.2.2.2.2.1 gC (by simp); omega
              have hgt : decide ((most : Int) / 2 < (j : Int) + 1) = true := by simp; omega
              have hjI : (j : Int) + 1 ≤ (cap6 : Int) := by omega
              have hj0 : (0 : Int) ≤ (j : Int) := by omega
              have hj64 : j ≤ 64 := by omega
              have hjx : (j : Int) < (j : Int) + 1 := by omega
              have HKe := Lib.hid hke
              have HBl := Lib.hid hbl
              have HRo := Lib.hid hro
              have HRm := Lib.hid hrm
              have HT6 := Lib.hid hT6
              have HM6 := Lib.hid hm6
              have HJ := Lib.hid hj
              have HK2 : Hid (k + 1 ≤ c.length - most / 2) := Lib.hid hlt2
              rw [hj]
              clear hke hbl hro hrm hT6 hm6 hcC hml hj hk hlt2
              obtain ⟨x2, HX⟩ : ∃ x, Hid (c.getD j 0 = x) := ⟨_, rfl⟩
              rw [HX.out] at cC
              go_wp2_with fail
              have d3a : (wr.alloc (.cells #[.int .i64 x2] 3)).drew.cell? ⟨b, 3, none⟩ = some (.slice aom m6.length capm) := (World.cell?_alloc_past _ _ _ (block_lt_of_cell d3)).trans d3
              go_region_law (refine step_appn elemInt (HRm.out.then ((Keeps.refl [] wr).drew)) (by omega) ?_; intro ao7 cap7 w7 T7 r7 k7 s7; have k8 : Keeps T6 wr w7 := ((Keeps.refl T6 wr).drew).trans k7 (fun x hx => .inl hx); have f7 : w7.frozen? ⟨b, 3, none⟩ = false := (World.frozen?_of_block (a := ⟨b, 3, none⟩) (k8.block b (block_lt_of_cell d3) hapT)).trans f3; have e3 : w7.cell? ⟨b, 3, none⟩ = some (.slice aom m6.length capm) := k8.cell (by exact d3) hapT; have HST := Lib.hid (fun m => GLoop.step HAp.out.1 HAp.out.2.1 HAp.out.2.2.1 HAp.out.2.2.2.1 HAp.out.2.2.2.2.1 HKe.out HBl.out HRo.out HT6.out HJ.out (by rw [HM6.out, HX.out]; exact r7) k8 s7 m); clear r7 k7 s7 k8)
              all_goals
                go_wp2_with fail
                go_roundw
                case rel => exact ⟨k + 1, HK2.out, HST.out 0⟩
                case measure => simp [slenv]
            · have HTM : Hid (GMid w b size most (.slice (some ⟨gT, offT, none⟩) s.C.length cap) (.slice (some ⟨gH, offH, none⟩) s.H.length caph) s.f o (s.M ++ c.reverse.take (Po.puts most c)) U Tm (.slice ao6 (c.length - k) cap6) wr) := Lib.hid (by
                have hN : c.length - most / 2 = k := by omega
                rw [← HOe.out, HPu.out, hN]
                exact ⟨ao6, cap6, vm6, T6, by simp, hke, hbl, hro, hrm, hT6⟩)
              obtain ⟨m, hm⟩ : ∃ m, c.length - k = m := ⟨_, rfl⟩
              rw [hm] at HTM ⊢
              have hle2 : decide ((most : Int) / 2 < (m : Int)) = false := by simp; omega
              have hm64 : m ≤ 64 := by omega
              clear hke hbl hro hrm hT6 hk hlt2 hm
              go_wp2_with fail
              go_meet
              exact HTM.out
        | false =>
          have h0 : ¬ c.length = most := by have := HQ.out; simpa using this
          have HTM : Hid (GMid w b size most (.slice (some ⟨gT, offT, none⟩) s.C.length cap) (.slice (some ⟨gH, offH, none⟩) s.H.length caph) s.f o (s.M ++ c.reverse.take (Po.puts most c)) U Tm (.slice aoc c.length capc) w) := Lib.hid (by
            have e1 : Po.puts most c = 0 := by simp [Po.puts, h0]
            have e2 : o = c := by rw [← HOe.out, e1]; simp
            rw [e1, e2]
            exact ⟨aoc, capc, vm, Tm, rfl, Keeps.refl _ _, HB.out, HR.out, by simpa using HM.out, fun x hx => .inl hx⟩)
          clear h0
          go_wp2_with fail
          go_meet
          exact HTM.out
      case rest =>
        obtain ⟨ao6, cap6, vm6, T6, rfl, hke, hbl, hro, hrm, hT6⟩ := hcut
        have hb0 := HAp.out
        have d2 : wc.cell? ⟨b, 2, none⟩ = some (.slice (some ⟨gT, offT, none⟩) s.C.length cap) := hbl.cell 2
        have e5 : wc.cell? ⟨b, 5, none⟩ = some (.slice (some ⟨gH, offH, none⟩) s.H.length caph) := hbl.cell 5
        have hgHT : gH ∉ (b :: Tm) := by simp; exact ⟨fun h => n2 h.symm, hb0.2.2.2.2.2.2.1⟩
        have hgTT : gT ∉ (b :: Tm) := by simp; exact ⟨fun h => n1 h.symm, hb0.2.2.2.2.2.1⟩
        have eH := hke.cell cH hgHT
        have eT := hke.cell cT hgTT
        have gfH : wc.frozen? ⟨gH, offH + x, none⟩ = false := (World.frozen?_of_block (a := ⟨gH, offH + x, none⟩) (hke.block gH hgH hgHT)).trans fH
        have gfT : wc.frozen? ⟨gT, offT + n, none⟩ = false := (World.frozen?_of_block (a := ⟨gT, offT + n, none⟩) (hke.block gT hgT hgTT)).trans fT
        have hI3 : (x : Int) < (s.H.length : Int) := by omega
        have HKe := Lib.hid hke
        have HBl := Lib.hid hbl
        have HRo := Lib.hid hro
        have HRm := Lib.hid hrm
        have HT6 := Lib.hid hT6
        clear hke hbl hro hrm hT6 hb0
        go_wp2_with fail
        obtain ⟨aom, capm, hvm⟩ := HRm.out.shape
        have d2a : (wc.alloc (.cells #[.int .i64 (x : Int)] 3)).drew.cell? ⟨b, 2, none⟩ = some (.slice (some ⟨gT, offT, none⟩) s.C.length cap) := (World.cell?_alloc_past _ _ _ (block_lt_of_cell d2)).trans d2
        have hgU' : gT ∉ U := hgU
        go_region_law (refine step_appn elemInt (HRo.out.then ((Keeps.refl [] wc).drew)) (by omega) ?_; intro ao7 cap7 w7 U7 r7 k7 s7; have k8 : Keeps U wc w7 := ((Keeps.refl U wc).drew).trans k7 (fun x hx => .inl hx); have g7 : w7.frozen? ⟨gT, offT + n, none⟩ = false := (World.frozen?_of_block (a := ⟨gT, offT + n, none⟩) (k8.block gT (block_lt_of_cell eT) hgU')).trans gfT; have e7 : w7.cell? ⟨gT, offT + n, none⟩ = some (.slice aoc c.length capc) := k8.cell eT hgU'; have e72 : w7.cell? ⟨b, 2, none⟩ = some (.slice (some ⟨gT, offT, none⟩) s.C.length cap) := k8.cell d2 HAp.out.1; have e75 : w7.cell? ⟨b, 5, none⟩ = some (.slice (some ⟨gH, offH, none⟩) s.H.length caph) := k8.cell e5 HAp.out.1; have e7H : w7.cell? ⟨gH, offH + x, none⟩ = some (.bool t0) := k8.cell eH HAp.out.2.2.2.2.2.2.2; have g7H : w7.frozen? ⟨gH, offH + x, none⟩ = false := (World.frozen?_of_block (a := ⟨gH, offH + x, none⟩) (k8.block gH (block_lt_of_cell eH) HAp.out.2.2.2.2.2.2.2)).trans gfH; have R7 := Lib.hid r7; have K8 := Lib.hid k8; have S7 := Lib.hid s7; clear r7 k7 s7 k8)
        all_goals
          obtain ⟨S', hS1, hS2, hS3⟩ := pool_stored (t := true) (vm' := vm6) (M' := s.M ++ c.reverse.take (Po.puts most c)) (Tm' := T6) rfl rfl HAp.out.2.2.2.1 HC.out HH.out HM.out HA.out HK.out HU.out
            ((HKe.out.mono (T := b :: (U ++ Tm)) (fun y hy => by left; simp at hy ⊢; rcases hy with h | h <;> simp [h])).trans K8.out (fun y hy => by left; simp [hy])) (HBl.out.keep K8.out HAp.out.1) R7.out (fun y hy => by
              rcases S7.out y hy with h | h
              · exact .inl h
              · have := HKe.out.size; have h' : wc.heap.size ≤ y := h; omega) (HRm.out.keep K8.out (fun y hy hu => by
                rcases HT6.out y hy with h | h
                · exact HAp.out.2.2.1 y h hu
                · have := HAp.out.2.2.2.2.1 y hu; omega)) HT6.out (fun y hy hyT => by
              rcases S7.out y hy with h | h
              · rcases HT6.out y hyT with h1 | h1
                · exact HAp.out.2.2.1 y h1 h
                · have := HAp.out.2.2.2.2.1 y h; omega
              · have := HRm.out.lt y hyT; have h' : wc.heap.size ≤ y := h; omega) hxH
          have HS1 := Lib.hid hS1
          have HS2 := Lib.hid hS2
          have HS3 := Lib.hid hS3
          clear hS1 hS2 hS3
          go_wp2_with fail
          go_ret
          unfold GivePost
          rw [HGV.out]
          refine ⟨rfl, S', ?_, HS2.out, HS3.out⟩
          show Pl _ _ _ _ (s.C.set n (c.take (c.length - Po.puts most c) ++ [(x : Int)])) _ _ (s.H.set ((x : Int)).toNat true) S'
          rw [HOe.out, Int.toNat_natCast]
          exact HS1.out
end Go.Proofs.Ytonkbenmafapgaa
