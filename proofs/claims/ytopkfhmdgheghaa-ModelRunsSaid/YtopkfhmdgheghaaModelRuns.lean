/-
  The law ModelRuns: its walk.
  Conditions: none.
-/
import Derived.Test.YtopkfhmdgheghaaR20X
namespace Go.Proofs.Ytopkfhmdgheghaa
open Go.RowKit
set_option linter.unusedVariables false
set_option linter.unusedSimpArgs false
set_option linter.unnecessarySimpa false

def LC (w : World) (p : Value) (bw k : Nat) (wr : World) : Prop := ∃ st N S r ac nc cc aw nw cw SR, N ≤ 3 * k ∧ Mo wr p st N S ∧ Blk wr bw [.slice ac nc cc, .slice aw nw cw] 67 ∧ MR wr (.slice ac nc cc) (.slice aw nw cw) r SR ∧ Mr.Rel st r ∧ r.waits.length ≤ k ∧ st.chans.length ≤ 8 ∧ (∀ x ∈ SR, x ∉ S ∧ x ≠ bw) ∧ bw ∉ S ∧ Keeps [] w wr ∧ w.heap.size ≤ bw ∧ ∀ x ∈ S, w.heap.size ≤ x
theorem LB.ends {w wr : World} {p : Value} {bw B : Nat} {cs : List Value} {st : Md.St} {N n k : Nat} {S : List Nat} {r : Mr.St} {vc vw : Value} {SR : List Nat} (h : LB w p bw B cs st N n S r vc vw SR wr) (hN : N ≤ 3 * k) (hn : n ≤ k) : LC w p bw k wr := by
  obtain ⟨ac, cc, rfl⟩ := h.mr.1.shape
  obtain ⟨aw, cw, rfl⟩ := h.mr.2.shape
  exact ⟨st, N, S, r, _, _, _, _, _, _, SR, hN, h.mo, h.mb, h.mr, h.rel, by have := h.wl; omega, h.cl, h.dj, h.bS, h.kp, h.hb, h.hS⟩
/-- behind the switch -/
def LX (w : World) (p : Value) (bw B : Nat) (cs : List Value) (k : Nat) (wr : World) : Prop := ∃ st N n S r vc vw SR, N ≤ 3 * k + 1 ∧ n ≤ k + 1 ∧ LB w p bw B cs st N n S r vc vw SR wr

set_option maxRecDepth 100000 in
set_option maxHeartbeats 6400000 in
theorem modelRuns_walk (w : World) (v : Value) (l : List ActD) (S0 : List Nat) (h : GV actE 17 w v l S0) :
    Calls Try.prog 7 #[v] w fun e w' => e = .returned (.bool true) ∧ Keeps [] w w' := by
  have HG := Lib.hid h
  have HSL := Lib.hid h.lt
  have hl := h.le
  unfold maxLen at hl
  obtain ⟨al, cl, rfl⟩ := h.shape
  clear h
  have hnr := fun w a b c e d => run_neq_res w a b c e d
  have hgd := resR_guard
  have hnb : ∀ (w : World) (b : Bool), (binOp .neq 4 (.bool b) (.bool b)).run Try.prog w = .ok (.bool false) w := fun w b => by cases b <;> rfl
  go_enter Try.func7, Try.ntmps7
  go_wp2_with fail
  refine (model_alive _).mono ?_
  rintro e w1 ⟨rfl, k1⟩
  have K1 := Lib.hid k1
  clear k1
  cases hq1 : decide (80 < (l.length : Int)) with
  | true =>
    go_wp2_with fail
    go_ret
    exact ⟨rfl, K1.out⟩
  | false =>
    have HL : Hid (l.length ≤ 80) := Lib.hid (by simp at hq1; omega)
    go_wp2_with fail
    refine (model_new _).mono ?_
    rintro e w2 ⟨b, S1, rfl, hm1, k2, s1⟩
    have HM1 := Lib.hid hm1
    have K2 := Lib.hid (K1.out.then k2)
    have HS1 : Hid (∀ x ∈ S1, w.heap.size ≤ x) := Lib.hid (fun x hx => by have := s1 x hx; have := K1.out.size; omega)
    have HLC : Hid (LC w (.pointer (some ⟨b, 0, none⟩)) w2.heap.size 0 (w2.alloc (.cells #[.slice none 0 0, .slice none 0 0] 67))) := Lib.hid ⟨Md.new, 0, S1, ⟨[], []⟩, none, 0, 0, none, 0, 0, [], Nat.le_refl _, hm1.then ((Keeps.refl [] w2).alloc _), Blk.fresh w2 [.slice none 0 0, .slice none 0 0] _ _ rfl, ⟨GV.nil _ _ _, GV.nil _ _ _⟩, ⟨rfl, fun h o => by simp [Md.new]⟩, by simp, by simp [Md.new], by simp, fun hm => by have := hm1.lt _ hm; omega, K2.out.alloc _, K2.out.size, HS1.out⟩
    have HB2 : Hid (w.heap.size ≤ w2.heap.size) := Lib.hid K2.out.size
    clear hm1 k2 s1 hq1
    go_wp2_with fail
    obtain ⟨bw, hbw⟩ : ∃ bw, w2.heap.size = bw := ⟨_, rfl⟩
    rw [hbw] at HLC HB2 ⊢
    clear hbw
    go_loopw [30] (fun u wr => ∃ k : Nat, k ≤ l.length ∧ u = .int .i64 k ∧ Hid (LC w (.pointer (some ⟨b, 0, none⟩)) bw k wr)) (fun u _ => l.length - (intOf u).toNat)
    case atStart => exact ⟨0, Nat.zero_le _, rfl, HLC⟩
    case round =>
      obtain ⟨k, hk, rfl, HR⟩ := hrel
      obtain ⟨st, N, S, r, ac, nc, cc, aw, nw, cw, SR, hN, hmo, hmb, hmr, hrel, hwl, hcl, hdj, hbS, hkp, hbw, hS⟩ := HR.out
      obtain ⟨wo, rfl⟩ : ∃ wo : World, wo = wr := ⟨_, rfl⟩
      by_cases hlt : k < l.length
      · obtain ⟨a, hx⟩ : ∃ a, l[k]? = some a := ⟨_, List.getElem?_eq_getElem hlt⟩
        obtain ⟨g, off, va, vb, UA, rfl, hg, ⟨e0, e1, e2, e3, e4, e5, e6, e7, e8, e9, e10, e11, e12, e13, e14, e15, e16⟩, hva, hvb, hwg, hwh⟩ := HG.out.act hx
        have d0 := hkp.cell e0 (by simp)
        have d1 := hkp.cell e1 (by simp)
        have d2 := hkp.cell e2 (by simp)
        have d3 := hkp.cell e3 (by simp)
        have d4 := hkp.cell e4 (by simp)
        have d5 := hkp.cell e5 (by simp)
        have d6 := hkp.cell e6 (by simp)
        have d7 := hkp.cell e7 (by simp)
        have d8 := hkp.cell e8 (by simp)
        have d9 := hkp.cell e9 (by simp)
        have d10 := hkp.cell e10 (by simp)
        have d11 := hkp.cell e11 (by simp)
        have d12 := hkp.cell e12 (by simp)
        have d13 := hkp.cell e13 (by simp)
        have d14 := hkp.cell e14 (by simp)
        have d15 := hkp.cell e15 (by simp)
        have d16 := hkp.cell e16 (by simp)
        clear e0 e1 e2 e3 e4 e5 e6 e7 e8 e9 e10 e11 e12 e13 e14 e15 e16
        have HVA := Lib.hid hva
        have HVB := Lib.hid hvb
        have HUL := Lib.hid hva.lt
        obtain ⟨aa, ca, rfl⟩ := hva.shape
        obtain ⟨ab, cb, rfl⟩ := hvb.shape
        have HWG : Hid (wf64L a.g) := Lib.hid hwg
        have HWH : Hid (wf64L a.h) := Lib.hid hwh
        have HLT := Lib.hid hlt
        have HNN : Hid (N ≤ 3 * k ∧ k ≤ 80) := Lib.hid (by have := HL.out; omega)
        obtain ⟨w3, hw3⟩ : ∃ w3, wo.alloc (.cells (actC a (.slice aa a.a.cases.length ca) (.slice ab a.b.cases.length cb)).toArray 56) = w3 := ⟨_, rfl⟩
        have KO3 : Hid (Keeps [] wo w3) := Lib.hid (hw3 ▸ (Keeps.refl [] wo).alloc _)
        have HW3 : Hid (LB w (.pointer (some ⟨b, 0, none⟩)) bw wo.heap.size (actC a (.slice aa a.a.cases.length ca) (.slice ab a.b.cases.length cb)) st N k S r (.slice ac nc cc) (.slice aw nw cw) SR w3) := Lib.hid
          { mo := hmo.then KO3.out, mb := hmb.keep KO3.out (by simp), mr := hmr.then KO3.out, rel := hrel, wl := hwl, cl := hcl, ab := hw3 ▸ Blk.fresh wo _ _ _ rfl, dj := hdj, bS := hbS, BS := fun hm => by have := hmo.lt _ hm; omega, Bb := fun e => by have := hmb.lt; omega, kp := hkp.then KO3.out, hb := hbw, hB := hkp.size, hS := hS }
        clear hva hvb hwg hwh hx hN hmo hmb hmr hrel hwl hcl hdj hbS hkp hbw hS HR
        have HRG : wo.rangeAt g (off + k * 17) (actC a (.slice aa a.a.cases.length ca) (.slice ab a.b.cases.length cb)) := by
          intro j v hj
          have hjl := (List.getElem?_eq_some_iff.1 hj).1
          simp only [actC, List.length_cons, List.length_nil] at hjl
          rw [← hj]
          match j, hjl with
          | 0, _ => exact d0
          | 1, _ => exact d1
          | 2, _ => exact d2
          | 3, _ => exact d3
          | 4, _ => exact d4
          | 5, _ => exact d5
          | 6, _ => exact d6
          | 7, _ => exact d7
          | 8, _ => exact d8
          | 9, _ => exact d9
          | 10, _ => exact d10
          | 11, _ => exact d11
          | 12, _ => exact d12
          | 13, _ => exact d13
          | 14, _ => exact d14
          | 15, _ => exact d15
          | 16, _ => exact d16
        clear d0 d1 d2 d3 d4 d5 d6 d7 d8 d9 d10 d11 d12 d13 d14 d15 d16
        have HRG3 := HW3.out.ab.range
        have HONE : (actC a (.slice aa a.a.cases.length ca) (.slice ab a.b.cases.length cb)).toArray.all (·.oneCell') = true := by kernel_rfl
        go_wp2_with (first
          | (refine wpList_load_mid rfl 56 (.tmp 32) rfl g (off + k * 17) (by rfl) _ _ HRG Try.underlying56 rfl (by kernel_rfl) ?_)
          | (refine wpList_store_mid rfl 56 (.tmp 6) (.tmp 33) rfl wo.heap.size 0 _ (by rfl) (by rfl) (there_alloc_new wo _ _ (by rfl)) (by kernel_rfl) HONE ?_; rw [alloc_setCells wo _ _ _ (by rfl), hw3])
          | (refine wpList_load_mid rfl 56 (.tmp 6) rfl wo.heap.size 0 (by rfl) _ _ HRG3 Try.underlying56 rfl (by kernel_rfl) ?_)
          | fail)
        refine (act_great _ (actC a (.slice aa a.a.cases.length ca) (.slice ab a.b.cases.length cb)) a UA ⟨_, _, rfl, HVA.out.then caseE_kept HW3.out.kp, HVB.out.then caseE_kept HW3.out.kp, HWG.out, HWH.out⟩).mono ?_
        rintro e w4 ⟨gr, rfl, hgr, k4⟩
        have HW4 := Lib.hid (HW3.out.then k4)
        clear hw3 k4 HRG HRG3 HONE
        obtain ⟨x0, x1, x2, x3, x4, x5, x6, x7, x8, x9, x10, x11, x12, x13, x14, x15, x16⟩ := HW4.out.ab.act
        have b0 := HW4.out.mb.cell 0
        have b1 := HW4.out.mb.cell 1
        have g0 := HW4.out.mb.free 0
        have g1 := HW4.out.mb.free 1
        simp only [List.getElem?_cons_zero, List.getElem?_cons_succ] at b0 b1
        cases gr with
        | true =>
          go_wp2_with fail
          go_ret
          exact ⟨rfl, HW4.out.kp⟩
        | false =>
          have HCA : Hid (a.a.cases.length ≤ 1000) := Lib.hid (by have := (hgr rfl).1; omega)
          clear hgr
          go_upto_block 2 with fail
          go_cut [7, 8, 9, 10, 11, 12, 13, 14, 15, 16, 17, 18] (fun _ _ _ _ _ _ _ _ _ _ _ _ w' => LX w (.pointer (some ⟨b, 0, none⟩)) bw wo.heap.size (actC a (.slice aa a.a.cases.length ca) (.slice ab a.b.cases.length cb)) k w')
          case first =>
            as_aux_lemma =>
              by_cases e0 : a.kind = 0
              · have hk0 : (a.kind == 0) = true := by simp [e0]
                clear e0
                go_wp2_with fail
                refine (ref20_fire _ _ _ _ st r SR a.g a.a UA a.i HW4.out.mr HW4.out.rel (HVA.out.then caseE_kept HW4.out.kp) (by have := HW4.out.wl; have := HNN.out; omega) (by have := HW4.out.cl; rw [← HW4.out.rel.1]; omega) (fun c hc => by have := HW4.out.mo.bufs c (by rw [HW4.out.rel.1]; exact hc); have := HNN.out; omega) (fun x => x ∉ S ∧ x ≠ bw) HW4.out.dj).mono ?_
                obtain ⟨⟨st5, r5⟩, hD⟩ : ∃ D, Md.fire st a.g a.a a.i = D := ⟨_, rfl⟩
                have HC5 : Hid (st5.chans.length ≤ 8) := Lib.hid (by have h0 := Md.fire_len (g := a.g) (o := a.a) (i := a.i) HW4.out.cl; rw [hD] at h0; exact h0)
                rw [hD]
                have HD := Lib.hid hD
                clear hD
                rintro e w5 ⟨v5, rfl, r', hr5, hl5, vc', vw', S', rfl, hm5, k5, hS5, hlt5⟩
                obtain ⟨ac', cc', rfl⟩ := hm5.1.shape
                obtain ⟨aw', cw', rfl⟩ := hm5.2.shape
                obtain ⟨rr, hrr⟩ : ∃ rr, r5.getD Md.noRes = rr := ⟨_, rfl⟩
                obtain ⟨ok5, hok⟩ : ∃ ok5, r5.isSome = ok5 := ⟨_, rfl⟩
                rw [hrr, hok]
                have HRR := Lib.hid hrr
                have HOK := Lib.hid hok
                clear hrr hok
                unfold resV
                have HR5 := Lib.hid hr5
                have HL5 : Hid (r'.waits.length ≤ k + 1) := Lib.hid (by have h1 := HW4.out.wl; have h2 := hl5; omega)
                have HM5 := Lib.hid hm5
                have K5 := Lib.hid k5
                have HS5 := Lib.hid hS5
                have HW5 := Lib.hid (HW4.out.then k5)
                clear hr5 hl5 hm5 k5 hS5 hlt5 x0 x1 x2 x3 x4 x5 x6 x7 x8 x9 x10 x11 x12 x13 x14 x15 x16 b0 b1 g0 g1
                obtain ⟨x0, x1, x2, x3, x4, x5, x6, x7, x8, x9, x10, x11, x12, x13, x14, x15, x16⟩ := HW5.out.ab.act
                have b0 := HW5.out.mb.cell 0
                have b1 := HW5.out.mb.cell 1
                have g0 := HW5.out.mb.free 0
                have g1 := HW5.out.mb.free 1
                simp only [List.getElem?_cons_zero, List.getElem?_cons_succ] at b0 b1
                have hqb : bw < w5.heap.size := HW5.out.mb.lt
                go_upto_region 17 with fail
                clear hqb
                have HW6 := Lib.hid ((HW5.out.ahead (vc' := .slice ac' r'.chans.length cc') (vw' := .slice aw' r'.waits.length cw') HR5.out HL5.out HC5.out HM5.out (Keeps.refl [] w5) (fun x hx => by
                  rcases HS5.out x hx with h | h
                  · exact .inl h
                  · exact .inl ⟨fun hm => by have := HW4.out.mo.lt x hm; omega, fun e => by have := HW4.out.mb.lt; omega⟩) (Keeps.refl [] w5)).then (((Keeps.refl [] _).alloc (.cells #[.slice ac' r'.chans.length cc', .slice aw' r'.waits.length cw'] 67)).alloc (.cells #[.int .i64 rr.code, .int .i64 rr.cs, .int .i64 rr.v, .bool rr.ok, .int .i64 rr.n] 28)))
                obtain ⟨w6, hw6⟩ : ∃ w6, ((((w5.setCell ⟨bw, 0, none⟩ (.slice ac' r'.chans.length cc')).setCell ⟨bw, 1, none⟩ (.slice aw' r'.waits.length cw')).alloc (.cells #[.slice ac' r'.chans.length cc', .slice aw' r'.waits.length cw'] 67)).alloc (.cells #[.int .i64 rr.code, .int .i64 rr.cs, .int .i64 rr.v, .bool rr.ok, .int .i64 rr.n] 28)) = w6 := ⟨_, rfl⟩
                rw [hw6] at HW6 ⊢
                have HB8 : Hid (Blk w6 (w5.heap.size + 1) [.int .i64 rr.code, .int .i64 rr.cs, .int .i64 rr.v, .bool rr.ok, .int .i64 rr.n] 28) := Lib.hid (by
                  rw [← hw6]
                  exact Blk.fresh _ [.int .i64 rr.code, .int .i64 rr.cs, .int .i64 rr.v, .bool rr.ok, .int .i64 rr.n] 28 _ (by simp [World.setCell]))
                clear hw6 x0 x1 x2 x3 x4 x5 x6 x7 x8 x9 x10 x11 x12 x13 x14 x15 x16 b0 b1 g0 g1
                obtain ⟨x0, x1, x2, x3, x4, x5, x6, x7, x8, x9, x10, x11, x12, x13, x14, x15, x16⟩ := HW6.out.ab.act
                have b0 := HW6.out.mb.cell 0
                have b1 := HW6.out.mb.cell 1
                have g0 := HW6.out.mb.free 0
                have g1 := HW6.out.mb.free 1
                simp only [List.getElem?_cons_zero, List.getElem?_cons_succ] at b0 b1
                go_wp2_with fail
                refine (model_fire _ _ st N S a.g a.a _ UA a.i HW6.out.mo (HVA.out.then caseE_kept HW6.out.kp) (by have := HNN.out; omega) HWG.out).mono ?_
                rw [HD.out]
                rintro e w7 ⟨rfl, m7⟩
                unfold optV
                rw [HRR.out, HOK.out]
                unfold resV
                have HB87 := Lib.hid (HB8.out.keep m7.choose_spec.2.1 (fun hm => by have := HW5.out.mo.lt _ hm; omega))
                obtain ⟨S7, hw7⟩ := HW6.out.done m7
                have HW7 := Lib.hid hw7
                clear m7 hw7 x0 x1 x2 x3 x4 x5 x6 x7 x8 x9 x10 x11 x12 x13 x14 x15 x16 b0 b1 g0 g1
                obtain ⟨x0, x1, x2, x3, x4, x5, x6, x7, x8, x9, x10, x11, x12, x13, x14, x15, x16⟩ := HW7.out.ab.act
                have b0 := HW7.out.mb.cell 0
                have b1 := HW7.out.mb.cell 1
                have g0 := HW7.out.mb.free 0
                have g1 := HW7.out.mb.free 1
                simp only [List.getElem?_cons_zero, List.getElem?_cons_succ] at b0 b1
                obtain ⟨r0, r1, r2, r3, r4⟩ := (show Blk w7 _ (resL rr) _ from HB87.out).res.1
                have hu : ∀ x : Obj, (w7.alloc x).cell? ⟨w5.heap.size + 1, 0, none⟩ = some (.int .i64 rr.code) ∧ (w7.alloc x).cell? ⟨w5.heap.size + 1, 1, none⟩ = some (.int .i64 rr.cs) ∧ (w7.alloc x).cell? ⟨w5.heap.size + 1, 2, none⟩ = some (.int .i64 rr.v) ∧ (w7.alloc x).cell? ⟨w5.heap.size + 1, 3, none⟩ = some (.bool rr.ok) ∧ (w7.alloc x).cell? ⟨w5.heap.size + 1, 4, none⟩ = some (.int .i64 rr.n) := fun x => (show Blk (w7.alloc x) _ (resL rr) _ from HB87.out.alloc x).res.1
                obtain ⟨u0, u1, u2, u3, u4⟩ := hu (.cells #[.int .i64 rr.code, .int .i64 rr.cs, .int .i64 rr.v, .bool rr.ok, .int .i64 rr.n] 28)
                clear hu r0 r1 r2 r3 r4
                go_wp2_with fail
                go_meet
                exact ⟨st5, N + 1, k + 1, S7, r', _, _, S', by have := HNN.out; omega, Nat.le_refl _, HW7.out.then ((Keeps.refl [] w7).alloc _)⟩
              by_cases e1 : a.kind = 1
              · have hk0 : (a.kind == 0) = false := by simp [e0]
                have hk1 : (a.kind == 1) = true := by simp [e1]
                clear e0 e1
                go_wp2_with fail
                refine (ref20_putWait _ _ _ _ st r SR a.g a.a UA HW4.out.mr HW4.out.rel (HVA.out.then caseE_kept HW4.out.kp) (by have := HW4.out.wl; have := HNN.out; omega) (fun x => x ∉ S ∧ x ≠ bw) HW4.out.dj (fun x hx => ⟨fun hm => by have := HUL.out x hx; have := HW4.out.hS x hm; omega, fun e => by have := HUL.out x hx; have := HW4.out.hb; omega⟩)).mono ?_
                obtain ⟨⟨st5, r5⟩, hD⟩ : ∃ D, Md.wait st a.g a.a = D := ⟨_, rfl⟩
                have HC5 : Hid (st5.chans.length ≤ 8) := Lib.hid (by have h0 := Md.wait_len (g := a.g) (o := a.a) HW4.out.cl; rw [hD] at h0; exact h0)
                rw [hD]
                have HD := Lib.hid hD
                clear hD
                rintro e w5 ⟨v5, rfl, r', hr5, hl5, vc', vw', S', rfl, hm5, k5, hS5, hlt5⟩
                obtain ⟨ac', cc', rfl⟩ := hm5.1.shape
                obtain ⟨aw', cw', rfl⟩ := hm5.2.shape
                have HR5 := Lib.hid hr5
                have HL5 : Hid (r'.waits.length ≤ k + 1) := Lib.hid (by have h1 := HW4.out.wl; have h2 := hl5; omega)
                have HM5 := Lib.hid hm5
                have K5 := Lib.hid k5
                have HS5 := Lib.hid hS5
                have HW5 := Lib.hid (HW4.out.then k5)
                clear hr5 hl5 hm5 k5 hS5 hlt5 x0 x1 x2 x3 x4 x5 x6 x7 x8 x9 x10 x11 x12 x13 x14 x15 x16 b0 b1 g0 g1
                obtain ⟨x0, x1, x2, x3, x4, x5, x6, x7, x8, x9, x10, x11, x12, x13, x14, x15, x16⟩ := HW5.out.ab.act
                have b0 := HW5.out.mb.cell 0
                have b1 := HW5.out.mb.cell 1
                have g0 := HW5.out.mb.free 0
                have g1 := HW5.out.mb.free 1
                simp only [List.getElem?_cons_zero, List.getElem?_cons_succ] at b0 b1
                have hqb : bw < w5.heap.size := HW5.out.mb.lt
                go_upto_region 23 with fail
                clear hqb
                have HW6 := Lib.hid ((HW5.out.ahead (vc' := .slice ac' r'.chans.length cc') (vw' := .slice aw' r'.waits.length cw') HR5.out HL5.out HC5.out HM5.out (Keeps.refl [] w5) (fun x hx => by
                  rcases HS5.out x hx with h | h
                  · exact .inl h
                  · exact .inl ⟨fun hm => by have := HW4.out.mo.lt x hm; omega, fun e => by have := HW4.out.mb.lt; omega⟩) (Keeps.refl [] w5)).then ((Keeps.refl [] _).alloc (.cells #[.slice ac' r'.chans.length cc', .slice aw' r'.waits.length cw'] 67)))
                obtain ⟨w6, hw6⟩ : ∃ w6, (((w5.setCell ⟨bw, 0, none⟩ (.slice ac' r'.chans.length cc')).setCell ⟨bw, 1, none⟩ (.slice aw' r'.waits.length cw')).alloc (.cells #[.slice ac' r'.chans.length cc', .slice aw' r'.waits.length cw'] 67)) = w6 := ⟨_, rfl⟩
                rw [hw6] at HW6 ⊢
                clear hw6 x0 x1 x2 x3 x4 x5 x6 x7 x8 x9 x10 x11 x12 x13 x14 x15 x16 b0 b1 g0 g1
                obtain ⟨x0, x1, x2, x3, x4, x5, x6, x7, x8, x9, x10, x11, x12, x13, x14, x15, x16⟩ := HW6.out.ab.act
                have b0 := HW6.out.mb.cell 0
                have b1 := HW6.out.mb.cell 1
                have g0 := HW6.out.mb.free 0
                have g1 := HW6.out.mb.free 1
                simp only [List.getElem?_cons_zero, List.getElem?_cons_succ] at b0 b1
                go_wp2_with fail
                refine (model_wait _ _ st N S a.g a.a _ UA HW6.out.mo (HVA.out.then caseE_kept HW6.out.kp) (by have := HNN.out; omega) HWG.out HCA.out).mono ?_
                rw [HD.out]
                rintro e w7 ⟨rfl, m7⟩
                obtain ⟨S7, hw7⟩ := HW6.out.done m7
                have HW7 := Lib.hid hw7
                clear m7 hw7 x0 x1 x2 x3 x4 x5 x6 x7 x8 x9 x10 x11 x12 x13 x14 x15 x16 b0 b1 g0 g1
                obtain ⟨x0, x1, x2, x3, x4, x5, x6, x7, x8, x9, x10, x11, x12, x13, x14, x15, x16⟩ := HW7.out.ab.act
                have b0 := HW7.out.mb.cell 0
                have b1 := HW7.out.mb.cell 1
                have g0 := HW7.out.mb.free 0
                have g1 := HW7.out.mb.free 1
                simp only [List.getElem?_cons_zero, List.getElem?_cons_succ] at b0 b1
                go_wp2_with fail
                go_meet
                exact ⟨st5, N + 1, k + 1, S7, r', _, _, S', by have := HNN.out; omega, Nat.le_refl _, HW7.out⟩
              by_cases e2 : a.kind = 2
              · have hk0 : (a.kind == 0) = false := by simp [e0]
                have hk1 : (a.kind == 1) = false := by simp [e1]
                have hk2 : (a.kind == 2) = true := by simp [e2]
                clear e0 e1 e2
                go_wp2_with fail
                refine (ref20_meet _ _ _ _ _ st r SR a.g a.a UA a.i a.h a.b UA a.k HW4.out.mr HW4.out.rel (HVA.out.then caseE_kept HW4.out.kp) (HVB.out.then caseE_kept HW4.out.kp) (by have := HW4.out.wl; have := HNN.out; omega) (fun x => x ∉ S ∧ x ≠ bw) HW4.out.dj).mono ?_
                obtain ⟨⟨st5, r5⟩, hD⟩ : ∃ D, Md.meet st a.g a.a a.i a.h a.b a.k = D := ⟨_, rfl⟩
                have HC5 : Hid (st5.chans.length ≤ 8) := Lib.hid (by have h0 := Md.meet_len (g := a.g) (h := a.h) (a := a.a) (b := a.b) (i := a.i) (k := a.k) HW4.out.cl; rw [hD] at h0; exact h0)
                rw [hD]
                have HD := Lib.hid hD
                clear hD
                rintro e w5 ⟨v5, rfl, r', hr5, hl5, vc', vw', S', rfl, hm5, k5, hS5, hlt5⟩
                obtain ⟨ac', cc', rfl⟩ := hm5.1.shape
                obtain ⟨aw', cw', rfl⟩ := hm5.2.shape
                obtain ⟨rx5, hrr⟩ : ∃ rx5, r5.getD 0 = rx5 := ⟨_, rfl⟩
                obtain ⟨ok5, hok⟩ : ∃ ok5, r5.isSome = ok5 := ⟨_, rfl⟩
                rw [hrr, hok]
                have HRR := Lib.hid hrr
                have HOK := Lib.hid hok
                clear hrr hok
                have HR5 := Lib.hid hr5
                have HL5 : Hid (r'.waits.length ≤ k + 1) := Lib.hid (by have h1 := HW4.out.wl; have h2 := hl5; omega)
                have HM5 := Lib.hid hm5
                have K5 := Lib.hid k5
                have HS5 := Lib.hid hS5
                have HW5 := Lib.hid (HW4.out.then k5)
                clear hr5 hl5 hm5 k5 hS5 hlt5 x0 x1 x2 x3 x4 x5 x6 x7 x8 x9 x10 x11 x12 x13 x14 x15 x16 b0 b1 g0 g1
                obtain ⟨x0, x1, x2, x3, x4, x5, x6, x7, x8, x9, x10, x11, x12, x13, x14, x15, x16⟩ := HW5.out.ab.act
                have b0 := HW5.out.mb.cell 0
                have b1 := HW5.out.mb.cell 1
                have g0 := HW5.out.mb.free 0
                have g1 := HW5.out.mb.free 1
                simp only [List.getElem?_cons_zero, List.getElem?_cons_succ] at b0 b1
                have hqb : bw < w5.heap.size := HW5.out.mb.lt
                go_upto_region 28 with fail
                clear hqb
                have HW6 := Lib.hid ((HW5.out.ahead (vc' := .slice ac' r'.chans.length cc') (vw' := .slice aw' r'.waits.length cw') HR5.out HL5.out HC5.out HM5.out (Keeps.refl [] w5) (fun x hx => by
                  rcases HS5.out x hx with h | h
                  · exact .inl h
                  · exact .inl ⟨fun hm => by have := HW4.out.mo.lt x hm; omega, fun e => by have := HW4.out.mb.lt; omega⟩) (Keeps.refl [] w5)).then ((Keeps.refl [] _).alloc (.cells #[.slice ac' r'.chans.length cc', .slice aw' r'.waits.length cw'] 67)))
                obtain ⟨w6, hw6⟩ : ∃ w6, (((w5.setCell ⟨bw, 0, none⟩ (.slice ac' r'.chans.length cc')).setCell ⟨bw, 1, none⟩ (.slice aw' r'.waits.length cw')).alloc (.cells #[.slice ac' r'.chans.length cc', .slice aw' r'.waits.length cw'] 67)) = w6 := ⟨_, rfl⟩
                rw [hw6] at HW6 ⊢
                clear hw6 x0 x1 x2 x3 x4 x5 x6 x7 x8 x9 x10 x11 x12 x13 x14 x15 x16 b0 b1 g0 g1
                obtain ⟨x0, x1, x2, x3, x4, x5, x6, x7, x8, x9, x10, x11, x12, x13, x14, x15, x16⟩ := HW6.out.ab.act
                have b0 := HW6.out.mb.cell 0
                have b1 := HW6.out.mb.cell 1
                have g0 := HW6.out.mb.free 0
                have g1 := HW6.out.mb.free 1
                simp only [List.getElem?_cons_zero, List.getElem?_cons_succ] at b0 b1
                go_wp2_with fail
                refine (model_meet _ _ st N S a.g a.a _ UA a.i a.h a.b _ UA a.k HW6.out.mo (HVA.out.then caseE_kept HW6.out.kp) (HVB.out.then caseE_kept HW6.out.kp) HWG.out HWH.out).mono ?_
                rw [HD.out]
                rintro e w7 ⟨rfl, m7⟩
                rw [HRR.out, HOK.out]
                obtain ⟨S7, hw7⟩ := HW6.out.done m7
                have HW7 := Lib.hid hw7
                clear m7 hw7 x0 x1 x2 x3 x4 x5 x6 x7 x8 x9 x10 x11 x12 x13 x14 x15 x16 b0 b1 g0 g1
                obtain ⟨x0, x1, x2, x3, x4, x5, x6, x7, x8, x9, x10, x11, x12, x13, x14, x15, x16⟩ := HW7.out.ab.act
                have b0 := HW7.out.mb.cell 0
                have b1 := HW7.out.mb.cell 1
                have g0 := HW7.out.mb.free 0
                have g1 := HW7.out.mb.free 1
                simp only [List.getElem?_cons_zero, List.getElem?_cons_succ] at b0 b1
                go_wp2_with fail
                go_meet
                exact ⟨st5, N, k + 1, S7, r', _, _, S', by have := HNN.out; omega, Nat.le_refl _, HW7.out⟩
              have hk0 : (a.kind == 0) = false := by simp [e0]
              have hk1 : (a.kind == 1) = false := by simp [e1]
              have hk2 : (a.kind == 2) = false := by simp [e2]
              clear e0 e1 e2
              go_wp2_with fail
              go_meet
              exact ⟨st, N, k, S, r, _, _, SR, by have := HNN.out; omega, by omega, HW4.out⟩
          case rest =>
            as_aux_lemma =>
              obtain ⟨stx, Nx, nx, Sx, rx, vcx, vwx, SRx, hNx, hnx, hlbx⟩ := hcut
              obtain ⟨acx, ccx, hvc⟩ := hlbx.mr.1.shape
              obtain ⟨awx, cwx, hvw⟩ := hlbx.mr.2.shape
              subst hvc hvw
              obtain ⟨ncx, hncx⟩ : ∃ ncx, rx.chans.length = ncx := ⟨_, rfl⟩
              obtain ⟨nwx, hnwx⟩ : ∃ nwx, rx.waits.length = nwx := ⟨_, rfl⟩
              rw [hncx, hnwx] at hlbx
              have HNX := Lib.hid hNx
              have HnX := Lib.hid hnx
              have HX := Lib.hid hlbx
              have HNC := Lib.hid hncx
              have HALL : Hid (∀ w', Keeps [] wc w' → LB w (.pointer (some ⟨b, 0, none⟩)) bw wo.heap.size (actC a (.slice aa a.a.cases.length ca) (.slice ab a.b.cases.length cb)) stx Nx nx Sx rx (.slice acx ncx ccx) (.slice awx nwx cwx) SRx w') := Lib.hid (fun w' k => hlbx.then k)
              have HFF : Hid (∀ w', Keeps [] wc w' → w'.cell? ⟨bw, 0, none⟩ = some (.slice acx ncx ccx) ∧ w'.cell? ⟨bw, 1, none⟩ = some (.slice awx nwx cwx) ∧ w'.cell? ⟨wo.heap.size, 1, none⟩ = some (.int .i64 a.g) ∧ w'.cell? ⟨wo.heap.size, 2, none⟩ = some (.int .i64 a.i) ∧ w'.cell? ⟨wo.heap.size, 3, none⟩ = some (.int .i64 a.h) ∧ w'.cell? ⟨wo.heap.size, 5, none⟩ = some (.int .i64 a.a.kind) ∧ w'.cell? ⟨wo.heap.size, 6, none⟩ = some (.int .i64 a.a.ch) ∧ w'.cell? ⟨wo.heap.size, 7, none⟩ = some (.int .i64 a.a.n) ∧ w'.cell? ⟨wo.heap.size, 8, none⟩ = some (.int .i64 a.a.v) ∧ w'.cell? ⟨wo.heap.size, 9, none⟩ = some (.slice aa a.a.cases.length ca) ∧ w'.cell? ⟨wo.heap.size, 10, none⟩ = some (.bool a.a.els)) := Lib.hid (fun w' k => by
                have h := hlbx.then k
                obtain ⟨x0, x1, x2, x3, x4, x5, x6, x7, x8, x9, x10, x11, x12, x13, x14, x15, x16⟩ := h.ab.act
                exact ⟨h.mb.cell 0, h.mb.cell 1, x1, x2, x3, x5, x6, x7, x8, x9, x10⟩)
              have HVV : Hid (∀ w', Keeps [] wc w' → GV caseE 3 w' (.slice aa a.a.cases.length ca) a.a.cases UA) := Lib.hid (fun w' k => HVA.out.then caseE_kept (hlbx.kp.then k))
              have HLN : Hid (Nx ≤ 100000) := Lib.hid (by have := HNN.out; omega)
              have HLC : Hid (stx.chans.length ≤ 100000) := Lib.hid (by have := hlbx.cl; omega)
              have HRL : Hid (stx.chans = rx.chans) := Lib.hid hlbx.rel.1
              have KC := Lib.hid ((Keeps.refl [] wc).drew)
              have FC := Lib.hid (HFF.out _ KC.out)
              clear hNx hnx hlbx hncx hnwx HNN HW4 x0 x1 x2 x3 x4 x5 x6 x7 x8 x9 x10 x11 x12 x13 x14 x15 x16 b0 b1 g0 g1
              clear HG HSL HM1 HS1 HB2 HVB HVA HUL KO3 HW3 HCA hnr hgd K1 K2 HL
              go_wp2_with fail
              simp only [List.append_eq, List.cons_append, List.nil_append]
              go_region_held3 (fun w' => w'.cell? ⟨bw, 0, none⟩ = some (.slice acx ncx ccx) ∧ w'.cell? ⟨bw, 1, none⟩ = some (.slice awx nwx cwx) ∧ w'.cell? ⟨wo.heap.size, 1, none⟩ = some (.int .i64 a.g) ∧ w'.cell? ⟨wo.heap.size, 2, none⟩ = some (.int .i64 a.i) ∧ w'.cell? ⟨wo.heap.size, 3, none⟩ = some (.int .i64 a.h) ∧ w'.cell? ⟨wo.heap.size, 5, none⟩ = some (.int .i64 a.a.kind) ∧ w'.cell? ⟨wo.heap.size, 6, none⟩ = some (.int .i64 a.a.ch) ∧ w'.cell? ⟨wo.heap.size, 7, none⟩ = some (.int .i64 a.a.n) ∧ w'.cell? ⟨wo.heap.size, 8, none⟩ = some (.int .i64 a.a.v) ∧ w'.cell? ⟨wo.heap.size, 9, none⟩ = some (.slice aa a.a.cases.length ca) ∧ w'.cell? ⟨wo.heap.size, 10, none⟩ = some (.bool a.a.els))
                (first | (with_reducible exact FC.out) | go_keep)
                (first
                  | (go_at_call 30; (with_reducible refine (law20_chans _ _ stx Nx Sx (HALL.out _ KC.out).mo HLN.out HLC.out).mono ?_); rintro e wn ⟨vn, Sn, rfl, gn, kn⟩; have gm := HRL.out ▸ gn; obtain ⟨an, cn, rfl⟩ := gm.shape; have HVN := Lib.hid gm; have KC := Lib.hid (KC.out.then kn); have FC := Lib.hid (HFF.out _ KC.out); clear gn gm kn)
                  | (go_at_call 29; (with_reducible refine (ref20_sameChans _ _ _ rx.chans _ _ HVN.out (HALL.out _ KC.out).ch).mono ?_); rintro e wn ⟨rfl, kn⟩; have KC := Lib.hid (KC.out.then kn); have FC := Lib.hid (HFF.out _ KC.out); clear kn)
                  | (go_at_call 21; (with_reducible refine (model_waits _ _ stx Nx Sx a.g (HALL.out _ KC.out).mo HWG.out).mono ?_); rintro e wn ⟨rfl, kn⟩; have KC := Lib.hid (KC.out.then kn); have FC := Lib.hid (HFF.out _ KC.out); clear kn)
                  | (go_at_call 21; (with_reducible refine (model_waits _ _ stx Nx Sx a.h (HALL.out _ KC.out).mo HWH.out).mono ?_); rintro e wn ⟨rfl, kn⟩; have KC := Lib.hid (KC.out.then kn); have FC := Lib.hid (HFF.out _ KC.out); clear kn)
                  | (go_at_call 31; (with_reducible refine (ref20_waits _ _ _ stx rx SRx _ (HALL.out _ KC.out).mr (HALL.out _ KC.out).rel).mono ?_); rintro e wn ⟨rfl, kn⟩; have KC := Lib.hid (KC.out.then kn); have FC := Lib.hid (HFF.out _ KC.out); clear kn)
                  | (go_at_call 25; refine (model_May _ _ stx Nx Sx a.g a.a _ UA a.i (HALL.out _ KC.out).mo (HVV.out _ KC.out)).mono ?_; rintro e wn ⟨rfl, kn⟩; have KC := Lib.hid (KC.out.then kn); have FC := Lib.hid (HFF.out _ KC.out); clear kn)
                  | (go_at_call 32; refine (ref20_may _ _ _ _ stx rx SRx a.g a.a UA a.i (HALL.out _ KC.out).mr (HALL.out _ KC.out).rel (HVV.out _ KC.out)).mono ?_; rintro e wn ⟨rfl, kn⟩; have KC := Lib.hid (KC.out.then kn); have FC := Lib.hid (HFF.out _ KC.out); clear kn)
                  | (go_at_call 22; refine (model_Any _ _ stx Nx Sx a.g a.a _ UA (HALL.out _ KC.out).mo (HVV.out _ KC.out)).mono ?_; rintro e wn ⟨rfl, kn⟩; have KC := Lib.hid (KC.out.then kn); have FC := Lib.hid (HFF.out _ KC.out); clear kn)
                  | (go_at_call 33; refine (ref20_any _ _ _ _ stx rx SRx a.g a.a UA (HALL.out _ KC.out).mr (HALL.out _ KC.out).rel (HVV.out _ KC.out)).mono ?_; rintro e wn ⟨rfl, kn⟩; have KC := Lib.hid (KC.out.then kn); have FC := Lib.hid (HFF.out _ KC.out); clear kn)
                  | (go_at_call 24; refine (model_no _ _ stx Nx Sx a.g a.a _ UA (HALL.out _ KC.out).mo (HVV.out _ KC.out)).mono ?_; rintro e wn ⟨rfl, kn⟩; have KC := Lib.hid (KC.out.then kn); have FC := Lib.hid (HFF.out _ KC.out); clear kn)
                  | (go_at_call 34; refine (ref20_no _ _ _ _ stx rx SRx a.g a.a UA (HALL.out _ KC.out).mr (HALL.out _ KC.out).rel (HVV.out _ KC.out)).mono ?_; rintro e wn ⟨rfl, kn⟩; have KC := Lib.hid (KC.out.then kn); have FC := Lib.hid (HFF.out _ KC.out); clear kn)
                  | fail)
              go_wp2_with fail
              go_roundw
              case rel => exact ⟨k + 1, by have := HLT.out; omega, by go_num, Lib.hid ((HALL.out _ KC.out).ends (by have := HNX.out; omega) HnX.out)⟩
              case measure => have := HLT.out; simp [intOf]; omega
      · obtain rfl : k = l.length := by omega
        have HK := Lib.hid hkp
        go_wp2_with fail
        go_ret
        exact ⟨rfl, HK.out⟩
end Go.Proofs.Ytopkfhmdgheghaa
