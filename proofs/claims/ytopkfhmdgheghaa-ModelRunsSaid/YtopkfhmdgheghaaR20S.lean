/-
  handoffref20.Fire: a side, no channel.
  Conditions: rows of no more than 100000.
-/
import Derived.Test.YtopkfhmdgheghaaR20M
namespace Go.Proofs.Ytopkfhmdgheghaa
open Go.RowKit
set_option linter.unusedVariables false
set_option linter.unusedSimpArgs false
set_option linter.unnecessarySimpa false

set_option maxRecDepth 100000 in
set_option maxHeartbeats 6400000 in
theorem ref20_fire_nochan (w : World) (vc vw va : Value) (st : Md.St) (r : Mr.St) (S : List Nat) (gi : Int) (o : Pn.Op) (UA : List Nat) (i : Int) (h : MR w vc vw r S) (hr : Mr.Rel st r) (ha : GV caseE 3 w va o.cases UA) (hn : r.waits.length ≤ 100000) (hn1 : r.chans.length ≤ 100000) (hn2 : ∀ c ∈ r.chans, c.buf.length ≤ 100000) (R : Nat → Prop) (hR : ∀ x ∈ S, R x) (hk : ¬ o.kind = 1 ∧ ¬ (o.kind = 7 ∨ o.kind = 8) ∧ ¬ o.kind = 6) (sb : Bool) (sch sv' : Int) (hs : Md.side o i = some ⟨sch, sb, sv'⟩) (hc : Md.chan r.chans sch = none) :
    Calls Try.prog 26 #[.agg #[vc, vw], .int .i64 gi, .agg (opV o va), .int .i64 i] w (RFirePost w (Md.fire st gi o i) r.waits.length R) := by
  obtain ⟨D, hD⟩ : ∃ D, Md.fire st gi o i = D := ⟨_, rfl⟩
  rw [hD]
  have HD := Lib.hid hD
  have HM := Lib.hid h
  have HR := Lib.hid hr
  have HRR := Lib.hid hR
  have HN := Lib.hid hn
  have HN1 := Lib.hid hn1
  have HN2 := Lib.hid hn2
  have HA := Lib.hid ha
  have HSL := Lib.hid h.lt
  have hle := h.1.le
  have hal := ha.le
  unfold maxLen at hle hal
  obtain ⟨ac, cc, rfl⟩ := h.1.shape
  obtain ⟨aw, cw, rfl⟩ := h.2.shape
  obtain ⟨aa, ca, rfl⟩ := ha.shape
  obtain ⟨w0, hw0⟩ : ∃ w0, ((((w.alloc (.cells #[.slice ac r.chans.length cc, .slice aw r.waits.length cw] 67)).alloc (.cells (opV o (.slice aa o.cases.length ca)) 33)).alloc (.cells #[.slice none 0 0, .slice none 0 0] 67)).alloc (.cells #[.int .i64 0, .int .i64 0, .int .i64 0, .bool false, .int .i64 0] 28)).alloc (.cells #[.int .i64 1, .int .i64 (-1), .int .i64 0, .bool true, .int .i64 0] 28) = w0 := ⟨_, rfl⟩
  have HB0 : Hid (FiA w (.slice ac r.chans.length cc) (.slice aw r.waits.length cw) (.slice aa o.cases.length ca) o ⟨1, -1, 0, true, 0⟩ w0) := Lib.hid (by
    subst hw0
    exact ⟨(((((Keeps.refl [] w).alloc _).alloc _).alloc _).alloc _).alloc _, ((((Blk.fresh w [.slice ac r.chans.length cc, .slice aw r.waits.length cw] _ _ rfl).alloc _).alloc _).alloc _).alloc _, (((Blk.fresh _ (opL o (.slice aa o.cases.length ca)) _ _ (by simp)).alloc _).alloc _).alloc _, ((Blk.fresh _ [.slice none 0 0, .slice none 0 0] _ _ (by simp)).alloc _).alloc _, (Blk.fresh _ z5 _ _ (by simp)).alloc _, Blk.fresh _ (resL ⟨1, -1, 0, true, 0⟩) _ _ (by simp)⟩)
  have t1 : (o.kind == 1) = false := by simp [hk.1]
  have t7 : (o.kind == 7) = false := by have := hk.2.1; simp; omega
  have t8k : (o.kind == 8) = false := by have := hk.2.1; simp; omega
  have t6 : (o.kind == 6) = false := by simp [hk.2.2]
  have HK : Hid (¬ o.kind = 1 ∧ ¬ (o.kind = 7 ∨ o.kind = 8) ∧ ¬ o.kind = 6) := Lib.hid hk
  clear hk
  have HSI := Lib.hid hs
  have HMC2 := Lib.hid hc
  clear hs hc
  clear h hr ha hn hn1 hn2 hD hR
  unfold opV at hw0
  have HW0 := Lib.hid hw0
  clear hw0
  unfold opV
  go_enter Try.func26, Try.ntmps26
  go_upto_region 2 with fail
  rw [HW0.out]
  clear HW0
  have hz := HB0.out.lt
  have HZ := Lib.hid hz
  have hq0 : w.heap.size < w0.heap.size := by omega
  have m0 : w0.cell? ⟨w.heap.size, 0, none⟩ = some (.slice ac r.chans.length cc) := HB0.out.2.1.cell 0
  have m1 : w0.cell? ⟨w.heap.size, 1, none⟩ = some (.slice aw r.waits.length cw) := HB0.out.2.1.cell 1
  have HWd : Hid (GV wtE 7 w0.drew (.slice aw r.waits.length cw) r.waits S) := Lib.hid ((HM.out.then HB0.out.1).2.then wtE_kept (Keeps.refl [] w0).drew)
  have HWe : Hid (GV wtE 7 (w0.alloc (.cells #[.slice none 0 0, .slice none 0 0] 67)).drew (.slice aw r.waits.length cw) r.waits S) := Lib.hid ((HM.out.then HB0.out.1).2.then wtE_kept (((Keeps.refl [] w0).alloc _).drew))
  have HQd : Hid (∀ wA SA vA, Keeps [] w0.drew wA → GV wtE 7 wA vA (keepsG gi r.waits) SA → (∀ x ∈ SA, x ∈ S ∨ w0.drew.heap.size ≤ x) → FiS w (.slice ac r.chans.length cc) (.slice aw r.waits.length cw) (.slice aa o.cases.length ca) o S (keepsG gi r.waits) (.pointer (some ⟨wA.heap.size, 0, none⟩)) (wA.alloc (.cells #[.slice ac r.chans.length cc, vA] 67))) := Lib.hid (by
    intro wA SA vA kA gA sA
    have kk : Keeps [] w0 (wA.alloc (.cells #[.slice ac r.chans.length cc, vA] 67)) := (((Keeps.refl [] w0).drew).then kA).alloc _
    have hzA := kA.size
    have e : w0.drew.heap.size = w0.heap.size := rfl
    refine ⟨wA.heap.size, vA, SA, rfl, HB0.out.then kk, by have := HZ.out; omega, Blk.fresh wA [.slice ac r.chans.length cc, vA] _ _ rfl, gA.then wtE_kept ((Keeps.refl [] wA).alloc _), fun x hx => ?_⟩
    have hl := gA.lt x hx
    rcases sA x hx with h | h
    · exact .inl h
    · exact .inr ⟨by have := HZ.out; omega, by omega⟩)
  have HQe : Hid (∀ wA SA vA, Keeps [] (w0.alloc (.cells #[.slice none 0 0, .slice none 0 0] 67)).drew wA → GV wtE 7 wA vA (keepsG gi r.waits) SA → (∀ x ∈ SA, x ∈ S ∨ (w0.alloc (.cells #[.slice none 0 0, .slice none 0 0] 67)).drew.heap.size ≤ x) → FiS w (.slice ac r.chans.length cc) (.slice aw r.waits.length cw) (.slice aa o.cases.length ca) o S (keepsG gi r.waits) (.pointer (some ⟨w0.heap.size, 0, none⟩)) ((wA.setCell ⟨w0.heap.size, 0, none⟩ (.slice ac r.chans.length cc)).setCell ⟨w0.heap.size, 1, none⟩ vA)) := Lib.hid (by
    intro wA SA vA kA gA sA
    have hb : Blk wA w0.heap.size [.slice none 0 0, .slice none 0 0] 67 := ((Blk.fresh w0 [.slice none 0 0, .slice none 0 0] _ _ rfl).drew).keep kA (by simp)
    have kf : Keeps [w0.heap.size] wA ((wA.setCell ⟨w0.heap.size, 0, none⟩ (.slice ac r.chans.length cc)).setCell ⟨w0.heap.size, 1, none⟩ vA) := ((Keeps.refl _ wA).setCell (by simp) _).setCell (by simp) _
    have kk : Keeps [w0.heap.size] w0 ((wA.setCell ⟨w0.heap.size, 0, none⟩ (.slice ac r.chans.length cc)).setCell ⟨w0.heap.size, 1, none⟩ vA) := ((((Keeps.refl [] w0).alloc _).drew).then kA).trans kf (fun x hx => .inr (by simp at hx; omega)) |>.mono (by simp)
    have hS : ∀ x ∈ SA, x ∈ S ∨ (w.heap.size + 5 ≤ x ∧ x ≠ w0.heap.size) := fun x hx => by
      rcases sA x hx with h | h
      · exact .inl h
      · exact .inr ⟨by have := HZ.out; simp at h; omega, by simp at h; omega⟩
    refine ⟨w0.heap.size, vA, SA, rfl, HB0.out.keep kk (fun x hx => by simp at hx; have := HZ.out; omega), HZ.out, (hb.set 0 (.slice ac r.chans.length cc)).set 1 vA, gA.keep wtE_kept kf (fun x hx hm => ?_), hS⟩
    simp only [List.mem_singleton] at hm
    subst hm
    rcases hS _ hx with h | h
    · have := HSL.out _ h; have := HZ.out; omega
    · exact h.2 rfl)
  have nb : ∀ wA : World, Keeps [] (w0.alloc (.cells #[.slice none 0 0, .slice none 0 0] 67)).drew wA → Blk wA w0.heap.size [.slice none 0 0, .slice none 0 0] 67 := fun wA kA => ((Blk.fresh w0 [.slice none 0 0, .slice none 0 0] _ _ rfl).drew).keep kA (by simp)
  have NB := Lib.hid nb
  have ma : ∀ wA : World, Keeps [] w0.drew wA → wA.cell? ⟨w.heap.size, 0, none⟩ = some (.slice ac r.chans.length cc) ∧ wA.cell? ⟨w.heap.size, 1, none⟩ = some (.slice aw r.waits.length cw) := fun wA kA => ⟨(HB0.out.2.1.drew.keep kA (by simp)).cell 0, (HB0.out.2.1.drew.keep kA (by simp)).cell 1⟩
  have MA := Lib.hid ma
  have mb : ∀ wA : World, Keeps [] (w0.alloc (.cells #[.slice none 0 0, .slice none 0 0] 67)).drew wA → wA.cell? ⟨w.heap.size, 0, none⟩ = some (.slice ac r.chans.length cc) ∧ wA.cell? ⟨w.heap.size, 1, none⟩ = some (.slice aw r.waits.length cw) := fun wA kA => ⟨(((HB0.out.2.1.alloc _).drew).keep kA (by simp)).cell 0, (((HB0.out.2.1.alloc _).drew).keep kA (by simp)).cell 1⟩
  have MB := Lib.hid mb
  clear hz nb ma mb
  go_cut [12] (FiS w (.slice ac r.chans.length cc) (.slice aw r.waits.length cw) (.slice aa o.cases.length ca) o S (keepsG gi r.waits))
  case first =>
    go_region_held3 (fun w' => w'.cell? ⟨w.heap.size, 0, none⟩ = some (.slice ac r.chans.length cc) ∧ w'.cell? ⟨w.heap.size, 1, none⟩ = some (.slice aw r.waits.length cw))
      (first | (with_reducible exact ⟨m0, m1⟩) | (with_reducible exact MM.out) | (with_reducible exact HF.out.s2) | go_keep)
      (first
        | (go_at_call 65; (with_reducible refine (ref20_without _ _ r.waits S gi HWd.out HN.out).mono ?_); rintro e wA ⟨vA, SA, rfl, gA, kA, sA⟩; obtain ⟨aA, cA, rfl⟩ := gA.shape; have MM := Lib.hid (MA.out wA kA); have HF := Lib.hid (HQd.out wA SA _ kA gA sA); clear gA kA sA)
        | (go_at_call 65; (with_reducible refine (ref20_without _ _ r.waits S gi HWe.out HN.out).mono ?_); rintro e wA ⟨vA, SA, rfl, gA, kA, sA⟩; obtain ⟨aA, cA, rfl⟩ := gA.shape; have MM := Lib.hid (MB.out wA kA); have HF := Lib.hid (HQe.out wA SA _ kA gA sA); have n0 := (NB.out wA kA).cell 0; have n1 := (NB.out wA kA).cell 1; have f0 := (NB.out wA kA).free 0; have f1 := (NB.out wA kA).free 1; (simp only [List.getElem?_cons_zero, List.getElem?_cons_succ] at n0 n1); clear gA kA sA)
        | fail)
    all_goals
      go_wp2_with fail
      go_meet
      exact HF.out
  case rest =>
    obtain ⟨b, vs, SW, rfl, hfa, hb5, hbs, hgw, hsw⟩ := hcut
    obtain ⟨sv, cv, rfl⟩ := hgw.shape
    have HU : Hid (FiU w (.slice ac r.chans.length cc) (.slice aw r.waits.length cw) (.slice aa o.cases.length ca) o ⟨1, -1, 0, true, 0⟩ b (.slice ac r.chans.length cc) (.slice sv (keepsG gi r.waits).length cv) (keepsG gi r.waits) SW wc) := Lib.hid ⟨hfa, hbs, hgw⟩
    have HB5 := Lib.hid hb5
    have HSW := Lib.hid hsw
    have e2 : ¬ b = w.heap.size + 1 + 1 := by omega
    have e3 : ¬ b = w.heap.size + 1 + 1 + 1 := by omega
    have e4 : ¬ b = w.heap.size + 1 + 1 + 1 + 1 := by omega
    have e5 : ¬ w.heap.size + 1 + 1 = b := by omega
    have e6 : ¬ w.heap.size + 1 + 1 + 1 = b := by omega
    have e7 : ¬ w.heap.size + 1 + 1 + 1 + 1 = b := by omega
    clear hfa hb5 hbs hgw hsw m0 m1 hq0
    have m0 := HU.out.1.2.1.cell 0
    have m1 := HU.out.1.2.1.cell 1
    obtain ⟨a0, a1, a2, a3, a4, a5⟩ := HU.out.1.2.2.1.op
    have n0 := HU.out.1.2.2.2.1.cell 0
    have n1 := HU.out.1.2.2.2.1.cell 1
    have f0 := HU.out.1.2.2.2.1.free 0
    have f1 := HU.out.1.2.2.2.1.free 1
    obtain ⟨⟨z0, z1, z2, z3, z4⟩, hzz⟩ := (show Blk _ _ (resL Md.noRes) _ from HU.out.1.2.2.2.2.1).res
    obtain ⟨⟨p0, p1, p2, p3, p4⟩, hpp⟩ := HU.out.1.2.2.2.2.2.res
    clear hzz hpp
    have s0 := HU.out.2.1.cell 0
    have s1 := HU.out.2.1.cell 1
    have fs := HU.out.2.1.free 0
    have y0 := HU.out.1.2.2.2.2.1.free 0
    have y1 := HU.out.1.2.2.2.2.1.free 1
    have y2 := HU.out.1.2.2.2.2.1.free 2
    have y3 := HU.out.1.2.2.2.2.1.free 3
    have y4 := HU.out.1.2.2.2.2.1.free 4
    have x1 := HU.out.1.2.2.2.2.2.free 1
    have x2 := HU.out.1.2.2.2.2.2.free 2
    have x3 := HU.out.1.2.2.2.2.2.free 3
    have x4 := HU.out.1.2.2.2.2.2.free 4
    simp only [List.getElem?_cons_zero, List.getElem?_cons_succ, Md.noRes] at m0 m1 n0 n1 s0 s1 z0 z1 z2 z3 z4 p0 p1 p2 p3 p4
    go_wp2_with fail
    refine (ref20_made _ _ _ r S o.ch (HM.out.then HU.out.1.1)).mono ?_
    obtain ⟨mc, hmc⟩ : ∃ mc, Md.chan r.chans o.ch = mc := ⟨_, rfl⟩
    rw [hmc]
    have HMC := Lib.hid hmc
    clear hmc
    rintro e w5 ⟨rfl, k5⟩
    have HV := Lib.hid (HU.out.then k5)
    clear k5 m0 m1 a0 a1 a2 a3 a4 a5 n0 n1 f0 f1 z0 z1 z2 z3 z4 p0 p1 p2 p3 p4 s0 s1 fs y0 y1 y2 y3 y4 x1 x2 x3 x4
    have m0 := HV.out.1.2.1.cell 0
    have m1 := HV.out.1.2.1.cell 1
    obtain ⟨a0, a1, a2, a3, a4, a5⟩ := HV.out.1.2.2.1.op
    have n0 := HV.out.1.2.2.2.1.cell 0
    have n1 := HV.out.1.2.2.2.1.cell 1
    have f0 := HV.out.1.2.2.2.1.free 0
    have f1 := HV.out.1.2.2.2.1.free 1
    obtain ⟨⟨z0, z1, z2, z3, z4⟩, hzz⟩ := (show Blk _ _ (resL Md.noRes) _ from HV.out.1.2.2.2.2.1).res
    obtain ⟨⟨p0, p1, p2, p3, p4⟩, hpp⟩ := HV.out.1.2.2.2.2.2.res
    clear hzz hpp
    have s0 := HV.out.2.1.cell 0
    have s1 := HV.out.2.1.cell 1
    have fs := HV.out.2.1.free 0
    have y0 := HV.out.1.2.2.2.2.1.free 0
    have y1 := HV.out.1.2.2.2.2.1.free 1
    have y2 := HV.out.1.2.2.2.2.1.free 2
    have y3 := HV.out.1.2.2.2.2.1.free 3
    have y4 := HV.out.1.2.2.2.2.1.free 4
    have x1 := HV.out.1.2.2.2.2.2.free 1
    have x2 := HV.out.1.2.2.2.2.2.free 2
    have x3 := HV.out.1.2.2.2.2.2.free 3
    have x4 := HV.out.1.2.2.2.2.2.free 4
    simp only [List.getElem?_cons_zero, List.getElem?_cons_succ, Md.noRes] at m0 m1 n0 n1 s0 s1 z0 z1 z2 z3 z4 p0 p1 p2 p3 p4
    go_upto_region 5 with fail
    go_wp2_with fail
    refine (ref20_side _ o _ UA i (HA.out.then caseE_kept HV.out.1.1)).mono ?_
    rintro e w6 ⟨rfl, k6⟩
    have HV6 := Lib.hid (HV.out.then k6)
    clear k6 m0 m1 a0 a1 a2 a3 a4 a5 n0 n1 f0 f1 z0 z1 z2 z3 z4 p0 p1 p2 p3 p4 s0 s1 fs y0 y1 y2 y3 y4 x1 x2 x3 x4
    rw [HSI.out]
    simp only [Option.getD_some, Option.getD_none, Option.isSome_some, Option.isSome_none, Md.noSide]
    unfold csV
    obtain ⟨w7, hw7⟩ : ∃ w7, w6.alloc (.cells #[.bool sb, .int .i64 sch, .int .i64 sv'] 131) = w7 := ⟨_, rfl⟩
    have HV7 := Lib.hid (HV6.out.then (hw7 ▸ (Keeps.refl [] w6).alloc _ : Keeps [] w6 w7))
    have HSB7 : Hid (Blk w7 w6.heap.size [.bool sb, .int .i64 sch, .int .i64 sv'] 131) := Lib.hid (hw7 ▸ Blk.fresh w6 [.bool sb, .int .i64 sch, .int .i64 sv'] _ _ rfl)
    have HZ6 : Hid (w.heap.size + 5 ≤ w6.heap.size) := Lib.hid HV6.out.1.lt
    clear HV6
    go_upto_region 28 with fail
    clear hw7
    have m0 := HV7.out.1.2.1.cell 0
    have m1 := HV7.out.1.2.1.cell 1
    obtain ⟨a0, a1, a2, a3, a4, a5⟩ := HV7.out.1.2.2.1.op
    have n0 := HV7.out.1.2.2.2.1.cell 0
    have n1 := HV7.out.1.2.2.2.1.cell 1
    have f0 := HV7.out.1.2.2.2.1.free 0
    have f1 := HV7.out.1.2.2.2.1.free 1
    obtain ⟨⟨z0, z1, z2, z3, z4⟩, hzz⟩ := (show Blk _ _ (resL Md.noRes) _ from HV7.out.1.2.2.2.2.1).res
    obtain ⟨⟨p0, p1, p2, p3, p4⟩, hpp⟩ := HV7.out.1.2.2.2.2.2.res
    clear hzz hpp
    have s0 := HV7.out.2.1.cell 0
    have s1 := HV7.out.2.1.cell 1
    have fs := HV7.out.2.1.free 0
    have y0 := HV7.out.1.2.2.2.2.1.free 0
    have y1 := HV7.out.1.2.2.2.2.1.free 1
    have y2 := HV7.out.1.2.2.2.2.1.free 2
    have y3 := HV7.out.1.2.2.2.2.1.free 3
    have y4 := HV7.out.1.2.2.2.2.1.free 4
    have x1 := HV7.out.1.2.2.2.2.2.free 1
    have x2 := HV7.out.1.2.2.2.2.2.free 2
    have x3 := HV7.out.1.2.2.2.2.2.free 3
    have x4 := HV7.out.1.2.2.2.2.2.free 4
    simp only [List.getElem?_cons_zero, List.getElem?_cons_succ, Md.noRes] at m0 m1 n0 n1 s0 s1 z0 z1 z2 z3 z4 p0 p1 p2 p3 p4
    obtain ⟨⟨q0, q1, q2⟩, hqq⟩ := Blk.three HSB7.out
    clear hqq
    have HE : Hid (D = (st, none)) := Lib.hid (by rw [← HD.out]; unfold Md.fire Md.fires Md.does; rw [if_neg HK.out.1, if_neg HK.out.2.1, if_neg HK.out.2.2, HSI.out]; simp only [HR.out.1]; rw [HMC2.out])
    go_wp2_with fail
    refine (ref20_made _ _ _ r S sch (HM.out.then HV7.out.1.1)).mono ?_
    rw [HMC2.out]
    simp only [Option.isSome_some, Option.isSome_none]
    rintro e w8 ⟨rfl, k8⟩
    have HV8 := Lib.hid (HV7.out.then k8)
    have HSB8 := Lib.hid (HSB7.out.keep k8 (by simp))
    clear k8 q0 q1 q2 m0 m1 a0 a1 a2 a3 a4 a5 n0 n1 f0 f1 z0 z1 z2 z3 z4 p0 p1 p2 p3 p4 s0 s1 fs y0 y1 y2 y3 y4 x1 x2 x3 x4
    have m0 := HV8.out.1.2.1.cell 0
    have m1 := HV8.out.1.2.1.cell 1
    obtain ⟨a0, a1, a2, a3, a4, a5⟩ := HV8.out.1.2.2.1.op
    have n0 := HV8.out.1.2.2.2.1.cell 0
    have n1 := HV8.out.1.2.2.2.1.cell 1
    have f0 := HV8.out.1.2.2.2.1.free 0
    have f1 := HV8.out.1.2.2.2.1.free 1
    obtain ⟨⟨z0, z1, z2, z3, z4⟩, hzz⟩ := (show Blk _ _ (resL Md.noRes) _ from HV8.out.1.2.2.2.2.1).res
    obtain ⟨⟨p0, p1, p2, p3, p4⟩, hpp⟩ := HV8.out.1.2.2.2.2.2.res
    clear hzz hpp
    have s0 := HV8.out.2.1.cell 0
    have s1 := HV8.out.2.1.cell 1
    have fs := HV8.out.2.1.free 0
    have y0 := HV8.out.1.2.2.2.2.1.free 0
    have y1 := HV8.out.1.2.2.2.2.1.free 1
    have y2 := HV8.out.1.2.2.2.2.1.free 2
    have y3 := HV8.out.1.2.2.2.2.1.free 3
    have y4 := HV8.out.1.2.2.2.2.1.free 4
    have x1 := HV8.out.1.2.2.2.2.2.free 1
    have x2 := HV8.out.1.2.2.2.2.2.free 2
    have x3 := HV8.out.1.2.2.2.2.2.free 3
    have x4 := HV8.out.1.2.2.2.2.2.free 4
    simp only [List.getElem?_cons_zero, List.getElem?_cons_succ, Md.noRes] at m0 m1 n0 n1 s0 s1 z0 z1 z2 z3 z4 p0 p1 p2 p3 p4
    obtain ⟨⟨q0, q1, q2⟩, hqq⟩ := Blk.three HSB8.out
    clear hqq
    go_wp2_with fail
    refine bodyPost_ret (v := .tuple #[.agg #[.slice ac r.chans.length cc, .slice aw r.waits.length cw], .agg #[.int .i64 0, .int .i64 0, .int .i64 0, .bool false, .int .i64 0], .bool false]) (by simp [results, Try.results26, go_sem, *]) rfl ?_
    exact fire_none HE.out HM.out HR.out HRR.out HV8.out (kc7 (by simp) (by simp) (by simp) (by simp) (by simp) (by simp) (by simp))
end Go.Proofs.Ytopkfhmdgheghaa
