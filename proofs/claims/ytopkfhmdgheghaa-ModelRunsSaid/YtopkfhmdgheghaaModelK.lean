/-
  Fire of package model: its contract.
  Conditions: rows of no more than 100000.
-/
import Derived.Test.YtopkfhmdgheghaaModelJ
namespace Go.Proofs.Ytopkfhmdgheghaa
open Go.RowKit
set_option linter.unusedVariables false
set_option linter.unusedSimpArgs false
set_option linter.unnecessarySimpa false

theorem fire_fin {S S1 : List Nat} {w w0 w1 w2 w3 W : World} {p : Value} {st : Md.St} {N : Nat} (K0 : Keeps [] w w0) (hsz : w.heap.size + 3 ≤ w0.heap.size) (k1 : Keeps S w0 w1) (s1 : ∀ x ∈ S1, x ∈ S ∨ w0.heap.size ≤ x) (k2 : Keeps [w.heap.size + 2] w1 w2) (k3 : Keeps S1 w2 w3)
    (h : Mo w3 p st N S1) (hS : ∀ x ∈ S, x < w.heap.size) (kW : Keeps [w.heap.size + 1] w3 W) : MoTo S w W p st N := by
  have hs : ∀ x ∈ S1, x ∈ S ∨ w.heap.size ≤ x := fun x hx => by
    rcases s1 x hx with h | h
    · exact .inl h
    · exact .inr (by omega)
  refine ⟨S1, h.keep kW (fun x hx => ?_), (((((K0.mono (by simp)).trans k1 (fun x hx => .inl hx)).trans k2 (by simp)).trans k3 hs).trans kW (by simp)), hs⟩
  rcases s1 x hx with h | h
  · have := hS x h; simp; omega
  · simp; omega
theorem MoAt.mono1 {w : World} {b bm : Nat} {vc : Value} {l : List Md.Ch} {ws : Int → Option Pn.Op} {N : Nat} {S T SW : List Nat} {Us : List (List Nat)} {f : Int → Option Value} {col : Nat → Nat} (h : MoAt w b bm vc ⟨l, ws⟩ N S T Us SW f col) : MoAt w b bm vc ⟨l, ws⟩ (N + 1) S T Us SW f col := h.more1

theorem does_none {l : List Md.Ch} {o : Pn.Op} {i : Int} (h : (Md.does l o i).2 = none) : (Md.does l o i).1 = l := by
  unfold Md.does at h ⊢
  repeat' split at h
  all_goals first | (cases h; done) | skip
  all_goals simp_all
  all_goals rw [if_neg (by omega)]

set_option maxRecDepth 100000 in
set_option maxHeartbeats 3200000 in
theorem model_fire (w : World) (p : Value) (st : Md.St) (N : Nat) (S : List Nat) (g : Int) (o : Pn.Op) (vc : Value) (U : List Nat) (i : Int) (h : Mo w p st N S) (hv : GV caseE 3 w vc o.cases U) (hN : N ≤ 100000) (hgw : wf64L g) :
    Calls Try.prog 11 #[p, .int .i64 g, .agg (opV o vc), .int .i64 i] w (DoPost S w p (Md.fire st g o i).1 (N + 1) (Md.fire st g o i).2) := by
  have HLT := Lib.hid h.lt
  have HMO := Lib.hid h
  obtain ⟨b, _, _, _, _, _, _, _, rfl, _⟩ := h
  obtain ⟨D, hD⟩ : ∃ D, Md.fire st g o i = D := ⟨_, rfl⟩
  rw [hD]
  have HD := Lib.hid hD
  clear hD
  obtain ⟨w0, hw0⟩ : ∃ w0, ((w.alloc (.cells (opV o vc) 33)).alloc (.cells #[.int .i64 0, .int .i64 0, .int .i64 0, .bool false, .int .i64 0] 28)).alloc (.cells #[.int .i64 0, .int .i64 0, .int .i64 0, .bool false, .int .i64 0] 28) = w0 := ⟨_, rfl⟩
  have K0 : Hid (Keeps [] w w0) := Lib.hid (hw0 ▸ (((Keeps.refl [] w).alloc _).alloc _).alloc _)
  have HSZ : Hid (w.heap.size + 3 ≤ w0.heap.size) := Lib.hid (by rw [← hw0]; simp)
  have HZ8 : Hid (Blk w0 (w.heap.size + 1) ZR 28) := Lib.hid (hw0 ▸ (Blk.fresh _ ZR _ _ (by simp)).alloc _)
  have HZ10 : Hid (Blk w0 (w.heap.size + 2) ZR 28) := Lib.hid (hw0 ▸ Blk.fresh _ ZR _ _ (by simp))
  have HOB : Hid (Blk w0 w.heap.size [.int .i64 o.kind, .int .i64 o.ch, .int .i64 o.n, .int .i64 o.v, vc, .bool o.els] 33) := Lib.hid (hw0 ▸ ((Blk.fresh w [.int .i64 o.kind, .int .i64 o.ch, .int .i64 o.n, .int .i64 o.v, vc, .bool o.els] _ _ rfl).alloc _).alloc _)
  have HV := Lib.hid (hv.then caseE_kept K0.out)
  have HM0 := Lib.hid (HMO.out.then K0.out)
  obtain ⟨av, cv, rfl⟩ := hv.shape
  obtain ⟨⟨b0, b1', b2, b3, b4, b5⟩, _⟩ := Blk.six HOB.out
  clear hv
  unfold opV at hw0
  unfold opV
  go_enter Try.func11, Try.ntmps11
  by_cases hk : o.kind = 1
  · have hk1 : (o.kind == 1) = true := by simp [hk]
    have hk7 : (o.kind == 7) = false := by simp [hk]
    have hk8 : (o.kind == 8) = false := by simp [hk]
    have hk6 : (o.kind == 6) = false := by simp [hk]
    obtain ⟨⟨rc, rcs, rv, ro, rn⟩, hr⟩ : ∃ r : Md.Res, (Md.makes st.chans o.n).2 = r := ⟨_, rfl⟩
    have HE : Hid (Md.fire st g o i = (⟨(Md.makes st.chans o.n).1, Md.drops st.waits g⟩, some ⟨rc, rcs, rv, ro, rn⟩)) := Lib.hid (by unfold Md.fire Md.fires; simp [hk, hr])
    have HRR := Lib.hid hr
    clear hk hr
    go_wp2_with fail
    refine (model_makes _ _ st N S o.n HM0.out).mono ?_
    rw [HRR.out]
    rintro e w1 ⟨rfl, S1, hM1, kS1, sS1⟩
    unfold resV
    clear hw0 b0 b1' b2 b3 b4 b5
    obtain ⟨b1, bm1, vh1, T1, Us1, SW1, f1, col1, hpe, hM1⟩ := hM1
    obtain rfl : b = b1 := by simpa using hpe
    have hz10 := HZ10.out.keep kS1 (fun hm => by have := HLT.out _ hm; omega)
    have hz8 := HZ8.out.keep kS1 (fun hm => by have := HLT.out _ hm; omega)
    unfold ZR at hz10
    obtain ⟨⟨d0, d1, d2, d3, d4⟩, e0, e1, e2, e3, e4⟩ := Blk.res5 hz10
    obtain ⟨w2, hw2⟩ : ∃ w2, (((((w1.setCell ⟨w.heap.size + 2, 0, none⟩ (.int .i64 rc)).setCell ⟨w.heap.size + 2, 1, none⟩ (.int .i64 rcs)).setCell ⟨w.heap.size + 2, 2, none⟩ (.int .i64 rv)).setCell ⟨w.heap.size + 2, 3, none⟩ (.bool ro)).setCell ⟨w.heap.size + 2, 4, none⟩ (.int .i64 rn)) = w2 := ⟨_, rfl⟩
    have K12 : Hid (Keeps [w.heap.size + 2] w1 w2) := Lib.hid (by rw [← hw2]; exact ((((((Keeps.refl [w.heap.size + 2] w1).setCell (p := ⟨w.heap.size + 2, 0, none⟩) (by simp) (.int .i64 rc)).setCell (p := ⟨w.heap.size + 2, 1, none⟩) (by simp) (.int .i64 rcs)).setCell (p := ⟨w.heap.size + 2, 2, none⟩) (by simp) (.int .i64 rv)).setCell (p := ⟨w.heap.size + 2, 3, none⟩) (by simp) (.bool ro)).setCell (p := ⟨w.heap.size + 2, 4, none⟩) (by simp) (.int .i64 rn)))
    have hr2 : Blk w2 (w.heap.size + 2) [.int .i64 rc, .int .i64 rcs, .int .i64 rv, .bool ro, .int .i64 rn] 28 := by
      rw [← hw2]
      have := ((((hz10.set 0 (.int .i64 rc)).set 1 (.int .i64 rcs)).set 2 (.int .i64 rv)).set 3 (.bool ro)).set 4 (.int .i64 rn)
      simpa only [List.set_cons_succ, List.set_cons_zero] using this
    have hS1 : ∀ x ∈ S1, x ≠ w.heap.size + 2 ∧ x ≠ w.heap.size + 1 := fun x hx => by
      rcases sS1 x hx with h | h
      · have := HLT.out x h; omega
      · have := HSZ.out; omega
    have hM2 := hM1.keep K12.out (fun x hx => by simp; exact (hS1 x hx).1)
    have HR2 := Lib.hid hr2
    have HZ82 := Lib.hid (hz8.keep K12.out (by simp))
    have HM2 := Lib.hid hM2
    have HK1 := Lib.hid kS1
    have HSS1 := Lib.hid sS1
    have HS1 := Lib.hid hS1
    have m1 : w2.cell? ⟨b, 1, none⟩ = some (.map (some bm1)) := hM2.cells.2.1
    clear hM1 hz10 hz8 hr2 hM2 kS1 sS1 hS1 hpe
    go_wp2_with (at_delete; go_must (refine wp_mapDel (f := f1) Try.underlying3 Try.underlying100 hgw HM2.out.map ?_))
    intro w3 m3 k3
    have hbm : w.heap.size + 2 ≠ bm1 ∧ w.heap.size + 1 ≠ bm1 := ⟨fun e => (HS1.out bm1 HM2.out.sm).1 e.symm, fun e => (HS1.out bm1 HM2.out.sm).2 e.symm⟩
    have HR3 := Lib.hid (HR2.out.keep k3 (by simp; exact hbm.1))
    have HZ83 := Lib.hid (HZ82.out.keep k3 (by simp; exact hbm.2))
    obtain ⟨hM3, kS3⟩ := HM2.out.drop g m3 k3
    have HM3 := Lib.hid hM3
    have HK3 := Lib.hid kS3
    obtain ⟨⟨r0, r1, r2, r3, r4⟩, _⟩ := Blk.res5 HR3.out
    clear m3 k3 hbm hM3 kS3 hw2 d0 d1 d2 d3 d4 e0 e1 e2 e3 e4
    have hz := HZ83.out
    try unfold ZR at hz
    obtain ⟨⟨d0, d1, d2, d3, d4⟩, e0, e1, e2, e3, e4⟩ := Blk.res5 hz
    have hzz := ((((hz.set 0 (.int .i64 rc)).set 1 (.int .i64 rcs)).set 2 (.int .i64 rv)).set 3 (.bool ro)).set 4 (.int .i64 rn)
    simp only [List.set_cons_succ, List.set_cons_zero] at hzz
    have HZZ := Lib.hid hzz
    have KW := Lib.hid ((((((Keeps.refl [w.heap.size + 1] (w3)).setCell (p := ⟨w.heap.size + 1, 0, none⟩) (by simp) (.int .i64 rc)).setCell (p := ⟨w.heap.size + 1, 1, none⟩) (by simp) (.int .i64 rcs)).setCell (p := ⟨w.heap.size + 1, 2, none⟩) (by simp) (.int .i64 rv)).setCell (p := ⟨w.heap.size + 1, 3, none⟩) (by simp) (.bool ro)).setCell (p := ⟨w.heap.size + 1, 4, none⟩) (by simp) (.int .i64 rn))
    clear hz hzz
    go_wp2_with fail
    obtain ⟨⟨z0, z1, z2, z3, z4⟩, _⟩ := Blk.res5 HZZ.out
    refine bodyPost_ret (v := .tuple #[.agg #[.int .i64 rc, .int .i64 rcs, .int .i64 rv, .bool ro, .int .i64 rn], .bool true]) (by simp [results, Try.results11, go_sem, z0, z1, z2, z3, z4]) rfl ?_
    exact do_some ⟨rc, rcs, rv, ro, rn⟩ (by rw [← HD.out, HE.out]) (by rw [← HD.out, HE.out]) (fire_fin K0.out HSZ.out HK1.out HSS1.out K12.out HK3.out ⟨b, bm1, _, _, _, _, _, _, rfl, HM3.out.mono1⟩ HLT.out KW.out)
  by_cases hk : o.kind = 7
  · have hk1 : (o.kind == 1) = false := by simp [hk]
    have hk7 : (o.kind == 7) = true := by simp [hk]
    have hk8 : (o.kind == 8) = false := by simp [hk]
    have hk6 : (o.kind == 6) = false := by simp [hk]
    obtain ⟨⟨rc, rcs, rv, ro, rn⟩, hr⟩ : ∃ r : Md.Res, Md.looks st.chans o = r := ⟨_, rfl⟩
    have HE : Hid (Md.fire st g o i = (⟨st.chans, Md.drops st.waits g⟩, some ⟨rc, rcs, rv, ro, rn⟩)) := Lib.hid (by unfold Md.fire Md.fires; simp [hk, hr])
    have HRR := Lib.hid hr
    clear hk hr
    go_wp2_with fail
    refine (model_looks _ _ st N S o _ HM0.out).mono ?_
    rw [HRR.out]
    rintro e w1 ⟨rfl, S1, hM1, kS1, sS1⟩
    unfold resV
    clear hw0 b0 b1' b2 b3 b4 b5
    obtain ⟨b1, bm1, vh1, T1, Us1, SW1, f1, col1, hpe, hM1⟩ := hM1
    obtain rfl : b = b1 := by simpa using hpe
    have hz10 := HZ10.out.keep kS1 (fun hm => by have := HLT.out _ hm; omega)
    have hz8 := HZ8.out.keep kS1 (fun hm => by have := HLT.out _ hm; omega)
    unfold ZR at hz10
    obtain ⟨⟨d0, d1, d2, d3, d4⟩, e0, e1, e2, e3, e4⟩ := Blk.res5 hz10
    obtain ⟨w2, hw2⟩ : ∃ w2, (((((w1.setCell ⟨w.heap.size + 2, 0, none⟩ (.int .i64 rc)).setCell ⟨w.heap.size + 2, 1, none⟩ (.int .i64 rcs)).setCell ⟨w.heap.size + 2, 2, none⟩ (.int .i64 rv)).setCell ⟨w.heap.size + 2, 3, none⟩ (.bool ro)).setCell ⟨w.heap.size + 2, 4, none⟩ (.int .i64 rn)) = w2 := ⟨_, rfl⟩
    have K12 : Hid (Keeps [w.heap.size + 2] w1 w2) := Lib.hid (by rw [← hw2]; exact ((((((Keeps.refl [w.heap.size + 2] w1).setCell (p := ⟨w.heap.size + 2, 0, none⟩) (by simp) (.int .i64 rc)).setCell (p := ⟨w.heap.size + 2, 1, none⟩) (by simp) (.int .i64 rcs)).setCell (p := ⟨w.heap.size + 2, 2, none⟩) (by simp) (.int .i64 rv)).setCell (p := ⟨w.heap.size + 2, 3, none⟩) (by simp) (.bool ro)).setCell (p := ⟨w.heap.size + 2, 4, none⟩) (by simp) (.int .i64 rn)))
    have hr2 : Blk w2 (w.heap.size + 2) [.int .i64 rc, .int .i64 rcs, .int .i64 rv, .bool ro, .int .i64 rn] 28 := by
      rw [← hw2]
      have := ((((hz10.set 0 (.int .i64 rc)).set 1 (.int .i64 rcs)).set 2 (.int .i64 rv)).set 3 (.bool ro)).set 4 (.int .i64 rn)
      simpa only [List.set_cons_succ, List.set_cons_zero] using this
    have hS1 : ∀ x ∈ S1, x ≠ w.heap.size + 2 ∧ x ≠ w.heap.size + 1 := fun x hx => by
      rcases sS1 x hx with h | h
      · have := HLT.out x h; omega
      · have := HSZ.out; omega
    have hM2 := hM1.keep K12.out (fun x hx => by simp; exact (hS1 x hx).1)
    have HR2 := Lib.hid hr2
    have HZ82 := Lib.hid (hz8.keep K12.out (by simp))
    have HM2 := Lib.hid hM2
    have HK1 := Lib.hid kS1
    have HSS1 := Lib.hid sS1
    have HS1 := Lib.hid hS1
    have m1 : w2.cell? ⟨b, 1, none⟩ = some (.map (some bm1)) := hM2.cells.2.1
    clear hM1 hz10 hz8 hr2 hM2 kS1 sS1 hS1 hpe
    go_wp2_with (at_delete; go_must (refine wp_mapDel (f := f1) Try.underlying3 Try.underlying100 hgw HM2.out.map ?_))
    intro w3 m3 k3
    have hbm : w.heap.size + 2 ≠ bm1 ∧ w.heap.size + 1 ≠ bm1 := ⟨fun e => (HS1.out bm1 HM2.out.sm).1 e.symm, fun e => (HS1.out bm1 HM2.out.sm).2 e.symm⟩
    have HR3 := Lib.hid (HR2.out.keep k3 (by simp; exact hbm.1))
    have HZ83 := Lib.hid (HZ82.out.keep k3 (by simp; exact hbm.2))
    obtain ⟨hM3, kS3⟩ := HM2.out.drop g m3 k3
    have HM3 := Lib.hid hM3
    have HK3 := Lib.hid kS3
    obtain ⟨⟨r0, r1, r2, r3, r4⟩, _⟩ := Blk.res5 HR3.out
    clear m3 k3 hbm hM3 kS3 hw2 d0 d1 d2 d3 d4 e0 e1 e2 e3 e4
    have hz := HZ83.out
    try unfold ZR at hz
    obtain ⟨⟨d0, d1, d2, d3, d4⟩, e0, e1, e2, e3, e4⟩ := Blk.res5 hz
    have hzz := ((((hz.set 0 (.int .i64 rc)).set 1 (.int .i64 rcs)).set 2 (.int .i64 rv)).set 3 (.bool ro)).set 4 (.int .i64 rn)
    simp only [List.set_cons_succ, List.set_cons_zero] at hzz
    have HZZ := Lib.hid hzz
    have KW := Lib.hid ((((((Keeps.refl [w.heap.size + 1] (w3)).setCell (p := ⟨w.heap.size + 1, 0, none⟩) (by simp) (.int .i64 rc)).setCell (p := ⟨w.heap.size + 1, 1, none⟩) (by simp) (.int .i64 rcs)).setCell (p := ⟨w.heap.size + 1, 2, none⟩) (by simp) (.int .i64 rv)).setCell (p := ⟨w.heap.size + 1, 3, none⟩) (by simp) (.bool ro)).setCell (p := ⟨w.heap.size + 1, 4, none⟩) (by simp) (.int .i64 rn))
    clear hz hzz
    go_wp2_with fail
    obtain ⟨⟨z0, z1, z2, z3, z4⟩, _⟩ := Blk.res5 HZZ.out
    refine bodyPost_ret (v := .tuple #[.agg #[.int .i64 rc, .int .i64 rcs, .int .i64 rv, .bool ro, .int .i64 rn], .bool true]) (by simp [results, Try.results11, go_sem, z0, z1, z2, z3, z4]) rfl ?_
    exact do_some ⟨rc, rcs, rv, ro, rn⟩ (by rw [← HD.out, HE.out]) (by rw [← HD.out, HE.out]) (fire_fin K0.out HSZ.out HK1.out HSS1.out K12.out HK3.out ⟨b, bm1, _, _, _, _, _, _, rfl, HM3.out.mono1⟩ HLT.out KW.out)
  by_cases hk : o.kind = 8
  · have hk1 : (o.kind == 1) = false := by simp [hk]
    have hk7 : (o.kind == 7) = false := by simp [hk]
    have hk8 : (o.kind == 8) = true := by simp [hk]
    have hk6 : (o.kind == 6) = false := by simp [hk]
    obtain ⟨⟨rc, rcs, rv, ro, rn⟩, hr⟩ : ∃ r : Md.Res, Md.looks st.chans o = r := ⟨_, rfl⟩
    have HE : Hid (Md.fire st g o i = (⟨st.chans, Md.drops st.waits g⟩, some ⟨rc, rcs, rv, ro, rn⟩)) := Lib.hid (by unfold Md.fire Md.fires; simp [hk, hr])
    have HRR := Lib.hid hr
    clear hk hr
    go_wp2_with fail
    refine (model_looks _ _ st N S o _ HM0.out).mono ?_
    rw [HRR.out]
    rintro e w1 ⟨rfl, S1, hM1, kS1, sS1⟩
    unfold resV
    clear hw0 b0 b1' b2 b3 b4 b5
    obtain ⟨b1, bm1, vh1, T1, Us1, SW1, f1, col1, hpe, hM1⟩ := hM1
    obtain rfl : b = b1 := by simpa using hpe
    have hz10 := HZ10.out.keep kS1 (fun hm => by have := HLT.out _ hm; omega)
    have hz8 := HZ8.out.keep kS1 (fun hm => by have := HLT.out _ hm; omega)
    unfold ZR at hz10
    obtain ⟨⟨d0, d1, d2, d3, d4⟩, e0, e1, e2, e3, e4⟩ := Blk.res5 hz10
    obtain ⟨w2, hw2⟩ : ∃ w2, (((((w1.setCell ⟨w.heap.size + 2, 0, none⟩ (.int .i64 rc)).setCell ⟨w.heap.size + 2, 1, none⟩ (.int .i64 rcs)).setCell ⟨w.heap.size + 2, 2, none⟩ (.int .i64 rv)).setCell ⟨w.heap.size + 2, 3, none⟩ (.bool ro)).setCell ⟨w.heap.size + 2, 4, none⟩ (.int .i64 rn)) = w2 := ⟨_, rfl⟩
    have K12 : Hid (Keeps [w.heap.size + 2] w1 w2) := Lib.hid (by rw [← hw2]; exact ((((((Keeps.refl [w.heap.size + 2] w1).setCell (p := ⟨w.heap.size + 2, 0, none⟩) (by simp) (.int .i64 rc)).setCell (p := ⟨w.heap.size + 2, 1, none⟩) (by simp) (.int .i64 rcs)).setCell (p := ⟨w.heap.size + 2, 2, none⟩) (by simp) (.int .i64 rv)).setCell (p := ⟨w.heap.size + 2, 3, none⟩) (by simp) (.bool ro)).setCell (p := ⟨w.heap.size + 2, 4, none⟩) (by simp) (.int .i64 rn)))
    have hr2 : Blk w2 (w.heap.size + 2) [.int .i64 rc, .int .i64 rcs, .int .i64 rv, .bool ro, .int .i64 rn] 28 := by
      rw [← hw2]
      have := ((((hz10.set 0 (.int .i64 rc)).set 1 (.int .i64 rcs)).set 2 (.int .i64 rv)).set 3 (.bool ro)).set 4 (.int .i64 rn)
      simpa only [List.set_cons_succ, List.set_cons_zero] using this
    have hS1 : ∀ x ∈ S1, x ≠ w.heap.size + 2 ∧ x ≠ w.heap.size + 1 := fun x hx => by
      rcases sS1 x hx with h | h
      · have := HLT.out x h; omega
      · have := HSZ.out; omega
    have hM2 := hM1.keep K12.out (fun x hx => by simp; exact (hS1 x hx).1)
    have HR2 := Lib.hid hr2
    have HZ82 := Lib.hid (hz8.keep K12.out (by simp))
    have HM2 := Lib.hid hM2
    have HK1 := Lib.hid kS1
    have HSS1 := Lib.hid sS1
    have HS1 := Lib.hid hS1
    have m1 : w2.cell? ⟨b, 1, none⟩ = some (.map (some bm1)) := hM2.cells.2.1
    clear hM1 hz10 hz8 hr2 hM2 kS1 sS1 hS1 hpe
    go_wp2_with (at_delete; go_must (refine wp_mapDel (f := f1) Try.underlying3 Try.underlying100 hgw HM2.out.map ?_))
    intro w3 m3 k3
    have hbm : w.heap.size + 2 ≠ bm1 ∧ w.heap.size + 1 ≠ bm1 := ⟨fun e => (HS1.out bm1 HM2.out.sm).1 e.symm, fun e => (HS1.out bm1 HM2.out.sm).2 e.symm⟩
    have HR3 := Lib.hid (HR2.out.keep k3 (by simp; exact hbm.1))
    have HZ83 := Lib.hid (HZ82.out.keep k3 (by simp; exact hbm.2))
    obtain ⟨hM3, kS3⟩ := HM2.out.drop g m3 k3
    have HM3 := Lib.hid hM3
    have HK3 := Lib.hid kS3
    obtain ⟨⟨r0, r1, r2, r3, r4⟩, _⟩ := Blk.res5 HR3.out
    clear m3 k3 hbm hM3 kS3 hw2 d0 d1 d2 d3 d4 e0 e1 e2 e3 e4
    have hz := HZ83.out
    try unfold ZR at hz
    obtain ⟨⟨d0, d1, d2, d3, d4⟩, e0, e1, e2, e3, e4⟩ := Blk.res5 hz
    have hzz := ((((hz.set 0 (.int .i64 rc)).set 1 (.int .i64 rcs)).set 2 (.int .i64 rv)).set 3 (.bool ro)).set 4 (.int .i64 rn)
    simp only [List.set_cons_succ, List.set_cons_zero] at hzz
    have HZZ := Lib.hid hzz
    have KW := Lib.hid ((((((Keeps.refl [w.heap.size + 1] (w3)).setCell (p := ⟨w.heap.size + 1, 0, none⟩) (by simp) (.int .i64 rc)).setCell (p := ⟨w.heap.size + 1, 1, none⟩) (by simp) (.int .i64 rcs)).setCell (p := ⟨w.heap.size + 1, 2, none⟩) (by simp) (.int .i64 rv)).setCell (p := ⟨w.heap.size + 1, 3, none⟩) (by simp) (.bool ro)).setCell (p := ⟨w.heap.size + 1, 4, none⟩) (by simp) (.int .i64 rn))
    clear hz hzz
    go_wp2_with fail
    obtain ⟨⟨z0, z1, z2, z3, z4⟩, _⟩ := Blk.res5 HZZ.out
    refine bodyPost_ret (v := .tuple #[.agg #[.int .i64 rc, .int .i64 rcs, .int .i64 rv, .bool ro, .int .i64 rn], .bool true]) (by simp [results, Try.results11, go_sem, z0, z1, z2, z3, z4]) rfl ?_
    exact do_some ⟨rc, rcs, rv, ro, rn⟩ (by rw [← HD.out, HE.out]) (by rw [← HD.out, HE.out]) (fire_fin K0.out HSZ.out HK1.out HSS1.out K12.out HK3.out ⟨b, bm1, _, _, _, _, _, _, rfl, HM3.out.mono1⟩ HLT.out KW.out)
  by_cases hk : o.kind = 6
  · have hk1 : (o.kind == 1) = false := by simp [hk]
    have hk7 : (o.kind == 7) = false := by simp [hk]
    have hk8 : (o.kind == 8) = false := by simp [hk]
    have hk6 : (o.kind == 6) = true := by simp [hk]
    obtain ⟨⟨rc, rcs, rv, ro, rn⟩, hr⟩ : ∃ r : Md.Res, (Md.closes st.chans o.ch).2 = r := ⟨_, rfl⟩
    have HE : Hid (Md.fire st g o i = (⟨(Md.closes st.chans o.ch).1, Md.drops st.waits g⟩, some ⟨rc, rcs, rv, ro, rn⟩)) := Lib.hid (by unfold Md.fire Md.fires; simp [hk, hr])
    have HRR := Lib.hid hr
    clear hk hr
    go_wp2_with fail
    refine (model_closes _ _ st N S o.ch HM0.out).mono ?_
    rw [HRR.out]
    rintro e w1 ⟨rfl, S1, hM1, kS1, sS1⟩
    unfold resV
    clear hw0 b0 b1' b2 b3 b4 b5
    obtain ⟨b1, bm1, vh1, T1, Us1, SW1, f1, col1, hpe, hM1⟩ := hM1
    obtain rfl : b = b1 := by simpa using hpe
    have hz10 := HZ10.out.keep kS1 (fun hm => by have := HLT.out _ hm; omega)
    have hz8 := HZ8.out.keep kS1 (fun hm => by have := HLT.out _ hm; omega)
    unfold ZR at hz10
    obtain ⟨⟨d0, d1, d2, d3, d4⟩, e0, e1, e2, e3, e4⟩ := Blk.res5 hz10
    obtain ⟨w2, hw2⟩ : ∃ w2, (((((w1.setCell ⟨w.heap.size + 2, 0, none⟩ (.int .i64 rc)).setCell ⟨w.heap.size + 2, 1, none⟩ (.int .i64 rcs)).setCell ⟨w.heap.size + 2, 2, none⟩ (.int .i64 rv)).setCell ⟨w.heap.size + 2, 3, none⟩ (.bool ro)).setCell ⟨w.heap.size + 2, 4, none⟩ (.int .i64 rn)) = w2 := ⟨_, rfl⟩
    have K12 : Hid (Keeps [w.heap.size + 2] w1 w2) := Lib.hid (by rw [← hw2]; exact ((((((Keeps.refl [w.heap.size + 2] w1).setCell (p := ⟨w.heap.size + 2, 0, none⟩) (by simp) (.int .i64 rc)).setCell (p := ⟨w.heap.size + 2, 1, none⟩) (by simp) (.int .i64 rcs)).setCell (p := ⟨w.heap.size + 2, 2, none⟩) (by simp) (.int .i64 rv)).setCell (p := ⟨w.heap.size + 2, 3, none⟩) (by simp) (.bool ro)).setCell (p := ⟨w.heap.size + 2, 4, none⟩) (by simp) (.int .i64 rn)))
    have hr2 : Blk w2 (w.heap.size + 2) [.int .i64 rc, .int .i64 rcs, .int .i64 rv, .bool ro, .int .i64 rn] 28 := by
      rw [← hw2]
      have := ((((hz10.set 0 (.int .i64 rc)).set 1 (.int .i64 rcs)).set 2 (.int .i64 rv)).set 3 (.bool ro)).set 4 (.int .i64 rn)
      simpa only [List.set_cons_succ, List.set_cons_zero] using this
    have hS1 : ∀ x ∈ S1, x ≠ w.heap.size + 2 ∧ x ≠ w.heap.size + 1 := fun x hx => by
      rcases sS1 x hx with h | h
      · have := HLT.out x h; omega
      · have := HSZ.out; omega
    have hM2 := hM1.keep K12.out (fun x hx => by simp; exact (hS1 x hx).1)
    have HR2 := Lib.hid hr2
    have HZ82 := Lib.hid (hz8.keep K12.out (by simp))
    have HM2 := Lib.hid hM2
    have HK1 := Lib.hid kS1
    have HSS1 := Lib.hid sS1
    have HS1 := Lib.hid hS1
    have m1 : w2.cell? ⟨b, 1, none⟩ = some (.map (some bm1)) := hM2.cells.2.1
    clear hM1 hz10 hz8 hr2 hM2 kS1 sS1 hS1 hpe
    go_wp2_with (at_delete; go_must (refine wp_mapDel (f := f1) Try.underlying3 Try.underlying100 hgw HM2.out.map ?_))
    intro w3 m3 k3
    have hbm : w.heap.size + 2 ≠ bm1 ∧ w.heap.size + 1 ≠ bm1 := ⟨fun e => (HS1.out bm1 HM2.out.sm).1 e.symm, fun e => (HS1.out bm1 HM2.out.sm).2 e.symm⟩
    have HR3 := Lib.hid (HR2.out.keep k3 (by simp; exact hbm.1))
    have HZ83 := Lib.hid (HZ82.out.keep k3 (by simp; exact hbm.2))
    obtain ⟨hM3, kS3⟩ := HM2.out.drop g m3 k3
    have HM3 := Lib.hid hM3
    have HK3 := Lib.hid kS3
    obtain ⟨⟨r0, r1, r2, r3, r4⟩, _⟩ := Blk.res5 HR3.out
    clear m3 k3 hbm hM3 kS3 hw2 d0 d1 d2 d3 d4 e0 e1 e2 e3 e4
    have hz := HZ83.out
    try unfold ZR at hz
    obtain ⟨⟨d0, d1, d2, d3, d4⟩, e0, e1, e2, e3, e4⟩ := Blk.res5 hz
    have hzz := ((((hz.set 0 (.int .i64 rc)).set 1 (.int .i64 rcs)).set 2 (.int .i64 rv)).set 3 (.bool ro)).set 4 (.int .i64 rn)
    simp only [List.set_cons_succ, List.set_cons_zero] at hzz
    have HZZ := Lib.hid hzz
    have KW := Lib.hid ((((((Keeps.refl [w.heap.size + 1] (w3)).setCell (p := ⟨w.heap.size + 1, 0, none⟩) (by simp) (.int .i64 rc)).setCell (p := ⟨w.heap.size + 1, 1, none⟩) (by simp) (.int .i64 rcs)).setCell (p := ⟨w.heap.size + 1, 2, none⟩) (by simp) (.int .i64 rv)).setCell (p := ⟨w.heap.size + 1, 3, none⟩) (by simp) (.bool ro)).setCell (p := ⟨w.heap.size + 1, 4, none⟩) (by simp) (.int .i64 rn))
    clear hz hzz
    go_wp2_with fail
    obtain ⟨⟨z0, z1, z2, z3, z4⟩, _⟩ := Blk.res5 HZZ.out
    refine bodyPost_ret (v := .tuple #[.agg #[.int .i64 rc, .int .i64 rcs, .int .i64 rv, .bool ro, .int .i64 rn], .bool true]) (by simp [results, Try.results11, go_sem, z0, z1, z2, z3, z4]) rfl ?_
    exact do_some ⟨rc, rcs, rv, ro, rn⟩ (by rw [← HD.out, HE.out]) (by rw [← HD.out, HE.out]) (fire_fin K0.out HSZ.out HK1.out HSS1.out K12.out HK3.out ⟨b, bm1, _, _, _, _, _, _, rfl, HM3.out.mono1⟩ HLT.out KW.out)
  have hk1 : (o.kind == 1) = false := by simp [*]
  have hk7 : (o.kind == 7) = false := by simp [*]
  have hk8 : (o.kind == 8) = false := by simp [*]
  have hk6 : (o.kind == 6) = false := by simp [*]
  have hfs : Md.fires st.chans o i = Md.does st.chans o i := by unfold Md.fires; simp [*]
  obtain ⟨⟨l', r'⟩, hr⟩ : ∃ x, Md.does st.chans o i = x := ⟨_, rfl⟩
  cases r' with
  | none =>
    have HE : Hid (Md.fire st g o i = (st, none)) := Lib.hid (by unfold Md.fire; rw [hfs, hr])
    have HL : Hid (l' = st.chans) := Lib.hid (by have := does_none (l := st.chans) (o := o) (i := i); rw [hr] at this; exact this rfl)
    have HRR := Lib.hid hr
    clear hr hfs
    go_wp2_with fail
    refine (model_side _ _ st N S o _ U i HM0.out HV.out hN).mono ?_
    rw [HRR.out]
    rintro e w1 ⟨rfl, S1, hM1, kS1, sS1⟩
    unfold optV resV Md.noRes
    simp only [Option.getD_none, Option.isSome_none]
    clear hw0 b0 b1' b2 b3 b4 b5
    obtain ⟨b1, bm1, vh1, T1, Us1, SW1, f1, col1, hpe, hM1⟩ := hM1
    obtain rfl : b = b1 := by simpa using hpe
    have hz10 := HZ10.out.keep kS1 (fun hm => by have := HLT.out _ hm; omega)
    have hz8 := HZ8.out.keep kS1 (fun hm => by have := HLT.out _ hm; omega)
    unfold ZR at hz10
    obtain ⟨⟨d0, d1, d2, d3, d4⟩, e0, e1, e2, e3, e4⟩ := Blk.res5 hz10
    obtain ⟨w2, hw2⟩ : ∃ w2, (((((w1.setCell ⟨w.heap.size + 2, 0, none⟩ (.int .i64 0)).setCell ⟨w.heap.size + 2, 1, none⟩ (.int .i64 0)).setCell ⟨w.heap.size + 2, 2, none⟩ (.int .i64 0)).setCell ⟨w.heap.size + 2, 3, none⟩ (.bool false)).setCell ⟨w.heap.size + 2, 4, none⟩ (.int .i64 0)) = w2 := ⟨_, rfl⟩
    have K12 : Hid (Keeps [w.heap.size + 2] w1 w2) := Lib.hid (by rw [← hw2]; exact ((((((Keeps.refl [w.heap.size + 2] w1).setCell (p := ⟨w.heap.size + 2, 0, none⟩) (by simp) (.int .i64 0)).setCell (p := ⟨w.heap.size + 2, 1, none⟩) (by simp) (.int .i64 0)).setCell (p := ⟨w.heap.size + 2, 2, none⟩) (by simp) (.int .i64 0)).setCell (p := ⟨w.heap.size + 2, 3, none⟩) (by simp) (.bool false)).setCell (p := ⟨w.heap.size + 2, 4, none⟩) (by simp) (.int .i64 0)))
    have hr2 : Blk w2 (w.heap.size + 2) [.int .i64 0, .int .i64 0, .int .i64 0, .bool false, .int .i64 0] 28 := by
      rw [← hw2]
      have := ((((hz10.set 0 (.int .i64 0)).set 1 (.int .i64 0)).set 2 (.int .i64 0)).set 3 (.bool false)).set 4 (.int .i64 0)
      simpa only [List.set_cons_succ, List.set_cons_zero] using this
    have hS1 : ∀ x ∈ S1, x ≠ w.heap.size + 2 ∧ x ≠ w.heap.size + 1 := fun x hx => by
      rcases sS1 x hx with h | h
      · have := HLT.out x h; omega
      · have := HSZ.out; omega
    have hM2 := hM1.keep K12.out (fun x hx => by simp; exact (hS1 x hx).1)
    have HR2 := Lib.hid hr2
    have HZ82 := Lib.hid (hz8.keep K12.out (by simp))
    have HM2 := Lib.hid hM2
    have HK1 := Lib.hid kS1
    have HSS1 := Lib.hid sS1
    have HS1 := Lib.hid hS1
    clear hM1 hz10 hz8 hr2 hM2 kS1 sS1 hS1 hpe
    have hz := HZ82.out
    try unfold ZR at hz
    obtain ⟨⟨d0', d1', d2', d3', d4'⟩, e0', e1', e2', e3', e4'⟩ := Blk.res5 hz
    have hzz := ((((hz.set 0 (.int .i64 0)).set 1 (.int .i64 0)).set 2 (.int .i64 0)).set 3 (.bool false)).set 4 (.int .i64 0)
    simp only [List.set_cons_succ, List.set_cons_zero] at hzz
    have HZZ := Lib.hid hzz
    have KW := Lib.hid ((((((Keeps.refl [w.heap.size + 1] (w2)).setCell (p := ⟨w.heap.size + 1, 0, none⟩) (by simp) (.int .i64 0)).setCell (p := ⟨w.heap.size + 1, 1, none⟩) (by simp) (.int .i64 0)).setCell (p := ⟨w.heap.size + 1, 2, none⟩) (by simp) (.int .i64 0)).setCell (p := ⟨w.heap.size + 1, 3, none⟩) (by simp) (.bool false)).setCell (p := ⟨w.heap.size + 1, 4, none⟩) (by simp) (.int .i64 0))
    clear hz hzz
    go_wp2_with fail
    obtain ⟨⟨z0, z1, z2, z3, z4⟩, _⟩ := Blk.res5 HZZ.out
    refine bodyPost_ret (v := .tuple #[.agg #[.int .i64 0, .int .i64 0, .int .i64 0, .bool false, .int .i64 0], .bool false]) (by simp [results, Try.results11, go_sem, z0, z1, z2, z3, z4]) rfl ?_
    exact do_none (by rw [← HD.out, HE.out]) (by rw [← HD.out, HE.out, HL.out]) (fire_fin K0.out HSZ.out HK1.out HSS1.out K12.out (Keeps.refl S1 w2) ⟨b, bm1, _, _, _, _, _, _, rfl, HM2.out⟩ HLT.out KW.out)
  | some r =>
    obtain ⟨rc, rcs, rv, ro, rn⟩ := r
    have HE : Hid (Md.fire st g o i = (⟨l', Md.drops st.waits g⟩, some ⟨rc, rcs, rv, ro, rn⟩)) := Lib.hid (by unfold Md.fire; rw [hfs, hr])
    have HRR := Lib.hid hr
    clear hr hfs
    go_wp2_with fail
    refine (model_side _ _ st N S o _ U i HM0.out HV.out hN).mono ?_
    rw [HRR.out]
    rintro e w1 ⟨rfl, S1, hM1, kS1, sS1⟩
    unfold optV resV
    simp only [Option.getD_some, Option.isSome_some]
    clear hw0 b0 b1' b2 b3 b4 b5
    obtain ⟨b1, bm1, vh1, T1, Us1, SW1, f1, col1, hpe, hM1⟩ := hM1
    obtain rfl : b = b1 := by simpa using hpe
    have hz10 := HZ10.out.keep kS1 (fun hm => by have := HLT.out _ hm; omega)
    have hz8 := HZ8.out.keep kS1 (fun hm => by have := HLT.out _ hm; omega)
    unfold ZR at hz10
    obtain ⟨⟨d0, d1, d2, d3, d4⟩, e0, e1, e2, e3, e4⟩ := Blk.res5 hz10
    obtain ⟨w2, hw2⟩ : ∃ w2, (((((w1.setCell ⟨w.heap.size + 2, 0, none⟩ (.int .i64 rc)).setCell ⟨w.heap.size + 2, 1, none⟩ (.int .i64 rcs)).setCell ⟨w.heap.size + 2, 2, none⟩ (.int .i64 rv)).setCell ⟨w.heap.size + 2, 3, none⟩ (.bool ro)).setCell ⟨w.heap.size + 2, 4, none⟩ (.int .i64 rn)) = w2 := ⟨_, rfl⟩
    have K12 : Hid (Keeps [w.heap.size + 2] w1 w2) := Lib.hid (by rw [← hw2]; exact ((((((Keeps.refl [w.heap.size + 2] w1).setCell (p := ⟨w.heap.size + 2, 0, none⟩) (by simp) (.int .i64 rc)).setCell (p := ⟨w.heap.size + 2, 1, none⟩) (by simp) (.int .i64 rcs)).setCell (p := ⟨w.heap.size + 2, 2, none⟩) (by simp) (.int .i64 rv)).setCell (p := ⟨w.heap.size + 2, 3, none⟩) (by simp) (.bool ro)).setCell (p := ⟨w.heap.size + 2, 4, none⟩) (by simp) (.int .i64 rn)))
    have hr2 : Blk w2 (w.heap.size + 2) [.int .i64 rc, .int .i64 rcs, .int .i64 rv, .bool ro, .int .i64 rn] 28 := by
      rw [← hw2]
      have := ((((hz10.set 0 (.int .i64 rc)).set 1 (.int .i64 rcs)).set 2 (.int .i64 rv)).set 3 (.bool ro)).set 4 (.int .i64 rn)
      simpa only [List.set_cons_succ, List.set_cons_zero] using this
    have hS1 : ∀ x ∈ S1, x ≠ w.heap.size + 2 ∧ x ≠ w.heap.size + 1 := fun x hx => by
      rcases sS1 x hx with h | h
      · have := HLT.out x h; omega
      · have := HSZ.out; omega
    have hM2 := hM1.keep K12.out (fun x hx => by simp; exact (hS1 x hx).1)
    have HR2 := Lib.hid hr2
    have HZ82 := Lib.hid (hz8.keep K12.out (by simp))
    have HM2 := Lib.hid hM2
    have HK1 := Lib.hid kS1
    have HSS1 := Lib.hid sS1
    have HS1 := Lib.hid hS1
    have m1 : w2.cell? ⟨b, 1, none⟩ = some (.map (some bm1)) := hM2.cells.2.1
    clear hM1 hz10 hz8 hr2 hM2 kS1 sS1 hS1 hpe
    go_wp2_with (at_delete; go_must (refine wp_mapDel (f := f1) Try.underlying3 Try.underlying100 hgw HM2.out.map ?_))
    intro w3 m3 k3
    have hbm : w.heap.size + 2 ≠ bm1 ∧ w.heap.size + 1 ≠ bm1 := ⟨fun e => (HS1.out bm1 HM2.out.sm).1 e.symm, fun e => (HS1.out bm1 HM2.out.sm).2 e.symm⟩
    have HR3 := Lib.hid (HR2.out.keep k3 (by simp; exact hbm.1))
    have HZ83 := Lib.hid (HZ82.out.keep k3 (by simp; exact hbm.2))
    obtain ⟨hM3, kS3⟩ := HM2.out.drop g m3 k3
    have HM3 := Lib.hid hM3
    have HK3 := Lib.hid kS3
    obtain ⟨⟨r0, r1, r2, r3, r4⟩, _⟩ := Blk.res5 HR3.out
    clear m3 k3 hbm hM3 kS3 hw2 d0 d1 d2 d3 d4 e0 e1 e2 e3 e4
    have hz := HZ83.out
    try unfold ZR at hz
    obtain ⟨⟨d0, d1, d2, d3, d4⟩, e0, e1, e2, e3, e4⟩ := Blk.res5 hz
    have hzz := ((((hz.set 0 (.int .i64 rc)).set 1 (.int .i64 rcs)).set 2 (.int .i64 rv)).set 3 (.bool ro)).set 4 (.int .i64 rn)
    simp only [List.set_cons_succ, List.set_cons_zero] at hzz
    have HZZ := Lib.hid hzz
    have KW := Lib.hid ((((((Keeps.refl [w.heap.size + 1] (w3)).setCell (p := ⟨w.heap.size + 1, 0, none⟩) (by simp) (.int .i64 rc)).setCell (p := ⟨w.heap.size + 1, 1, none⟩) (by simp) (.int .i64 rcs)).setCell (p := ⟨w.heap.size + 1, 2, none⟩) (by simp) (.int .i64 rv)).setCell (p := ⟨w.heap.size + 1, 3, none⟩) (by simp) (.bool ro)).setCell (p := ⟨w.heap.size + 1, 4, none⟩) (by simp) (.int .i64 rn))
    clear hz hzz
    go_wp2_with fail
    obtain ⟨⟨z0, z1, z2, z3, z4⟩, _⟩ := Blk.res5 HZZ.out
    refine bodyPost_ret (v := .tuple #[.agg #[.int .i64 rc, .int .i64 rcs, .int .i64 rv, .bool ro, .int .i64 rn], .bool true]) (by simp [results, Try.results11, go_sem, z0, z1, z2, z3, z4]) rfl ?_
    exact do_some ⟨rc, rcs, rv, ro, rn⟩ (by rw [← HD.out, HE.out]) (by rw [← HD.out, HE.out]) (fire_fin K0.out HSZ.out HK1.out HSS1.out K12.out HK3.out ⟨b, bm1, _, _, _, _, _, _, rfl, HM3.out⟩ HLT.out KW.out)
end Go.Proofs.Ytopkfhmdgheghaa
