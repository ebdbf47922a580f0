/-
  Meet of package model: its contract.
  Conditions: none.
-/
import Derived.Test.YtopkfhmdgheghaaModelP
import Derived.Test.YtopkfhmdgheghaaModelK
import Derived.Test.YtopkfhmdgheghaaPlanS
namespace Go.Proofs.Ytopkfhmdgheghaa
open Go.RowKit
set_option linter.unusedVariables false
set_option linter.unusedSimpArgs false
set_option linter.unnecessarySimpa false

namespace Md
def agrees (st : St) (g : Int) (a : Pn.Op) : Bool := match st.waits g with | some o => decide (o = a) | none => true
def meet (st : St) (g : Int) (a : Pn.Op) (i h : Int) (b : Pn.Op) (k : Int) : St × Option Int :=
  match side a i, side b k with
  | some s, some r =>
    if s.send = true ∧ g ≠ h ∧ r.send = false ∧ r.ch = s.ch then
      match chan st.chans s.ch with
      | some c =>
        if c.cap = 0 ∧ c.closed = false ∧ ((st.waits g).isSome = true ∨ (st.waits h).isSome = true) ∧ agrees st g a = true ∧ agrees st h b = true then (⟨st.chans, drops (drops st.waits g) h⟩, some s.v) else (st, none)
      | none => (st, none)
    else (st, none)
  | _, _ => (st, none)
end Md
def MeetPost (S : List Nat) (w : World) (p : Value) (D : Md.St × Option Int) (N : Nat) (e : Ending) (w' : World) : Prop := e = .returned (.tuple #[.int .i64 (D.2.getD 0), .bool D.2.isSome]) ∧ MoTo S w w' p D.1 N
theorem meet_no {S : List Nat} {w W : World} {p : Value} {st : Md.St} {D : Md.St × Option Int} {N : Nat} (h : D = (st, none)) (hm : Mo w p st N S) (k : Keeps [] w W) : MeetPost S w p D N (.returned (.tuple #[.int .i64 0, .bool false])) W := by
  subst h; exact ⟨rfl, MoTo.refl (hm.then k) k⟩

set_option maxRecDepth 100000 in
set_option maxHeartbeats 3200000 in
theorem model_meet (w : World) (p : Value) (st : Md.St) (N : Nat) (S : List Nat) (g : Int) (a : Pn.Op) (va : Value) (UA : List Nat) (i h : Int) (b : Pn.Op) (vb : Value) (UB : List Nat) (k : Int) (hm : Mo w p st N S) (ha : GV caseE 3 w va a.cases UA) (hb : GV caseE 3 w vb b.cases UB) (hgw : wf64L g) (hhw : wf64L h) :
    Calls Try.prog 23 #[p, .int .i64 g, .agg (opV a va), .int .i64 i, .int .i64 h, .agg (opV b vb), .int .i64 k] w (MeetPost S w p (Md.meet st g a i h b k) N) := by
  have HM := Lib.hid hm
  obtain ⟨q, bm, vh, T, Us, SW, f, col, rfl, hma⟩ := hm
  obtain ⟨ao, cap, rfl⟩ := hma.chans.shape
  have hle := hma.chans.le
  have HMA := Lib.hid hma
  obtain ⟨D, hD⟩ : ∃ D, Md.meet st g a i h b k = D := ⟨_, rfl⟩
  rw [hD]
  have HD := Lib.hid hD
  obtain ⟨w0, hw0⟩ : ∃ w0, (w.alloc (.cells (opV a va) 33)).alloc (.cells (opV b vb) 33) = w0 := ⟨_, rfl⟩
  have K0 : Hid (Keeps [] w w0) := Lib.hid (hw0 ▸ ((Keeps.refl [] w).alloc _).alloc _)
  have HOA : Hid (Blk w0 w.heap.size [.int .i64 a.kind, .int .i64 a.ch, .int .i64 a.n, .int .i64 a.v, va, .bool a.els] 33) := Lib.hid (hw0 ▸ (Blk.fresh w [.int .i64 a.kind, .int .i64 a.ch, .int .i64 a.n, .int .i64 a.v, va, .bool a.els] _ _ rfl).alloc _)
  have HOB : Hid (Blk w0 (w.heap.size + 1) [.int .i64 b.kind, .int .i64 b.ch, .int .i64 b.n, .int .i64 b.v, vb, .bool b.els] 33) := Lib.hid (hw0 ▸ Blk.fresh _ [.int .i64 b.kind, .int .i64 b.ch, .int .i64 b.n, .int .i64 b.v, vb, .bool b.els] _ _ (by simp))
  have HA := Lib.hid ha
  have HB := Lib.hid hb
  obtain ⟨aa, ca, rfl⟩ := ha.shape
  obtain ⟨ab, cb, rfl⟩ := hb.shape
  obtain ⟨⟨b0, b1, b2, b3, b4, b5⟩, _⟩ := Blk.six HOA.out
  clear ha hb hma hD
  unfold opV at hw0
  unfold opV
  go_enter Try.func23, Try.ntmps23
  go_wp2_with fail
  refine (model_sideOf _ a _ UA i (HA.out.then caseE_kept K0.out)).mono ?_
  rintro e w1 ⟨rfl, k1⟩
  have K1 := Lib.hid (K0.out.then k1)
  cases hs : Md.side a i with
  | none =>
    have HE : Hid (D = (st, none)) := Lib.hid (by rw [← HD.out]; unfold Md.meet; rw [hs])
    unfold sdV Md.noSide
    simp only [Option.getD_none, Option.isSome_none]
    clear hs hw0 b0 b1 b2 b3 b4 b5 k1
    go_wp2_with fail
    go_ret2
    exact meet_no HE.out HM.out (K1.out.alloc _)
  | some s =>
    obtain ⟨sc, ss, sv⟩ := s
    have HS := Lib.hid hs
    unfold sdV
    simp only [Option.getD_some, Option.isSome_some]
    obtain ⟨w2, hw2⟩ : ∃ w2, w1.alloc (.cells #[.int .i64 sc, .bool ss, .int .i64 sv] 124) = w2 := ⟨_, rfl⟩
    have K2 : Hid (Keeps [] w w2) := Lib.hid (hw2 ▸ K1.out.alloc _)
    have HSD : Hid (Blk w2 w1.heap.size [.int .i64 sc, .bool ss, .int .i64 sv] 124) := Lib.hid (hw2 ▸ Blk.fresh w1 [.int .i64 sc, .bool ss, .int .i64 sv] _ _ rfl)
    have K02 : Hid (Keeps [] w0 w2) := Lib.hid (hw2 ▸ k1.alloc _)
    obtain ⟨⟨s0, s1, s2⟩, _⟩ := Blk.three HSD.out
    clear hs hw0 b0 b1 b2 b3 b4 b5 k1
    obtain ⟨⟨b0, b1, b2, b3, b4, b5⟩, _⟩ := Blk.six (HOB.out.keep K02.out (by simp))
    cases ss with
    | false =>
      have HE : Hid (D = (st, none)) := Lib.hid (by rw [← HD.out]; unfold Md.meet; rw [HS.out]; cases Md.side b k <;> simp)
      go_wp2_with fail
      go_ret2
      exact meet_no HE.out HM.out K2.out
    | true =>
      cases hgh : (g == h) with
      | true =>
        have HE : Hid (D = (st, none)) := Lib.hid (by
          have : g = h := by simpa using hgh
          rw [← HD.out]; unfold Md.meet; rw [HS.out]; cases Md.side b k <;> simp [this])
        go_wp2_with fail
        go_ret2
        exact meet_no HE.out HM.out K2.out
      | false =>
        have HGH : Hid (g ≠ h) := Lib.hid (by simpa using hgh)
        go_wp2_with fail
        refine (model_sideOf _ b _ UB k (HB.out.then caseE_kept K2.out)).mono ?_
        rintro e w3 ⟨rfl, k3⟩
        cases hr : Md.side b k with
        | none =>
          have HE : Hid (D = (st, none)) := Lib.hid (by rw [← HD.out]; unfold Md.meet; rw [HS.out, hr])
          unfold sdV Md.noSide
          simp only [Option.getD_none, Option.isSome_none]
          clear hr hw2 b0 b1 b2 b3 b4 b5 s0 s1 s2
          go_wp2_with fail
          go_ret2
          exact meet_no HE.out HM.out ((K2.out.then k3).alloc _)
        | some r =>
          obtain ⟨rc, rs, rv⟩ := r
          have HR := Lib.hid hr
          unfold sdV
          simp only [Option.getD_some, Option.isSome_some]
          obtain ⟨w4, hw4⟩ : ∃ w4, w3.alloc (.cells #[.int .i64 rc, .bool rs, .int .i64 rv] 124) = w4 := ⟨_, rfl⟩
          have K24 : Hid (Keeps [] w2 w4) := Lib.hid (hw4 ▸ k3.alloc _)
          have K4 : Hid (Keeps [] w w4) := Lib.hid (K2.out.then K24.out)
          have HRD : Hid (Blk w4 w3.heap.size [.int .i64 rc, .bool rs, .int .i64 rv] 124) := Lib.hid (hw4 ▸ Blk.fresh w3 [.int .i64 rc, .bool rs, .int .i64 rv] _ _ rfl)
          clear hr hw2 b0 b1 b2 b3 b4 b5 s0 s1 s2 k3
          obtain ⟨⟨s0, s1, s2⟩, _⟩ := Blk.three (HSD.out.keep K24.out (by simp))
          obtain ⟨⟨r0, r1, r2⟩, _⟩ := Blk.three HRD.out
          have HM4 := Lib.hid (HMA.out.then K4.out)
          cases rs with
          | true =>
            have HE : Hid (D = (st, none)) := Lib.hid (by rw [← HD.out]; unfold Md.meet; rw [HS.out, HR.out]; simp)
            go_wp2_with fail
            go_ret2
            exact meet_no HE.out HM.out K4.out
          | false =>
            cases hrc : (rc != sc) with
            | true =>
              have HE : Hid (D = (st, none)) := Lib.hid (by have this : ¬ rc = sc := (by simpa using hrc); rw [← HD.out]; unfold Md.meet; rw [HS.out, HR.out]; simp [this])
              go_wp2_with fail
              go_ret2
              exact meet_no HE.out HM.out K4.out
            | false =>
              have HRC : Hid (rc = sc) := Lib.hid (by simpa using hrc)
              by_cases hin : 1 ≤ sc ∧ sc ≤ (st.chans.length : Int)
              · obtain ⟨k0, rfl⟩ : ∃ k0 : Nat, sc = (k0 : Int) + 1 := ⟨(sc - 1).toNat, by omega⟩
                have hk : k0 < st.chans.length := by omega
                obtain ⟨c, hc, hc2⟩ := Md.chan_some hin.1 hin.2
                rw [show ((k0 : Int) + 1 - 1).toNat = k0 by omega] at hc2
                obtain ⟨gc, off, bv, V, rfl, _, hg, a0, a1, a2, _, _, _, _⟩ := HM4.out.chans.get hc2
                have HC := Lib.hid hc
                clear hc hc2
                go_wp2_with fail
                refine (model_channel _ q _ _ gc off k0 _ HM4.out.blk hle hk).mono ?_
                rintro e w4' ⟨rfl, rfl⟩
                clear hw4
                cases hc0 : (c.cap != 0) with
                | true =>
                  have HE : Hid (D = (st, none)) := Lib.hid (by have this : ¬ c.cap = 0 := (by simpa using hc0); rw [← HD.out]; unfold Md.meet; rw [HS.out, HR.out]; simp [HC.out, this])
                  go_wp2_with fail
                  go_ret2
                  exact meet_no HE.out HM.out K4.out
                | false =>
                  have HC0 : Hid (c.cap = 0) := Lib.hid (by simpa using hc0)
                  cases hcl : c.closed with
                  | true =>
                    rw [hcl] at a2
                    have HE : Hid (D = (st, none)) := Lib.hid (by rw [← HD.out]; unfold Md.meet; rw [HS.out, HR.out]; simp [HC.out, hcl])
                    go_wp2_with fail
                    go_ret2
                    exact meet_no HE.out HM.out K4.out
                  | false =>
                    rw [hcl] at a2
                    have HCL := Lib.hid hcl
                    clear hcl
                    have HCOND : Hid (D = if ((st.waits g).isSome = true ∨ (st.waits h).isSome = true) ∧ Md.agrees st g a = true ∧ Md.agrees st h b = true then (⟨st.chans, Md.drops (Md.drops st.waits g) h⟩, some sv) else (st, none)) := Lib.hid (by
                      rw [← HD.out]; unfold Md.meet; rw [HS.out, HR.out]
                      simp [HC.out, HC0.out, HCL.out, HRC.out, HGH.out])
                    have m1 := HM4.out.cells.2.1
                    have M2 : ∀ x : Obj, (w4.alloc x).cell? ⟨q, 1, none⟩ = some (.map (some bm)) := fun x => ((Keeps.refl [] w4).alloc x).cell m1 (by simp)
                    have HMP : Hid (∀ x : Obj, MapV Try.prog 3 (w4.alloc x) bm N f) := Lib.hid (fun x => HM4.out.map.then ((Keeps.refl [] w4).alloc x))
                    have HBA := Lib.hid (HOA.out.keep (K02.out.then K24.out) (by simp))
                    have HBB := Lib.hid (HOB.out.keep (K02.out.then K24.out) (by simp))
                    obtain ⟨⟨ha0, ha1, ha2, ha3, ha4, ha5⟩, _⟩ := Blk.six HBA.out
                    obtain ⟨⟨hb0, hb1, hb2, hb3, hb4, hb5⟩, _⟩ := Blk.six HBB.out
                    have A0 : ∀ x y : Obj, ((w4.alloc x).alloc y).cell? ⟨w.heap.size, 0, none⟩ = some (.int .i64 a.kind) := fun x y => (((Keeps.refl [] w4).alloc x).alloc y).cell ha0 (by simp)
                    have A1 : ∀ x y : Obj, ((w4.alloc x).alloc y).cell? ⟨w.heap.size, 1, none⟩ = some (.int .i64 a.ch) := fun x y => (((Keeps.refl [] w4).alloc x).alloc y).cell ha1 (by simp)
                    have A2 : ∀ x y : Obj, ((w4.alloc x).alloc y).cell? ⟨w.heap.size, 2, none⟩ = some (.int .i64 a.n) := fun x y => (((Keeps.refl [] w4).alloc x).alloc y).cell ha2 (by simp)
                    have A3 : ∀ x y : Obj, ((w4.alloc x).alloc y).cell? ⟨w.heap.size, 3, none⟩ = some (.int .i64 a.v) := fun x y => (((Keeps.refl [] w4).alloc x).alloc y).cell ha3 (by simp)
                    have A4 : ∀ x y : Obj, ((w4.alloc x).alloc y).cell? ⟨w.heap.size, 4, none⟩ = some (.slice aa a.cases.length ca) := fun x y => (((Keeps.refl [] w4).alloc x).alloc y).cell ha4 (by simp)
                    have A5 : ∀ x y : Obj, ((w4.alloc x).alloc y).cell? ⟨w.heap.size, 5, none⟩ = some (.bool a.els) := fun x y => (((Keeps.refl [] w4).alloc x).alloc y).cell ha5 (by simp)
                    have B0 : ∀ x y : Obj, ((w4.alloc x).alloc y).cell? ⟨w.heap.size + 1, 0, none⟩ = some (.int .i64 b.kind) := fun x y => (((Keeps.refl [] w4).alloc x).alloc y).cell hb0 (by simp)
                    have B1 : ∀ x y : Obj, ((w4.alloc x).alloc y).cell? ⟨w.heap.size + 1, 1, none⟩ = some (.int .i64 b.ch) := fun x y => (((Keeps.refl [] w4).alloc x).alloc y).cell hb1 (by simp)
                    have B2 : ∀ x y : Obj, ((w4.alloc x).alloc y).cell? ⟨w.heap.size + 1, 2, none⟩ = some (.int .i64 b.n) := fun x y => (((Keeps.refl [] w4).alloc x).alloc y).cell hb2 (by simp)
                    have B3 : ∀ x y : Obj, ((w4.alloc x).alloc y).cell? ⟨w.heap.size + 1, 3, none⟩ = some (.int .i64 b.v) := fun x y => (((Keeps.refl [] w4).alloc x).alloc y).cell hb3 (by simp)
                    have B4 : ∀ x y : Obj, ((w4.alloc x).alloc y).cell? ⟨w.heap.size + 1, 4, none⟩ = some (.slice ab b.cases.length cb) := fun x y => (((Keeps.refl [] w4).alloc x).alloc y).cell hb4 (by simp)
                    have B5 : ∀ x y : Obj, ((w4.alloc x).alloc y).cell? ⟨w.heap.size + 1, 5, none⟩ = some (.bool b.els) := fun x y => (((Keeps.refl [] w4).alloc x).alloc y).cell hb5 (by simp)
                    clear ha0 ha1 ha2 ha3 ha4 ha5 hb0 hb1 hb2 hb3 hb4 hb5
                    cases hg1 : st.waits g with
                    | none =>
                      have hfg := HM4.out.wm.none hg1
                      cases hh1 : st.waits h with
                      | none =>
                        have hfh := HM4.out.wm.none hh1
                        have HE : Hid (D = (st, none)) := Lib.hid (by rw [HCOND.out]; simp [hg1, hh1])
                        go_wp2_with (at_lookup; go_must (first | (refine wp_mapGet (f := f) Try.underlying3 Try.underlying100 zero_op hgw HM4.out.map ?_) | (refine wp_mapGet (f := f) Try.underlying3 Try.underlying100 zero_op hhw (HMP.out _) ?_)))
                        go_ret2
                        exact meet_no HE.out HM.out (K4.out.then (((Keeps.refl [] w4).alloc _).alloc _))
                      | some oh =>
                        obtain ⟨_, vh, Uh, hfh, hvh, _⟩ := HM4.out.wm.some hh1
                        obtain ⟨avh, cvh, rfl⟩ := hvh.shape
                        have HVh := Lib.hid hvh
                        unfold opV at hfh
                        clear hvh
                        go_wp2_with (at_lookup; go_must (first | (refine wp_mapGet (f := f) Try.underlying3 Try.underlying100 zero_op hgw HM4.out.map ?_) | (refine wp_mapGet (f := f) Try.underlying3 Try.underlying100 zero_op hhw (HMP.out _) ?_)))
                        refine (plan_sameOp _ oh b _ _ Uh UB (HVh.out.then caseE_kept (((Keeps.refl [] w4).alloc _).alloc _)) (HB.out.then caseE_kept (K4.out.then ((((Keeps.refl [] w4).alloc _).alloc _))))).mono ?_
                        rintro e w6 ⟨rfl, k6⟩
                        cases hq : decide (oh = b) with
                        | false =>
                          have HE : Hid (D = (st, none)) := Lib.hid (by rw [HCOND.out]; simp [Md.agrees, hg1, hh1, hq])
                          go_wp2_with fail
                          go_ret2
                          exact meet_no HE.out HM.out (K4.out.then ((((Keeps.refl [] w4).alloc _).alloc _).then k6))
                        | true =>
                          have HE : Hid (D = (⟨st.chans, Md.drops (Md.drops st.waits g) h⟩, some sv)) := Lib.hid (by rw [HCOND.out]; simp [Md.agrees, hg1, hh1, hq])
                          have K46 : Hid (Keeps [] w4 w6) := Lib.hid ((((Keeps.refl [] w4).alloc _).alloc _).then k6)
                          have HM6 := Lib.hid (HM4.out.then K46.out)
                          have m6 := HM6.out.cells.2.1
                          clear m1 M2 A0 A1 A2 A3 A4 A5 B0 B1 B2 B3 B4 B5 s0 s1 s2 r0 r1 r2 a0 a1 a2
                          go_wp2_with (at_delete; go_must (refine wp_mapDel (f := f) Try.underlying3 Try.underlying100 hgw HM6.out.map ?_))
                          intro w7 m7 k7
                          obtain ⟨hM7, kS7⟩ := HM6.out.drop g m7 k7
                          have hne : w1.heap.size ≠ bm := fun e => by have h1 := HMA.out.lt bm HMA.out.sm; have h2 := K1.out.size; omega
                          have HSD7 := Lib.hid ((HSD.out.keep (K24.out.then K46.out) (by simp)).keep k7 (by simpa using hne))
                          have HM7 := Lib.hid hM7
                          have HK7 := Lib.hid kS7
                          have m8 := hM7.cells.2.1
                          clear m6 m7 k7 hM7 kS7
                          go_wp2_with (at_delete; go_must (refine wp_mapDel (f := fun z => if z = g then none else f z) Try.underlying3 Try.underlying100 hhw HM7.out.map ?_))
                          intro w8 m9 k8
                          obtain ⟨hM8, kS8⟩ := HM7.out.drop h m9 k8
                          obtain ⟨⟨s0, s1, s2⟩, _⟩ := Blk.three (HSD7.out.keep k8 (by simpa using hne))
                          have HM8 := Lib.hid hM8
                          have HK8 : Hid (Keeps S w w8) := Lib.hid ((((K4.out.then K46.out).mono (T := S) (by simp)).trans HK7.out (fun x hx => .inl hx)).trans kS8 (fun x hx => .inl hx))
                          clear m8 m9 k8 hM8 kS8
                          go_wp2_with fail
                          go_ret2
                          exact ⟨by rw [HE.out]; rfl, S, by rw [HE.out]; exact ⟨q, bm, _, _, _, _, _, _, rfl, HM8.out⟩, HK8.out, fun x hx => .inl hx⟩
                    | some og =>
                      obtain ⟨_, vg, Ug, hfg, hvg, _⟩ := HM4.out.wm.some hg1
                      obtain ⟨avg, cvg, rfl⟩ := hvg.shape
                      have HVg := Lib.hid hvg
                      unfold opV at hfg
                      clear hvg
                      cases hh1 : st.waits h with
                      | none =>
                        have hfh := HM4.out.wm.none hh1
                        go_wp2_with (at_lookup; go_must (first | (refine wp_mapGet (f := f) Try.underlying3 Try.underlying100 zero_op hgw HM4.out.map ?_) | (refine wp_mapGet (f := f) Try.underlying3 Try.underlying100 zero_op hhw (HMP.out _) ?_)))
                        refine (plan_sameOp _ og a _ _ Ug UA (HVg.out.then caseE_kept (((Keeps.refl [] w4).alloc _).alloc _)) (HA.out.then caseE_kept (K4.out.then ((((Keeps.refl [] w4).alloc _).alloc _))))).mono ?_
                        rintro e w6 ⟨rfl, k6⟩
                        cases hq : decide (og = a) with
                        | false =>
                          have HE : Hid (D = (st, none)) := Lib.hid (by rw [HCOND.out]; simp [Md.agrees, hg1, hh1, hq])
                          go_wp2_with fail
                          go_ret2
                          exact meet_no HE.out HM.out (K4.out.then ((((Keeps.refl [] w4).alloc _).alloc _).then k6))
                        | true =>
                          have HE : Hid (D = (⟨st.chans, Md.drops (Md.drops st.waits g) h⟩, some sv)) := Lib.hid (by rw [HCOND.out]; simp [Md.agrees, hg1, hh1, hq])
                          have K46 : Hid (Keeps [] w4 w6) := Lib.hid ((((Keeps.refl [] w4).alloc _).alloc _).then k6)
                          have HM6 := Lib.hid (HM4.out.then K46.out)
                          have m6 := HM6.out.cells.2.1
                          clear m1 M2 A0 A1 A2 A3 A4 A5 B0 B1 B2 B3 B4 B5 s0 s1 s2 r0 r1 r2 a0 a1 a2
                          go_wp2_with (at_delete; go_must (refine wp_mapDel (f := f) Try.underlying3 Try.underlying100 hgw HM6.out.map ?_))
                          intro w7 m7 k7
                          obtain ⟨hM7, kS7⟩ := HM6.out.drop g m7 k7
                          have hne : w1.heap.size ≠ bm := fun e => by have h1 := HMA.out.lt bm HMA.out.sm; have h2 := K1.out.size; omega
                          have HSD7 := Lib.hid ((HSD.out.keep (K24.out.then K46.out) (by simp)).keep k7 (by simpa using hne))
                          have HM7 := Lib.hid hM7
                          have HK7 := Lib.hid kS7
                          have m8 := hM7.cells.2.1
                          clear m6 m7 k7 hM7 kS7
                          go_wp2_with (at_delete; go_must (refine wp_mapDel (f := fun z => if z = g then none else f z) Try.underlying3 Try.underlying100 hhw HM7.out.map ?_))
                          intro w8 m9 k8
                          obtain ⟨hM8, kS8⟩ := HM7.out.drop h m9 k8
                          obtain ⟨⟨s0, s1, s2⟩, _⟩ := Blk.three (HSD7.out.keep k8 (by simpa using hne))
                          have HM8 := Lib.hid hM8
                          have HK8 : Hid (Keeps S w w8) := Lib.hid ((((K4.out.then K46.out).mono (T := S) (by simp)).trans HK7.out (fun x hx => .inl hx)).trans kS8 (fun x hx => .inl hx))
                          clear m8 m9 k8 hM8 kS8
                          go_wp2_with fail
                          go_ret2
                          exact ⟨by rw [HE.out]; rfl, S, by rw [HE.out]; exact ⟨q, bm, _, _, _, _, _, _, rfl, HM8.out⟩, HK8.out, fun x hx => .inl hx⟩
                      | some oh =>
                        obtain ⟨_, vh, Uh, hfh, hvh, _⟩ := HM4.out.wm.some hh1
                        obtain ⟨avh, cvh, rfl⟩ := hvh.shape
                        have HVh := Lib.hid hvh
                        unfold opV at hfh
                        clear hvh
                        go_wp2_with (at_lookup; go_must (first | (refine wp_mapGet (f := f) Try.underlying3 Try.underlying100 zero_op hgw HM4.out.map ?_) | (refine wp_mapGet (f := f) Try.underlying3 Try.underlying100 zero_op hhw (HMP.out _) ?_)))
                        refine (plan_sameOp _ og a _ _ Ug UA (HVg.out.then caseE_kept (((Keeps.refl [] w4).alloc _).alloc _)) (HA.out.then caseE_kept (K4.out.then ((((Keeps.refl [] w4).alloc _).alloc _))))).mono ?_
                        rintro e w6 ⟨rfl, k6⟩
                        cases hq : decide (og = a) with
                        | false =>
                          have HE : Hid (D = (st, none)) := Lib.hid (by rw [HCOND.out]; simp [Md.agrees, hg1, hh1, hq])
                          go_wp2_with fail
                          go_ret2
                          exact meet_no HE.out HM.out (K4.out.then ((((Keeps.refl [] w4).alloc _).alloc _).then k6))
                        | true =>
                          have hoh := (Blk.fresh (w4.alloc (.cells #[.int .i64 og.kind, .int .i64 og.ch, .int .i64 og.n, .int .i64 og.v, .slice avg og.cases.length cvg, .bool og.els] 33)) [.int .i64 oh.kind, .int .i64 oh.ch, .int .i64 oh.n, .int .i64 oh.v, .slice avh oh.cases.length cvh, .bool oh.els] 33 (w4.heap.size + 1) (by simp)).keep k6 (by simp)
                          have K6 := Lib.hid ((((Keeps.refl [] w4).alloc _).alloc _).then k6)
                          obtain ⟨⟨o0, o1, o2, o3, o4, o5⟩, _⟩ := Blk.six hoh
                          obtain ⟨⟨hb0, hb1, hb2, hb3, hb4, hb5⟩, _⟩ := Blk.six (HBB.out.keep K6.out (by simp))
                          clear hoh k6
                          go_wp2_with fail
                          refine (plan_sameOp _ oh b _ _ Uh UB (HVh.out.then caseE_kept K6.out) (HB.out.then caseE_kept (K4.out.then K6.out))).mono ?_
                          rintro e w9 ⟨rfl, k9⟩
                          cases hq2 : decide (oh = b) with
                          | false =>
                            have HE : Hid (D = (st, none)) := Lib.hid (by rw [HCOND.out]; simp [Md.agrees, hg1, hh1, hq, hq2])
                            go_wp2_with fail
                            go_ret2
                            exact meet_no HE.out HM.out (K4.out.then (K6.out.then k9))
                          | true =>
                            have HE : Hid (D = (⟨st.chans, Md.drops (Md.drops st.waits g) h⟩, some sv)) := Lib.hid (by rw [HCOND.out]; simp [Md.agrees, hg1, hh1, hq, hq2])
                            have K46 : Hid (Keeps [] w4 w9) := Lib.hid (K6.out.then k9)
                            have HM6 := Lib.hid (HM4.out.then K46.out)
                            have m6 := HM6.out.cells.2.1
                            clear o0 o1 o2 o3 o4 o5 hb0 hb1 hb2 hb3 hb4 hb5 m1 M2 A0 A1 A2 A3 A4 A5 B0 B1 B2 B3 B4 B5 s0 s1 s2 r0 r1 r2 a0 a1 a2
                            go_wp2_with (at_delete; go_must (refine wp_mapDel (f := f) Try.underlying3 Try.underlying100 hgw HM6.out.map ?_))
                            intro w7 m7 k7
                            obtain ⟨hM7, kS7⟩ := HM6.out.drop g m7 k7
                            have hne : w1.heap.size ≠ bm := fun e => by have h1 := HMA.out.lt bm HMA.out.sm; have h2 := K1.out.size; omega
                            have HSD7 := Lib.hid ((HSD.out.keep (K24.out.then K46.out) (by simp)).keep k7 (by simpa using hne))
                            have HM7 := Lib.hid hM7
                            have HK7 := Lib.hid kS7
                            have m8 := hM7.cells.2.1
                            clear m6 m7 k7 hM7 kS7
                            go_wp2_with (at_delete; go_must (refine wp_mapDel (f := fun z => if z = g then none else f z) Try.underlying3 Try.underlying100 hhw HM7.out.map ?_))
                            intro w8 m9 k8
                            obtain ⟨hM8, kS8⟩ := HM7.out.drop h m9 k8
                            obtain ⟨⟨s0, s1, s2⟩, _⟩ := Blk.three (HSD7.out.keep k8 (by simpa using hne))
                            have HM8 := Lib.hid hM8
                            have HK8 : Hid (Keeps S w w8) := Lib.hid ((((K4.out.then K46.out).mono (T := S) (by simp)).trans HK7.out (fun x hx => .inl hx)).trans kS8 (fun x hx => .inl hx))
                            clear m8 m9 k8 hM8 kS8
                            go_wp2_with fail
                            go_ret2
                            exact ⟨by rw [HE.out]; rfl, S, by rw [HE.out]; exact ⟨q, bm, _, _, _, _, _, _, rfl, HM8.out⟩, HK8.out, fun x hx => .inl hx⟩
              · have hout : sc < 1 ∨ (st.chans.length : Int) < sc := by omega
                have HE : Hid (D = (st, none)) := Lib.hid (by rw [← HD.out]; unfold Md.meet; rw [HS.out, HR.out]; simp [Md.chan_none hout])
                go_wp2_with fail
                refine (model_channel_no _ q _ _ _ _ _ HM4.out.blk hle hout).mono ?_
                rintro e w4' ⟨rfl, rfl⟩
                clear hw4
                go_wp2_with fail
                go_ret2
                exact meet_no HE.out HM.out K4.out
end Go.Proofs.Ytopkfhmdgheghaa
