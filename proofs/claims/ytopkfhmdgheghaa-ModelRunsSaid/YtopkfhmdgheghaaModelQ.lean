/-
  Wait of package model, and slices.Clone of cases: contracts.
  Conditions: ops of no more than 1000 cases.
-/
import Derived.Test.YtopkfhmdgheghaaModelP
import Derived.StillTailTactics
namespace Go.Proofs.Ytopkfhmdgheghaa
open Go.RowKit
set_option linter.unusedVariables false
set_option linter.unusedSimpArgs false
set_option linter.unnecessarySimpa false

theorem elemCases : Elem Try.prog 31 131 3 24 (.agg #[.bool false, .int .i64 0, .int .i64 0]) := ⟨Try.underlying31, by kernel_rfl, rfl, by decide, by decide⟩
theorem GR.flat3 {w : World} {v : Value} {e : TypeId} {l : List Pn.Cs} {T S : List Nat} (h : GR caseE 3 w v e l T S) : GV caseE 3 w v l T := by
  obtain ⟨xs, h1, h2, h3, h4, h5⟩ := h
  exact ⟨xs, T, h1.view, fun i a hi => by obtain ⟨U, ⟨hc, rfl⟩, _⟩ := h2 i a hi; exact ⟨[], ⟨hc, rfl⟩, by simp⟩, fun x hx => hx, h1.lt, h5⟩
def ClonedPost (l : List Pn.Cs) (w : World) (e : Ending) (w' : World) : Prop := ∃ v U, e = .returned v ∧ GV caseE 3 w' v l U ∧ (∀ x ∈ U, w.heap.size ≤ x) ∧ Keeps [] w w'
set_option maxRecDepth 100000 in
set_option maxHeartbeats 400000 in
theorem clone_cases (w : World) (v : Value) (l : List Pn.Cs) (U : List Nat) (h : GV caseE 3 w v l U) (hb : l.length ≤ 1000) :
    Calls Try.prog 60 #[v] w (ClonedPost l w) := by
  have HV := Lib.hid h
  have HB := Lib.hid hb
  have hle := h.le
  unfold maxLen at hle
  obtain ⟨av, cv, rfl⟩ := h.shape
  clear hb
  cases av with
  | none =>
    have h0 : l.length = 0 := by
      by_cases hp : 0 < l.length
      · obtain ⟨g, off, e, _⟩ := h.addr hp; cases e
      · omega
    obtain rfl := List.eq_nil_of_length_eq_zero h0
    clear h
    have hnil : ∀ w : World, (binOp .eql 31 (.slice none ([] : List Pn.Cs).length cv) (.slice none 0 0)).run Try.prog w = .ok (.bool true) w := fun _ => rfl
    have hnil2 : ∀ w : World, (binOp .eql 31 (.slice none 0 cv) (.slice none 0 0)).run Try.prog w = .ok (.bool true) w := fun _ => rfl
    go_enter Try.func60, Try.ntmps60
    go_wp2_with fail
    go_ret
    exact ⟨_, [], rfl, GV.nil _ _ _, by simp, Keeps.refl _ _⟩
  | some a =>
    have HR := Lib.hid (GR.lit caseE 3 w 131 _ rfl)
    have HU := Lib.hid h.lt
    clear h
    have hnil : ∀ w : World, (binOp .eql 31 (.slice (some a) l.length cv) (.slice none 0 0)).run Try.prog w = .ok (.bool false) w := fun _ => rfl
    go_enter Try.func60, Try.ntmps60
    go_wp2_with (at_builtin; go_must (refine wp_gapps elemCases caseE_kept HR.out (HV.out.then caseE_kept ((Keeps.refl [] w).alloc _)) (fun y hy => by have := HU.out y hy; simp; omega) (by have := HB.out; simp; omega) ?_))
    intro ao7 cap7 w7 T7 r7 k7 s7
    have r7' : GV caseE 3 w7 (.slice ao7 l.length cap7) l T7 := r7.flat3
    have K7 : Hid (Keeps [] w w7) := Lib.hid (((Keeps.refl [] w).alloc _).trans k7 (fun x hx => by simp at hx; subst hx; exact .inr (Nat.le_refl _)))
    have R7 := Lib.hid r7'
    have S7 : Hid (∀ x ∈ T7, w.heap.size ≤ x) := Lib.hid (fun x hx => by
      rcases s7 x hx with h | h
      · first | omega | (simp at h; omega)
      · first | omega | (simp at h; omega))
    clear r7 k7 s7 r7'
    go_wp2_with fail
    go_ret
    exact ⟨_, T7, rfl, R7.out, S7.out, K7.out⟩

theorem model_there (w : World) (p : Value) (st : Md.St) (N : Nat) (S : List Nat) (i : Int) (s : Md.Sd) (c : Nat) (h : Mo w p st N S) (hc : w.cell? ⟨c, 0, none⟩ = some p) :
    Calls Try.prog 57 #[.int .i64 i, .agg (sdV s), .pointer (some ⟨c, 0, none⟩)] w fun e w' => e = .returned (.bool (Md.chan st.chans s.ch).isSome) ∧ Keeps [] w w' := by
  obtain ⟨b, bm, vh, T, Us, SW, f, col, rfl, hm⟩ := h
  obtain ⟨ao, cap, rfl⟩ := hm.chans.shape
  have hle := hm.chans.le
  have HM := Lib.hid hm
  have A1 : ∀ x : Obj, (w.alloc x).cell? ⟨c, 0, none⟩ = some (.pointer (some ⟨b, 0, none⟩)) := fun x => ((Keeps.refl [] w).alloc x).cell hc (by simp)
  clear hc hm
  obtain ⟨sc, ss, sv⟩ := s
  unfold sdV
  simp only
  by_cases hin : 1 ≤ sc ∧ sc ≤ (st.chans.length : Int)
  · obtain ⟨k, rfl⟩ : ∃ k : Nat, sc = (k : Int) + 1 := ⟨(sc - 1).toNat, by omega⟩
    have hk : k < st.chans.length := by omega
    obtain ⟨ch, hch, hc2⟩ := Md.chan_some hin.1 hin.2
    rw [show ((k : Int) + 1 - 1).toNat = k by omega] at hc2
    obtain ⟨gc, off, _, _, rfl, _⟩ := HM.out.chans.get hc2
    rw [hch]
    clear hch hc2
    go_enter Try.func57, Try.ntmps57
    go_wp2_with fail
    refine (model_channel _ b _ _ gc off k _ (HM.out.blk.alloc _) hle hk).mono ?_
    rintro e w1 ⟨rfl, rfl⟩
    go_wp2_with fail
    go_ret
    exact ⟨rfl, (Keeps.refl [] w).alloc _⟩
  · have hout : sc < 1 ∨ (st.chans.length : Int) < sc := by omega
    rw [Md.chan_none hout]
    go_enter Try.func57, Try.ntmps57
    go_wp2_with fail
    refine (model_channel_no _ b _ _ _ _ _ (HM.out.blk.alloc _) hle hout).mono ?_
    rintro e w1 ⟨rfl, rfl⟩
    go_wp2_with fail
    go_ret
    exact ⟨rfl, (Keeps.refl [] w).alloc _⟩

theorem isNone {α : Type} {x : Option α} (h : x.isSome = false) : x = none := by cases x with | none => rfl | some _ => cases h
theorem MoAt.up1 {w : World} {b bm : Nat} {vc : Value} {st : Md.St} {N : Nat} {S T SW : List Nat} {Us : List (List Nat)} {f : Int → Option Value} {col : Nat → Nat} (h : MoAt w b bm vc st N S T Us SW f col) : MoAt w b bm vc st (N + 1) S T Us SW f col :=
  ⟨h.blk, h.chans.mono (Nat.le_succ N), h.map.mono (Nat.le_succ N), h.wm, h.cb, h.cm, h.cw, h.sb, h.sm, h.st, h.su, h.sw, h.lt⟩
def WaitPost (S : List Nat) (w : World) (p : Value) (D : Md.St × Bool) (N : Nat) (e : Ending) (w' : World) : Prop := e = .returned (.bool D.2) ∧ MoTo S w w' p D.1 N
theorem wait_no {S : List Nat} {w W : World} {p : Value} {st : Md.St} {D : Md.St × Bool} {N : Nat} (h : D = (st, false)) (hm : Mo w p st N S) (k : Keeps [] w W) : WaitPost S w p D (N + 1) (.returned (.bool false)) W := by
  subst h
  obtain ⟨b, bm, vc, T, Us, SW, f, col, h1, h2⟩ := hm
  exact ⟨rfl, MoTo.refl ⟨b, bm, vc, T, Us, SW, f, col, h1, (h2.then k).up1⟩ k⟩

set_option maxRecDepth 100000 in
set_option maxHeartbeats 3200000 in
theorem model_wait2 (w : World) (p : Value) (st : Md.St) (N : Nat) (S : List Nat) (g : Int) (o : Pn.Op) (vc : Value) (U : List Nat) (h : Mo w p st N S) (hv : GV caseE 3 w vc o.cases U) (hN : N ≤ 100000) (hgw : wf64L g) (hb : o.cases.length ≤ 1000) (e2 : o.kind = 2) :
    Calls Try.prog 20 #[p, .int .i64 g, .agg (opV o vc)] w (WaitPost S w p (Md.wait st g o) (N + 1)) := by
  have hmf : ∀ (fn : Fn) (first cap : Array Value) (w : World), (Instr.makeFunc fn first cap).run Try.prog w = .ok (.func fn first cap) w := fun _ _ _ _ => rfl
  have HM := Lib.hid h
  have HV := Lib.hid hv
  have HCB := Lib.hid hb
  obtain ⟨b, _, _, _, _, _, _, _, rfl, _⟩ := h
  obtain ⟨av, cv, rfl⟩ := hv.shape
  obtain ⟨D, hD⟩ : ∃ D, Md.wait st g o = D := ⟨_, rfl⟩
  rw [hD]
  have HD := Lib.hid hD
  obtain ⟨w0, hw0⟩ : ∃ w0, (w.alloc (.cells #[.pointer (some ⟨b, 0, none⟩)] 25)).alloc (.cells (opV o (.slice av o.cases.length cv)) 33) = w0 := ⟨_, rfl⟩
  have K0 : Hid (Keeps [] w w0) := Lib.hid (hw0 ▸ ((Keeps.refl [] w).alloc _).alloc _)
  have HC : Hid (w0.cell? ⟨w.heap.size, 0, none⟩ = some (.pointer (some ⟨b, 0, none⟩))) := Lib.hid (hw0 ▸ ((Blk.fresh w [.pointer (some ⟨b, 0, none⟩)] _ _ rfl).alloc _).cell 0)
  have HOB : Hid (Blk w0 (w.heap.size + 1) [.int .i64 o.kind, .int .i64 o.ch, .int .i64 o.n, .int .i64 o.v, .slice av o.cases.length cv, .bool o.els] 33) := Lib.hid (hw0 ▸ Blk.fresh _ [.int .i64 o.kind, .int .i64 o.ch, .int .i64 o.n, .int .i64 o.v, .slice av o.cases.length cv, .bool o.els] _ _ (by simp))
  have HSZ : Hid (w.heap.size + 2 ≤ w0.heap.size) := Lib.hid (by rw [← hw0]; simp)
  obtain ⟨⟨b0, b1, b2, b3, b4, b5⟩, _⟩ := Blk.six HOB.out
  have c0 := HC.out
  clear hv hD hb
  have hk2 : (o.kind == 2) = true := by simp [e2]
  have hk3 : (o.kind == 3) = false := by simp [e2]
  have hk9 : (o.kind == 9) = false := by simp [e2]
  have HBG : Hid (Md.begins o = true) := Lib.hid (by unfold Md.begins; rw [decide_eq_true_iff]; exact .inl e2)
  clear e2
  unfold opV at hw0
  unfold opV
  go_enter Try.func20, Try.ntmps20
  go_wp2_with fail
  refine (model_anyW _ _ o _ U (fun _ s => (Md.chan st.chans s.ch).isSome) (HV.out.then caseE_kept K0.out) (fun i s w' _ k => model_there w' _ st N S i s _ (HM.out.then (K0.out.then k)) (k.cell HC.out (by simp)))).mono ?_
  rintro e w1 ⟨rfl, k1⟩
  have K1 := Lib.hid k1
  clear k1 c0 b0 b1 b2 b3 b4 b5 hw0
  have c0 := K1.out.cell HC.out (by simp)
  obtain ⟨⟨b0, b1, b2, b3, b4, b5⟩, _⟩ := Blk.six (HOB.out.keep K1.out (by simp))
  cases hq1 : Md.any o (fun _ s => (Md.chan st.chans s.ch).isSome) with
  | false =>
    have HE : Hid (D = (st, false)) := Lib.hid (by rw [← HD.out]; unfold Md.wait; rw [if_neg (by rw [hq1]; simp)])
    go_wp2_with fail
    go_ret
    exact wait_no HE.out HM.out (K0.out.then K1.out)
  | true =>
    have HQ1 := Lib.hid hq1
    clear hq1
    go_wp2_with fail
    refine (model_waits _ _ st N S g (HM.out.then (K0.out.then K1.out)) hgw).mono ?_
    rintro e w2 ⟨rfl, k2⟩
    have K2 := Lib.hid (K1.out.then k2)
    clear k2 c0 b0 b1 b2 b3 b4 b5
    have c0 := K2.out.cell HC.out (by simp)
    obtain ⟨⟨b0, b1, b2, b3, b4, b5⟩, _⟩ := Blk.six (HOB.out.keep K2.out (by simp))
    cases hq2 : (st.waits g).isSome with
    | true =>
      have HE : Hid (D = (st, false)) := Lib.hid (by rw [← HD.out]; unfold Md.wait; rw [if_neg (by rintro ⟨_, _, h, _⟩; rw [h] at hq2; cases hq2)])
      go_wp2_with fail
      go_ret
      exact wait_no HE.out HM.out (K0.out.then K2.out)
    | false =>
      have HQ2 := Lib.hid hq2
      clear hq2
      go_wp2_with fail
      refine (model_Any _ _ st N S g o _ U (HM.out.then (K0.out.then K2.out)) (HV.out.then caseE_kept (K0.out.then K2.out))).mono ?_
      rintro e w3 ⟨rfl, k3⟩
      have K3 := Lib.hid (K2.out.then k3)
      clear k3 c0 b0 b1 b2 b3 b4 b5
      have c0 := K3.out.cell HC.out (by simp)
      obtain ⟨⟨b0, b1, b2, b3, b4, b5⟩, f0, f1, f2, f3, f4, f5⟩ := Blk.six (HOB.out.keep K3.out (by simp))
      cases hq3 : Md.anyMay st g o with
      | true =>
        have HE : Hid (D = (st, false)) := Lib.hid (by rw [← HD.out]; unfold Md.wait; rw [if_neg (by rintro ⟨_, _, _, h⟩; rw [hq3] at h; cases h)])
        go_wp2_with fail
        go_ret
        exact wait_no HE.out HM.out (K0.out.then K3.out)
      | false =>
        have HE : Hid (D = (⟨st.chans, fun c => if c = g then some o else st.waits c⟩, true)) := Lib.hid (by
          rw [← HD.out]; unfold Md.wait
          rw [if_pos ⟨HBG.out, HQ1.out, isNone HQ2.out, hq3⟩])
        clear hq3
        go_wp2_with fail
        refine (clone_cases _ _ o.cases U (HV.out.then caseE_kept (K0.out.then K3.out)) HCB.out).mono ?_
        rintro e w4 ⟨v4, U4, rfl, g4, u4, k4⟩
        obtain ⟨a4, c4, rfl⟩ := g4.shape
        have K4 := Lib.hid (K3.out.then k4)
        clear c0 b0 b1 b2 b3 b4 b5 f0 f1 f2 f3 f4 f5
        obtain ⟨b', bm, vh, T, Us, SW, f, col, hpe, hm⟩ := HM.out
        obtain rfl : b = b' := by simpa using hpe
        have HMA := Lib.hid hm
        have hob4 := HOB.out.keep K4.out (by simp)
        obtain ⟨⟨b0, b1, b2, b3, b4, b5⟩, f0, f1, f2, f3, f4, f5⟩ := Blk.six hob4
        obtain ⟨w5, hw5⟩ : ∃ w5, w4.setCell ⟨w.heap.size + 1, 4, none⟩ (.slice a4 o.cases.length c4) = w5 := ⟨_, rfl⟩
        have K45 : Hid (Keeps [w.heap.size + 1] w4 w5) := Lib.hid (by rw [← hw5]; exact (Keeps.refl _ w4).setCell (by simp) _)
        have hob5 : Blk w5 (w.heap.size + 1) [.int .i64 o.kind, .int .i64 o.ch, .int .i64 o.n, .int .i64 o.v, .slice a4 o.cases.length c4, .bool o.els] 33 := by
          rw [← hw5]
          have := hob4.set 4 (.slice a4 o.cases.length c4)
          simpa only [List.set_cons_succ, List.set_cons_zero] using this
        have K05 : Hid (Keeps [] w w5) := Lib.hid ((K0.out.then K4.out).trans K45.out (by simp))
        have HM5 := Lib.hid (HMA.out.then K05.out)
        have G5 := Lib.hid (g4.keep caseE_kept K45.out (fun x hx hm2 => by simp at hm2; have := u4 x hx; have := (K0.out.then K3.out).size; have := HSZ.out; have := K3.out.size; omega))
        have HU4 : Hid (∀ x ∈ U4, w.heap.size ≤ x) := Lib.hid (fun x hx => by have := u4 x hx; have := (K0.out.then K3.out).size; omega)
        have HC5 := Lib.hid (K45.out.cell (K4.out.cell HC.out (by simp)) (by simp))
        have HOB5 := Lib.hid hob5
        clear g4 u4 k4 hm hpe hob4 hob5
        go_upto_region 6 with fail
        clear hw5 b0 b1 b2 b3 b4 b5 f0 f1 f2 f3 f4 f5
        have c0 := HC5.out
        have m1 := HM5.out.cells.2.1
        obtain ⟨⟨b0, b1, b2, b3, b4, b5⟩, _⟩ := Blk.six HOB5.out
        go_still_tail 6, (by kernel_rfl)
        change wpList _ _ _ _ _ w5.drew
        have kd : Keeps [] w5 w5.drew := (Keeps.refl [] w5).drew
        refine wp_mapSet (f := f) (u := .agg (opV o (.slice a4 o.cases.length c4))) Try.underlying3 Try.underlying100 hgw (HM5.out.map.then kd) (by simp [maxLen]; omega) ?_
        intro w6 m6 k6
        obtain ⟨S2, SW2, col2, hM6, kS6, sS6⟩ := HMA.out.add (o := o) (K05.out.then kd) g hgw m6 k6 (G5.out.then caseE_kept kd) HU4.out
        have HM6 := Lib.hid hM6
        have HK6 := Lib.hid kS6
        have HS6 := Lib.hid sS6
        clear m6 k6 hM6 kS6 sS6 kd b0 b1 b2 b3 b4 b5 c0 m1
        go_wp2_with fail
        go_ret
        rw [HE.out]
        exact ⟨rfl, S2, ⟨b, bm, _, _, _, _, _, _, rfl, HM6.out⟩, HK6.out, HS6.out⟩

set_option maxRecDepth 100000 in
set_option maxHeartbeats 3200000 in
theorem model_wait3 (w : World) (p : Value) (st : Md.St) (N : Nat) (S : List Nat) (g : Int) (o : Pn.Op) (vc : Value) (U : List Nat) (h : Mo w p st N S) (hv : GV caseE 3 w vc o.cases U) (hN : N ≤ 100000) (hgw : wf64L g) (hb : o.cases.length ≤ 1000) (e3 : o.kind = 3) :
    Calls Try.prog 20 #[p, .int .i64 g, .agg (opV o vc)] w (WaitPost S w p (Md.wait st g o) (N + 1)) := by
  have hmf : ∀ (fn : Fn) (first cap : Array Value) (w : World), (Instr.makeFunc fn first cap).run Try.prog w = .ok (.func fn first cap) w := fun _ _ _ _ => rfl
  have HM := Lib.hid h
  have HV := Lib.hid hv
  have HCB := Lib.hid hb
  obtain ⟨b, _, _, _, _, _, _, _, rfl, _⟩ := h
  obtain ⟨av, cv, rfl⟩ := hv.shape
  obtain ⟨D, hD⟩ : ∃ D, Md.wait st g o = D := ⟨_, rfl⟩
  rw [hD]
  have HD := Lib.hid hD
  obtain ⟨w0, hw0⟩ : ∃ w0, (w.alloc (.cells #[.pointer (some ⟨b, 0, none⟩)] 25)).alloc (.cells (opV o (.slice av o.cases.length cv)) 33) = w0 := ⟨_, rfl⟩
  have K0 : Hid (Keeps [] w w0) := Lib.hid (hw0 ▸ ((Keeps.refl [] w).alloc _).alloc _)
  have HC : Hid (w0.cell? ⟨w.heap.size, 0, none⟩ = some (.pointer (some ⟨b, 0, none⟩))) := Lib.hid (hw0 ▸ ((Blk.fresh w [.pointer (some ⟨b, 0, none⟩)] _ _ rfl).alloc _).cell 0)
  have HOB : Hid (Blk w0 (w.heap.size + 1) [.int .i64 o.kind, .int .i64 o.ch, .int .i64 o.n, .int .i64 o.v, .slice av o.cases.length cv, .bool o.els] 33) := Lib.hid (hw0 ▸ Blk.fresh _ [.int .i64 o.kind, .int .i64 o.ch, .int .i64 o.n, .int .i64 o.v, .slice av o.cases.length cv, .bool o.els] _ _ (by simp))
  have HSZ : Hid (w.heap.size + 2 ≤ w0.heap.size) := Lib.hid (by rw [← hw0]; simp)
  obtain ⟨⟨b0, b1, b2, b3, b4, b5⟩, _⟩ := Blk.six HOB.out
  have c0 := HC.out
  clear hv hD hb
  have hk2 : (o.kind == 2) = false := by simp [e3]
  have hk3 : (o.kind == 3) = true := by simp [e3]
  have hk9 : (o.kind == 9) = false := by simp [e3]
  have HBG : Hid (Md.begins o = true) := Lib.hid (by unfold Md.begins; rw [decide_eq_true_iff]; exact .inr (.inl e3))
  clear e3
  unfold opV at hw0
  unfold opV
  go_enter Try.func20, Try.ntmps20
  go_wp2_with fail
  refine (model_anyW _ _ o _ U (fun _ s => (Md.chan st.chans s.ch).isSome) (HV.out.then caseE_kept K0.out) (fun i s w' _ k => model_there w' _ st N S i s _ (HM.out.then (K0.out.then k)) (k.cell HC.out (by simp)))).mono ?_
  rintro e w1 ⟨rfl, k1⟩
  have K1 := Lib.hid k1
  clear k1 c0 b0 b1 b2 b3 b4 b5 hw0
  have c0 := K1.out.cell HC.out (by simp)
  obtain ⟨⟨b0, b1, b2, b3, b4, b5⟩, _⟩ := Blk.six (HOB.out.keep K1.out (by simp))
  cases hq1 : Md.any o (fun _ s => (Md.chan st.chans s.ch).isSome) with
  | false =>
    have HE : Hid (D = (st, false)) := Lib.hid (by rw [← HD.out]; unfold Md.wait; rw [if_neg (by rw [hq1]; simp)])
    go_wp2_with fail
    go_ret
    exact wait_no HE.out HM.out (K0.out.then K1.out)
  | true =>
    have HQ1 := Lib.hid hq1
    clear hq1
    go_wp2_with fail
    refine (model_waits _ _ st N S g (HM.out.then (K0.out.then K1.out)) hgw).mono ?_
    rintro e w2 ⟨rfl, k2⟩
    have K2 := Lib.hid (K1.out.then k2)
    clear k2 c0 b0 b1 b2 b3 b4 b5
    have c0 := K2.out.cell HC.out (by simp)
    obtain ⟨⟨b0, b1, b2, b3, b4, b5⟩, _⟩ := Blk.six (HOB.out.keep K2.out (by simp))
    cases hq2 : (st.waits g).isSome with
    | true =>
      have HE : Hid (D = (st, false)) := Lib.hid (by rw [← HD.out]; unfold Md.wait; rw [if_neg (by rintro ⟨_, _, h, _⟩; rw [h] at hq2; cases hq2)])
      go_wp2_with fail
      go_ret
      exact wait_no HE.out HM.out (K0.out.then K2.out)
    | false =>
      have HQ2 := Lib.hid hq2
      clear hq2
      go_wp2_with fail
      refine (model_Any _ _ st N S g o _ U (HM.out.then (K0.out.then K2.out)) (HV.out.then caseE_kept (K0.out.then K2.out))).mono ?_
      rintro e w3 ⟨rfl, k3⟩
      have K3 := Lib.hid (K2.out.then k3)
      clear k3 c0 b0 b1 b2 b3 b4 b5
      have c0 := K3.out.cell HC.out (by simp)
      obtain ⟨⟨b0, b1, b2, b3, b4, b5⟩, f0, f1, f2, f3, f4, f5⟩ := Blk.six (HOB.out.keep K3.out (by simp))
      cases hq3 : Md.anyMay st g o with
      | true =>
        have HE : Hid (D = (st, false)) := Lib.hid (by rw [← HD.out]; unfold Md.wait; rw [if_neg (by rintro ⟨_, _, _, h⟩; rw [hq3] at h; cases h)])
        go_wp2_with fail
        go_ret
        exact wait_no HE.out HM.out (K0.out.then K3.out)
      | false =>
        have HE : Hid (D = (⟨st.chans, fun c => if c = g then some o else st.waits c⟩, true)) := Lib.hid (by
          rw [← HD.out]; unfold Md.wait
          rw [if_pos ⟨HBG.out, HQ1.out, isNone HQ2.out, hq3⟩])
        clear hq3
        go_wp2_with fail
        refine (clone_cases _ _ o.cases U (HV.out.then caseE_kept (K0.out.then K3.out)) HCB.out).mono ?_
        rintro e w4 ⟨v4, U4, rfl, g4, u4, k4⟩
        obtain ⟨a4, c4, rfl⟩ := g4.shape
        have K4 := Lib.hid (K3.out.then k4)
        clear c0 b0 b1 b2 b3 b4 b5 f0 f1 f2 f3 f4 f5
        obtain ⟨b', bm, vh, T, Us, SW, f, col, hpe, hm⟩ := HM.out
        obtain rfl : b = b' := by simpa using hpe
        have HMA := Lib.hid hm
        have hob4 := HOB.out.keep K4.out (by simp)
        obtain ⟨⟨b0, b1, b2, b3, b4, b5⟩, f0, f1, f2, f3, f4, f5⟩ := Blk.six hob4
        obtain ⟨w5, hw5⟩ : ∃ w5, w4.setCell ⟨w.heap.size + 1, 4, none⟩ (.slice a4 o.cases.length c4) = w5 := ⟨_, rfl⟩
        have K45 : Hid (Keeps [w.heap.size + 1] w4 w5) := Lib.hid (by rw [← hw5]; exact (Keeps.refl _ w4).setCell (by simp) _)
        have hob5 : Blk w5 (w.heap.size + 1) [.int .i64 o.kind, .int .i64 o.ch, .int .i64 o.n, .int .i64 o.v, .slice a4 o.cases.length c4, .bool o.els] 33 := by
          rw [← hw5]
          have := hob4.set 4 (.slice a4 o.cases.length c4)
          simpa only [List.set_cons_succ, List.set_cons_zero] using this
        have K05 : Hid (Keeps [] w w5) := Lib.hid ((K0.out.then K4.out).trans K45.out (by simp))
        have HM5 := Lib.hid (HMA.out.then K05.out)
        have G5 := Lib.hid (g4.keep caseE_kept K45.out (fun x hx hm2 => by simp at hm2; have := u4 x hx; have := (K0.out.then K3.out).size; have := HSZ.out; have := K3.out.size; omega))
        have HU4 : Hid (∀ x ∈ U4, w.heap.size ≤ x) := Lib.hid (fun x hx => by have := u4 x hx; have := (K0.out.then K3.out).size; omega)
        have HC5 := Lib.hid (K45.out.cell (K4.out.cell HC.out (by simp)) (by simp))
        have HOB5 := Lib.hid hob5
        clear g4 u4 k4 hm hpe hob4 hob5
        go_upto_region 6 with fail
        clear hw5 b0 b1 b2 b3 b4 b5 f0 f1 f2 f3 f4 f5
        have c0 := HC5.out
        have m1 := HM5.out.cells.2.1
        obtain ⟨⟨b0, b1, b2, b3, b4, b5⟩, _⟩ := Blk.six HOB5.out
        go_still_tail 6, (by kernel_rfl)
        change wpList _ _ _ _ _ w5.drew
        have kd : Keeps [] w5 w5.drew := (Keeps.refl [] w5).drew
        refine wp_mapSet (f := f) (u := .agg (opV o (.slice a4 o.cases.length c4))) Try.underlying3 Try.underlying100 hgw (HM5.out.map.then kd) (by simp [maxLen]; omega) ?_
        intro w6 m6 k6
        obtain ⟨S2, SW2, col2, hM6, kS6, sS6⟩ := HMA.out.add (o := o) (K05.out.then kd) g hgw m6 k6 (G5.out.then caseE_kept kd) HU4.out
        have HM6 := Lib.hid hM6
        have HK6 := Lib.hid kS6
        have HS6 := Lib.hid sS6
        clear m6 k6 hM6 kS6 sS6 kd b0 b1 b2 b3 b4 b5 c0 m1
        go_wp2_with fail
        go_ret
        rw [HE.out]
        exact ⟨rfl, S2, ⟨b, bm, _, _, _, _, _, _, rfl, HM6.out⟩, HK6.out, HS6.out⟩

set_option maxRecDepth 100000 in
set_option maxHeartbeats 3200000 in
theorem model_wait9 (w : World) (p : Value) (st : Md.St) (N : Nat) (S : List Nat) (g : Int) (oc on ov : Int) (ocs : List Pn.Cs) (vc : Value) (U : List Nat) (h : Mo w p st N S) (hv : GV caseE 3 w vc ocs U) (hN : N ≤ 100000) (hgw : wf64L g) (hb : ocs.length ≤ 1000) :
    Calls Try.prog 20 #[p, .int .i64 g, .agg (opV ⟨9, oc, on, ov, ocs, false⟩ vc)] w (WaitPost S w p (Md.wait st g ⟨9, oc, on, ov, ocs, false⟩) (N + 1)) := by
  have hmf : ∀ (fn : Fn) (first cap : Array Value) (w : World), (Instr.makeFunc fn first cap).run Try.prog w = .ok (.func fn first cap) w := fun _ _ _ _ => rfl
  have HM := Lib.hid h
  have HV := Lib.hid hv
  have HCB := Lib.hid hb
  obtain ⟨b, _, _, _, _, _, _, _, rfl, _⟩ := h
  obtain ⟨av, cv, rfl⟩ := hv.shape
  obtain ⟨D, hD⟩ : ∃ D, Md.wait st g ⟨9, oc, on, ov, ocs, false⟩ = D := ⟨_, rfl⟩
  rw [hD]
  have HD := Lib.hid hD
  obtain ⟨w0, hw0⟩ : ∃ w0, (w.alloc (.cells #[.pointer (some ⟨b, 0, none⟩)] 25)).alloc (.cells (opV ⟨9, oc, on, ov, ocs, false⟩ (.slice av ocs.length cv)) 33) = w0 := ⟨_, rfl⟩
  have K0 : Hid (Keeps [] w w0) := Lib.hid (hw0 ▸ ((Keeps.refl [] w).alloc _).alloc _)
  have HC : Hid (w0.cell? ⟨w.heap.size, 0, none⟩ = some (.pointer (some ⟨b, 0, none⟩))) := Lib.hid (hw0 ▸ ((Blk.fresh w [.pointer (some ⟨b, 0, none⟩)] _ _ rfl).alloc _).cell 0)
  have HOB : Hid (Blk w0 (w.heap.size + 1) [.int .i64 9, .int .i64 oc, .int .i64 on, .int .i64 ov, .slice av ocs.length cv, .bool false] 33) := Lib.hid (hw0 ▸ Blk.fresh _ [.int .i64 9, .int .i64 oc, .int .i64 on, .int .i64 ov, .slice av ocs.length cv, .bool false] _ _ (by simp))
  have HSZ : Hid (w.heap.size + 2 ≤ w0.heap.size) := Lib.hid (by rw [← hw0]; simp)
  obtain ⟨⟨b0, b1, b2, b3, b4, b5⟩, _⟩ := Blk.six HOB.out
  have c0 := HC.out
  clear hv hD hb
  have HBG : Hid (Md.begins ⟨9, oc, on, ov, ocs, false⟩ = true) := Lib.hid (by unfold Md.begins; rw [decide_eq_true_iff]; exact .inr (.inr ⟨rfl, rfl⟩))
  unfold opV at hw0
  unfold opV
  simp only at hw0 ⊢
  go_enter Try.func20, Try.ntmps20
  go_wp2_with fail
  refine (model_anyW _ _ ⟨9, oc, on, ov, ocs, false⟩ _ U (fun _ s => (Md.chan st.chans s.ch).isSome) (HV.out.then caseE_kept K0.out) (fun i s w' _ k => model_there w' _ st N S i s _ (HM.out.then (K0.out.then k)) (k.cell HC.out (by simp)))).mono ?_
  rintro e w1 ⟨rfl, k1⟩
  have K1 := Lib.hid k1
  clear k1 c0 b0 b1 b2 b3 b4 b5 hw0
  have c0 := K1.out.cell HC.out (by simp)
  obtain ⟨⟨b0, b1, b2, b3, b4, b5⟩, _⟩ := Blk.six (HOB.out.keep K1.out (by simp))
  cases hq1 : Md.any ⟨9, oc, on, ov, ocs, false⟩ (fun _ s => (Md.chan st.chans s.ch).isSome) with
  | false =>
    have HE : Hid (D = (st, false)) := Lib.hid (by rw [← HD.out]; unfold Md.wait; rw [if_neg (by rw [hq1]; simp)])
    go_wp2_with fail
    go_ret
    exact wait_no HE.out HM.out (K0.out.then K1.out)
  | true =>
    have HQ1 := Lib.hid hq1
    clear hq1
    go_wp2_with fail
    refine (model_waits _ _ st N S g (HM.out.then (K0.out.then K1.out)) hgw).mono ?_
    rintro e w2 ⟨rfl, k2⟩
    have K2 := Lib.hid (K1.out.then k2)
    clear k2 c0 b0 b1 b2 b3 b4 b5
    have c0 := K2.out.cell HC.out (by simp)
    obtain ⟨⟨b0, b1, b2, b3, b4, b5⟩, _⟩ := Blk.six (HOB.out.keep K2.out (by simp))
    cases hq2 : (st.waits g).isSome with
    | true =>
      have HE : Hid (D = (st, false)) := Lib.hid (by rw [← HD.out]; unfold Md.wait; rw [if_neg (by rintro ⟨_, _, h, _⟩; rw [h] at hq2; cases hq2)])
      go_wp2_with fail
      go_ret
      exact wait_no HE.out HM.out (K0.out.then K2.out)
    | false =>
      have HQ2 := Lib.hid hq2
      clear hq2
      go_wp2_with fail
      refine (model_Any _ _ st N S g ⟨9, oc, on, ov, ocs, false⟩ _ U (HM.out.then (K0.out.then K2.out)) (HV.out.then caseE_kept (K0.out.then K2.out))).mono ?_
      rintro e w3 ⟨rfl, k3⟩
      have K3 := Lib.hid (K2.out.then k3)
      clear k3 c0 b0 b1 b2 b3 b4 b5
      have c0 := K3.out.cell HC.out (by simp)
      obtain ⟨⟨b0, b1, b2, b3, b4, b5⟩, f0, f1, f2, f3, f4, f5⟩ := Blk.six (HOB.out.keep K3.out (by simp))
      cases hq3 : Md.anyMay st g ⟨9, oc, on, ov, ocs, false⟩ with
      | true =>
        have HE : Hid (D = (st, false)) := Lib.hid (by rw [← HD.out]; unfold Md.wait; rw [if_neg (by rintro ⟨_, _, _, h⟩; rw [hq3] at h; cases h)])
        go_wp2_with fail
        go_ret
        exact wait_no HE.out HM.out (K0.out.then K3.out)
      | false =>
        have HE : Hid (D = (⟨st.chans, fun c => if c = g then some ⟨9, oc, on, ov, ocs, false⟩ else st.waits c⟩, true)) := Lib.hid (by
          rw [← HD.out]; unfold Md.wait
          rw [if_pos ⟨HBG.out, HQ1.out, isNone HQ2.out, hq3⟩])
        clear hq3
        go_wp2_with fail
        refine (clone_cases _ _ ocs U (HV.out.then caseE_kept (K0.out.then K3.out)) HCB.out).mono ?_
        rintro e w4 ⟨v4, U4, rfl, g4, u4, k4⟩
        obtain ⟨a4, c4, rfl⟩ := g4.shape
        have K4 := Lib.hid (K3.out.then k4)
        clear c0 b0 b1 b2 b3 b4 b5 f0 f1 f2 f3 f4 f5
        obtain ⟨b', bm, vh, T, Us, SW, f, col, hpe, hm⟩ := HM.out
        obtain rfl : b = b' := by simpa using hpe
        have HMA := Lib.hid hm
        have hob4 := HOB.out.keep K4.out (by simp)
        obtain ⟨⟨b0, b1, b2, b3, b4, b5⟩, f0, f1, f2, f3, f4, f5⟩ := Blk.six hob4
        obtain ⟨w5, hw5⟩ : ∃ w5, w4.setCell ⟨w.heap.size + 1, 4, none⟩ (.slice a4 ocs.length c4) = w5 := ⟨_, rfl⟩
        have K45 : Hid (Keeps [w.heap.size + 1] w4 w5) := Lib.hid (by rw [← hw5]; exact (Keeps.refl _ w4).setCell (by simp) _)
        have hob5 : Blk w5 (w.heap.size + 1) [.int .i64 9, .int .i64 oc, .int .i64 on, .int .i64 ov, .slice a4 ocs.length c4, .bool false] 33 := by
          rw [← hw5]
          have := hob4.set 4 (.slice a4 ocs.length c4)
          simpa only [List.set_cons_succ, List.set_cons_zero] using this
        have K05 : Hid (Keeps [] w w5) := Lib.hid ((K0.out.then K4.out).trans K45.out (by simp))
        have HM5 := Lib.hid (HMA.out.then K05.out)
        have G5 := Lib.hid (g4.keep caseE_kept K45.out (fun x hx hm2 => by simp at hm2; have := u4 x hx; have := (K0.out.then K3.out).size; have := HSZ.out; have := K3.out.size; omega))
        have HU4 : Hid (∀ x ∈ U4, w.heap.size ≤ x) := Lib.hid (fun x hx => by have := u4 x hx; have := (K0.out.then K3.out).size; omega)
        have HC5 := Lib.hid (K45.out.cell (K4.out.cell HC.out (by simp)) (by simp))
        have HOB5 := Lib.hid hob5
        clear g4 u4 k4 hm hpe hob4 hob5
        go_upto_region 6 with fail
        clear hw5 b0 b1 b2 b3 b4 b5 f0 f1 f2 f3 f4 f5
        have c0 := HC5.out
        have m1 := HM5.out.cells.2.1
        obtain ⟨⟨b0, b1, b2, b3, b4, b5⟩, _⟩ := Blk.six HOB5.out
        go_still_tail 6, (by kernel_rfl)
        change wpList _ _ _ _ _ w5.drew
        have kd : Keeps [] w5 w5.drew := (Keeps.refl [] w5).drew
        refine wp_mapSet (f := f) (u := .agg (opV ⟨9, oc, on, ov, ocs, false⟩ (.slice a4 ocs.length c4))) Try.underlying3 Try.underlying100 hgw (HM5.out.map.then kd) (by simp [maxLen]; omega) ?_
        intro w6 m6 k6
        obtain ⟨S2, SW2, col2, hM6, kS6, sS6⟩ := HMA.out.add (o := ⟨9, oc, on, ov, ocs, false⟩) (K05.out.then kd) g hgw m6 k6 (G5.out.then caseE_kept kd) HU4.out
        have HM6 := Lib.hid hM6
        have HK6 := Lib.hid kS6
        have HS6 := Lib.hid sS6
        clear m6 k6 hM6 kS6 sS6 kd b0 b1 b2 b3 b4 b5 c0 m1
        go_wp2_with fail
        go_ret
        rw [HE.out]
        exact ⟨rfl, S2, ⟨b, bm, _, _, _, _, _, _, rfl, HM6.out⟩, HK6.out, HS6.out⟩

set_option maxRecDepth 100000 in
set_option maxHeartbeats 3200000 in
theorem model_wait9e (w : World) (p : Value) (st : Md.St) (N : Nat) (S : List Nat) (g : Int) (o : Pn.Op) (vc : Value) (U : List Nat) (h : Mo w p st N S) (hv : GV caseE 3 w vc o.cases U) (hN : N ≤ 100000) (hgw : wf64L g) (hb : o.cases.length ≤ 1000) (e9 : o.kind = 9) (els : o.els = true) :
    Calls Try.prog 20 #[p, .int .i64 g, .agg (opV o vc)] w (WaitPost S w p (Md.wait st g o) (N + 1)) := by
  have hmf : ∀ (fn : Fn) (first cap : Array Value) (w : World), (Instr.makeFunc fn first cap).run Try.prog w = .ok (.func fn first cap) w := fun _ _ _ _ => rfl
  have HM := Lib.hid h
  have HV := Lib.hid hv
  have HCB := Lib.hid hb
  obtain ⟨b, _, _, _, _, _, _, _, rfl, _⟩ := h
  obtain ⟨av, cv, rfl⟩ := hv.shape
  obtain ⟨D, hD⟩ : ∃ D, Md.wait st g o = D := ⟨_, rfl⟩
  rw [hD]
  have HD := Lib.hid hD
  obtain ⟨w0, hw0⟩ : ∃ w0, (w.alloc (.cells #[.pointer (some ⟨b, 0, none⟩)] 25)).alloc (.cells (opV o (.slice av o.cases.length cv)) 33) = w0 := ⟨_, rfl⟩
  have K0 : Hid (Keeps [] w w0) := Lib.hid (hw0 ▸ ((Keeps.refl [] w).alloc _).alloc _)
  have HC : Hid (w0.cell? ⟨w.heap.size, 0, none⟩ = some (.pointer (some ⟨b, 0, none⟩))) := Lib.hid (hw0 ▸ ((Blk.fresh w [.pointer (some ⟨b, 0, none⟩)] _ _ rfl).alloc _).cell 0)
  have HOB : Hid (Blk w0 (w.heap.size + 1) [.int .i64 o.kind, .int .i64 o.ch, .int .i64 o.n, .int .i64 o.v, .slice av o.cases.length cv, .bool o.els] 33) := Lib.hid (hw0 ▸ Blk.fresh _ [.int .i64 o.kind, .int .i64 o.ch, .int .i64 o.n, .int .i64 o.v, .slice av o.cases.length cv, .bool o.els] _ _ (by simp))
  have HSZ : Hid (w.heap.size + 2 ≤ w0.heap.size) := Lib.hid (by rw [← hw0]; simp)
  obtain ⟨⟨b0, b1, b2, b3, b4, b5⟩, _⟩ := Blk.six HOB.out
  have c0 := HC.out
  clear hv hD hb
  rw [els] at b5
  have hk2 : (o.kind == 2) = false := by simp [e9]
  have hk3 : (o.kind == 3) = false := by simp [e9]
  have hk9 : (o.kind == 9) = true := by simp [e9]
  have HE : Hid (D = (st, false)) := Lib.hid (by rw [← HD.out]; unfold Md.wait; rw [if_neg (by rintro ⟨h, _⟩; unfold Md.begins at h; rw [decide_eq_true_iff] at h; rcases h with h | h | ⟨_, h⟩; omega; omega; rw [els] at h; cases h)])
  clear e9 els
  unfold opV at hw0
  unfold opV
  go_enter Try.func20, Try.ntmps20
  go_wp2_with fail
  go_ret
  exact wait_no HE.out HM.out K0.out

set_option maxRecDepth 100000 in
set_option maxHeartbeats 3200000 in
theorem model_wait0 (w : World) (p : Value) (st : Md.St) (N : Nat) (S : List Nat) (g : Int) (o : Pn.Op) (vc : Value) (U : List Nat) (h : Mo w p st N S) (hv : GV caseE 3 w vc o.cases U) (hN : N ≤ 100000) (hgw : wf64L g) (hb : o.cases.length ≤ 1000) (e2 : o.kind ≠ 2) (e3 : o.kind ≠ 3) (e9 : o.kind ≠ 9) :
    Calls Try.prog 20 #[p, .int .i64 g, .agg (opV o vc)] w (WaitPost S w p (Md.wait st g o) (N + 1)) := by
  have hmf : ∀ (fn : Fn) (first cap : Array Value) (w : World), (Instr.makeFunc fn first cap).run Try.prog w = .ok (.func fn first cap) w := fun _ _ _ _ => rfl
  have HM := Lib.hid h
  have HV := Lib.hid hv
  have HCB := Lib.hid hb
  obtain ⟨b, _, _, _, _, _, _, _, rfl, _⟩ := h
  obtain ⟨av, cv, rfl⟩ := hv.shape
  obtain ⟨D, hD⟩ : ∃ D, Md.wait st g o = D := ⟨_, rfl⟩
  rw [hD]
  have HD := Lib.hid hD
  obtain ⟨w0, hw0⟩ : ∃ w0, (w.alloc (.cells #[.pointer (some ⟨b, 0, none⟩)] 25)).alloc (.cells (opV o (.slice av o.cases.length cv)) 33) = w0 := ⟨_, rfl⟩
  have K0 : Hid (Keeps [] w w0) := Lib.hid (hw0 ▸ ((Keeps.refl [] w).alloc _).alloc _)
  have HC : Hid (w0.cell? ⟨w.heap.size, 0, none⟩ = some (.pointer (some ⟨b, 0, none⟩))) := Lib.hid (hw0 ▸ ((Blk.fresh w [.pointer (some ⟨b, 0, none⟩)] _ _ rfl).alloc _).cell 0)
  have HOB : Hid (Blk w0 (w.heap.size + 1) [.int .i64 o.kind, .int .i64 o.ch, .int .i64 o.n, .int .i64 o.v, .slice av o.cases.length cv, .bool o.els] 33) := Lib.hid (hw0 ▸ Blk.fresh _ [.int .i64 o.kind, .int .i64 o.ch, .int .i64 o.n, .int .i64 o.v, .slice av o.cases.length cv, .bool o.els] _ _ (by simp))
  have HSZ : Hid (w.heap.size + 2 ≤ w0.heap.size) := Lib.hid (by rw [← hw0]; simp)
  obtain ⟨⟨b0, b1, b2, b3, b4, b5⟩, _⟩ := Blk.six HOB.out
  have c0 := HC.out
  clear hv hD hb
  have hk2 : (o.kind == 2) = false := by simp [e2, e3, e9]
  have hk3 : (o.kind == 3) = false := by simp [e2, e3, e9]
  have hk9 : (o.kind == 9) = false := by simp [e2, e3, e9]
  have HE : Hid (D = (st, false)) := Lib.hid (by rw [← HD.out]; unfold Md.wait; rw [if_neg (by rintro ⟨h, _⟩; unfold Md.begins at h; rw [decide_eq_true_iff] at h; rcases h with h | h | ⟨h, _⟩; exact e2 h; exact e3 h; exact e9 h)])
  clear e2 e3 e9
  unfold opV at hw0
  unfold opV
  go_enter Try.func20, Try.ntmps20
  go_wp2_with fail
  go_ret
  exact wait_no HE.out HM.out K0.out

theorem model_wait (w : World) (p : Value) (st : Md.St) (N : Nat) (S : List Nat) (g : Int) (o : Pn.Op) (vc : Value) (U : List Nat) (h : Mo w p st N S) (hv : GV caseE 3 w vc o.cases U) (hN : N ≤ 100000) (hgw : wf64L g) (hb : o.cases.length ≤ 1000) :
    Calls Try.prog 20 #[p, .int .i64 g, .agg (opV o vc)] w (WaitPost S w p (Md.wait st g o) (N + 1)) := by
  by_cases e2 : o.kind = 2
  · exact model_wait2 w p st N S g o vc U h hv hN hgw hb e2
  by_cases e3 : o.kind = 3
  · exact model_wait3 w p st N S g o vc U h hv hN hgw hb e3
  by_cases e9 : o.kind = 9
  · by_cases els : o.els = true
    · exact model_wait9e w p st N S g o vc U h hv hN hgw hb e9 els
    · obtain ⟨k, c, n, v, cs, e⟩ := o
      simp only at e9 els
      subst e9
      have he : e = false := by simpa using els
      subst he
      exact model_wait9 w p st N S g c n v cs vc U h hv hN hgw hb
  exact model_wait0 w p st N S g o vc U h hv hN hgw hb e2 e3 e9
end Go.Proofs.Ytopkfhmdgheghaa
