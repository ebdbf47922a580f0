/-
  handoffref20.Any, No, without: contracts.
  Conditions: none.
-/
import Derived.Test.YtopkfhmdgheghaaR20C
namespace Go.Proofs.Ytopkfhmdgheghaa
open Go.RowKit
set_option linter.unusedVariables false
set_option linter.unusedSimpArgs false
set_option linter.unnecessarySimpa false

set_option maxRecDepth 100000 in
set_option maxHeartbeats 1600000 in
theorem ref20_any (w : World) (vc vw vo : Value) (st : Md.St) (r : Mr.St) (S : List Nat) (gi : Int) (o : Pn.Op) (U : List Nat) (h : MR w vc vw r S) (hr : Mr.Rel st r) (ho : GV caseE 3 w vo o.cases U) :
    Calls Try.prog 33 #[.agg #[vc, vw], .int .i64 gi, .agg (opV o vo)] w fun e w' => e = .returned (.bool (Md.anyMay st gi o)) ∧ Keeps [] w w' := by
  have hol := ho.le
  unfold maxLen at hol
  have HM := Lib.hid h
  have HR := Lib.hid hr
  have HO := Lib.hid ho
  obtain ⟨ac, cc, rfl⟩ := h.1.shape
  obtain ⟨aw, cw, rfl⟩ := h.2.shape
  obtain ⟨ao, co, rfl⟩ := ho.shape
  obtain ⟨q, hq⟩ : ∃ q, Md.anyMay st gi o = q := ⟨_, rfl⟩
  rw [hq]
  unfold Md.anyMay at hq
  have HQ := Lib.hid hq
  clear h hr ho hq
  obtain ⟨w0, hw0⟩ : ∃ w0, (w.alloc (.cells #[.slice ac r.chans.length cc, .slice aw r.waits.length cw] 67)).alloc (.cells #[.int .i64 o.kind, .int .i64 o.ch, .int .i64 o.n, .int .i64 o.v, .slice ao o.cases.length co, .bool o.els] 33) = w0 := ⟨_, rfl⟩
  have K0 : Hid (Keeps [] w w0) := Lib.hid (hw0 ▸ ((Keeps.refl [] w).alloc _).alloc _)
  have HMB : Hid (Blk w0 w.heap.size [.slice ac r.chans.length cc, .slice aw r.waits.length cw] 67) := Lib.hid (hw0 ▸ (Blk.fresh w [.slice ac r.chans.length cc, .slice aw r.waits.length cw] _ _ rfl).alloc _)
  have HOB : Hid (Blk w0 (w.heap.size + 1) [.int .i64 o.kind, .int .i64 o.ch, .int .i64 o.n, .int .i64 o.v, .slice ao o.cases.length co, .bool o.els] 33) := Lib.hid (hw0 ▸ Blk.fresh _ [.int .i64 o.kind, .int .i64 o.ch, .int .i64 o.n, .int .i64 o.v, .slice ao o.cases.length co, .bool o.els] _ _ (by simp))
  unfold opV
  go_enter Try.func33, Try.ntmps33
  go_wp2_with fail
  clear hw0
  go_loopw [7] (fun u wr => ∃ k : Nat, k ≤ o.cases.length + 1 ∧ u = .int .i64 ((k : Int) - 1) ∧ Hid (Keeps [] w0 wr ∧ Md.anyUpto o (fun _ s => Md.may st gi s) k = false)) (fun u _ => o.cases.length + 1 - (intOf u + 1).toNat)
  case atStart => exact ⟨0, Nat.zero_le _, rfl, Lib.hid ⟨Keeps.refl _ _, rfl⟩⟩
  case round =>
    obtain ⟨k, hk, rfl, HI⟩ := hrel
    obtain ⟨wo, rfl⟩ : ∃ wo : World, wo = wr := ⟨_, rfl⟩
    obtain ⟨⟨b0, b1, b2, b3, b4, b5⟩, _⟩ := Blk.six (HOB.out.keep HI.out.1 (by simp))
    have m0 : wo.cell? ⟨w.heap.size, 0, none⟩ = some (.slice ac r.chans.length cc) := (HMB.out.keep HI.out.1 (by simp)).cell 0
    have m1 : wo.cell? ⟨w.heap.size, 1, none⟩ = some (.slice aw r.waits.length cw) := (HMB.out.keep HI.out.1 (by simp)).cell 1
    by_cases hlt : k ≤ o.cases.length
    · have hl1 : (k : Int) - 1 < (o.cases.length : Int) := by omega
      have HLT := Lib.hid hlt
      clear hlt
      go_wp2_with fail
      refine (ref20_may _ _ _ _ st r S gi o U ((k : Int) - 1) (HM.out.then (K0.out.then HI.out.1)) HR.out (HO.out.then caseE_kept (K0.out.then HI.out.1))).mono ?_
      obtain ⟨b, hb⟩ : ∃ b, Md.mayAt st gi o ((k : Int) - 1) = b := ⟨_, rfl⟩
      rw [hb]
      rintro e w1 ⟨rfl, k1⟩
      have K1 := Lib.hid (HI.out.1.then k1)
      have HS : Hid (Md.anyUpto o (fun _ s => Md.may st gi s) (k + 1) = b) := Lib.hid ((Md.any_step HI.out.2).trans hb)
      clear k1 b0 b1 b2 b3 b4 b5 m0 m1 hb
      cases b with
      | true =>
        have HT : Hid (q = true) := Lib.hid (by rw [← HQ.out]; exact Md.any_more HS.out (by have := HLT.out; omega))
        go_wp2_with fail
        go_ret
        exact ⟨by rw [HT.out]; rfl, K0.out.then K1.out⟩
      | false =>
        go_wp2_with fail
        go_roundw
        case rel => exact ⟨k + 1, by have := HLT.out; omega, by go_num, Lib.hid ⟨K1.out, HS.out⟩⟩
        case measure =>
          have := HLT.out
          simp [intOf]; omega
    · obtain rfl : k = o.cases.length + 1 := by omega
      have HT : Hid (q = false) := Lib.hid (by rw [← HQ.out]; exact HI.out.2)
      go_wp2_with fail
      go_ret
      exact ⟨by rw [HT.out]; rfl, K0.out.then HI.out.1⟩

set_option maxHeartbeats 1600000 in
theorem ref20_no (w : World) (vc vw vo : Value) (st : Md.St) (r : Mr.St) (S : List Nat) (gi : Int) (o : Pn.Op) (U : List Nat) (h : MR w vc vw r S) (hr : Mr.Rel st r) (ho : GV caseE 3 w vo o.cases U) :
    Calls Try.prog 34 #[.agg #[vc, vw], .int .i64 gi, .agg (opV o vo)] w fun e w' => e = .returned (.bool (Md.no st gi o)) ∧ Keeps [] w w' := by
  obtain ⟨kind, ch, n, v, cases_, els⟩ := o
  simp only [opV] at *
  have HM := Lib.hid h
  have HR := Lib.hid hr
  have HO := Lib.hid ho
  obtain ⟨ac, cc, rfl⟩ := h.1.shape
  obtain ⟨aw, cw, rfl⟩ := h.2.shape
  obtain ⟨ao, co, rfl⟩ := ho.shape
  obtain ⟨q, hq⟩ : ∃ q, Md.no st gi (⟨kind, ch, n, v, cases_, els⟩ : Pn.Op) = q := ⟨_, rfl⟩
  rw [hq]
  unfold Md.no at hq
  have HQ := Lib.hid hq
  clear h hr ho hq
  obtain ⟨w0, hw0⟩ : ∃ w0, (w.alloc (.cells #[.slice ac r.chans.length cc, .slice aw r.waits.length cw] 67)).alloc (.cells #[.int .i64 kind, .int .i64 ch, .int .i64 n, .int .i64 v, .slice ao cases_.length co, .bool els] 33) = w0 := ⟨_, rfl⟩
  have K0 : Hid (Keeps [] w w0) := Lib.hid (hw0 ▸ ((Keeps.refl [] w).alloc _).alloc _)
  have HMB : Hid (Blk w0 w.heap.size [.slice ac r.chans.length cc, .slice aw r.waits.length cw] 67) := Lib.hid (hw0 ▸ (Blk.fresh w [.slice ac r.chans.length cc, .slice aw r.waits.length cw] _ _ rfl).alloc _)
  have HOB : Hid (Blk w0 (w.heap.size + 1) [.int .i64 kind, .int .i64 ch, .int .i64 n, .int .i64 v, .slice ao cases_.length co, .bool els] 33) := Lib.hid (hw0 ▸ Blk.fresh _ [.int .i64 kind, .int .i64 ch, .int .i64 n, .int .i64 v, .slice ao cases_.length co, .bool els] _ _ (by simp))
  obtain ⟨⟨b0, b1, b2, b3, b4, b5⟩, _⟩ := Blk.six HOB.out
  have m0 : w0.cell? ⟨w.heap.size, 0, none⟩ = some (.slice ac r.chans.length cc) := HMB.out.cell 0
  have m1 : w0.cell? ⟨w.heap.size, 1, none⟩ = some (.slice aw r.waits.length cw) := HMB.out.cell 1
  have HT : Hid (Md.tries (⟨kind, ch, n, v, cases_, els⟩ : Pn.Op) = ((kind == 4) || (kind == 5) || ((kind == 9) && els))) := Lib.hid (by
    unfold Md.tries
    cases els <;> by_cases a4 : kind = 4 <;> by_cases a5 : kind = 5 <;> by_cases a9 : kind = 9 <;> simp_all)
  go_enter Try.func34, Try.ntmps34
  go_upto_region 1 with fail
  clear hw0
  cases c4 : (kind == 4) with
  | true =>
    have HTT : Hid (Md.tries (⟨kind, ch, n, v, cases_, els⟩ : Pn.Op) = true) := Lib.hid (by rw [HT.out]; simp [*])
    go_wp2_with fail
    refine (ref20_any _ _ _ _ st r S gi (⟨kind, ch, n, v, cases_, els⟩ : Pn.Op) U (HM.out.then K0.out) HR.out (HO.out.then caseE_kept K0.out)).mono ?_
    rintro e w1 ⟨rfl, k1⟩
    have K1 := Lib.hid (K0.out.then k1)
    clear k1 b0 b1 b2 b3 b4 b5 m0 m1
    have HE : Hid (q = !Md.anyMay st gi (⟨kind, ch, n, v, cases_, els⟩ : Pn.Op)) := Lib.hid (by rw [← HQ.out, HTT.out]; rfl)
    go_wp2_with fail
    go_ret
    exact ⟨by rw [HE.out]; rfl, K1.out⟩
  | false =>
    cases c5 : (kind == 5) with
    | true =>
      have HTT : Hid (Md.tries (⟨kind, ch, n, v, cases_, els⟩ : Pn.Op) = true) := Lib.hid (by rw [HT.out]; simp [*])
      go_wp2_with fail
      refine (ref20_any _ _ _ _ st r S gi (⟨kind, ch, n, v, cases_, els⟩ : Pn.Op) U (HM.out.then K0.out) HR.out (HO.out.then caseE_kept K0.out)).mono ?_
      rintro e w1 ⟨rfl, k1⟩
      have K1 := Lib.hid (K0.out.then k1)
      clear k1 b0 b1 b2 b3 b4 b5 m0 m1
      have HE : Hid (q = !Md.anyMay st gi (⟨kind, ch, n, v, cases_, els⟩ : Pn.Op)) := Lib.hid (by rw [← HQ.out, HTT.out]; rfl)
      go_wp2_with fail
      go_ret
      exact ⟨by rw [HE.out]; rfl, K1.out⟩
    | false =>
      cases c9 : (kind == 9) with
      | true =>
        cases els with
        | true =>
          have HTT : Hid (Md.tries (⟨kind, ch, n, v, cases_, true⟩ : Pn.Op) = true) := Lib.hid (by rw [HT.out]; simp [*])
          go_wp2_with fail
          refine (ref20_any _ _ _ _ st r S gi (⟨kind, ch, n, v, cases_, true⟩ : Pn.Op) U (HM.out.then K0.out) HR.out (HO.out.then caseE_kept K0.out)).mono ?_
          rintro e w1 ⟨rfl, k1⟩
          have K1 := Lib.hid (K0.out.then k1)
          clear k1 b0 b1 b2 b3 b4 b5 m0 m1
          have HE : Hid (q = !Md.anyMay st gi (⟨kind, ch, n, v, cases_, true⟩ : Pn.Op)) := Lib.hid (by rw [← HQ.out, HTT.out]; rfl)
          go_wp2_with fail
          go_ret
          exact ⟨by rw [HE.out]; rfl, K1.out⟩
        | false =>
          have HTT : Hid (Md.tries (⟨kind, ch, n, v, cases_, false⟩ : Pn.Op) = false) := Lib.hid (by rw [HT.out]; simp [*])
          have HE : Hid (q = false) := Lib.hid (by rw [← HQ.out, HTT.out]; rfl)
          go_wp2_with fail
          go_ret
          exact ⟨by rw [HE.out]; rfl, K0.out⟩
      | false =>
        have HTT : Hid (Md.tries (⟨kind, ch, n, v, cases_, els⟩ : Pn.Op) = false) := Lib.hid (by rw [HT.out]; simp [*])
        have HE : Hid (q = false) := Lib.hid (by rw [← HQ.out, HTT.out]; rfl)
        go_wp2_with fail
        go_ret
        exact ⟨by rw [HE.out]; rfl, K0.out⟩
end Go.Proofs.Ytopkfhmdgheghaa
