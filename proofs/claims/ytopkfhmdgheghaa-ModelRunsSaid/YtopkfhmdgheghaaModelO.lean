/-
  may, May, Any, Waits, No of package model: contracts.
  Conditions: none.
-/
import Derived.Test.YtopkfhmdgheghaaModelN
import Derived.Test.YtopkfhmdgheghaaModelG
import Derived.Deep.DrawnRows
namespace Go.Proofs.Ytopkfhmdgheghaa
open Go.RowKit
set_option linter.unusedVariables false
set_option linter.unusedSimpArgs false
set_option linter.unnecessarySimpa false

def RBool (q : Bool) (w : World) (e : Ending) (w' : World) : Prop := e = .returned (.bool q) ∧ Keeps [] w w'
theorem rb {q r : Bool} {w w' : World} (h : r = q) (k : Keeps [] w w') : RBool q w (.returned (.bool r)) w' := by subst h; exact ⟨rfl, k⟩

set_option maxHeartbeats 1600000 in
theorem model_may (w : World) (p : Value) (st : Md.St) (N : Nat) (S : List Nat) (g : Int) (s : Md.Sd) (h : Mo w p st N S) :
    Calls Try.prog 62 #[p, .int .i64 g, .agg (sdV s)] w (RBool (Md.may st g s) w) := by
  have HMO := Lib.hid h
  obtain ⟨b, bm, vh, T, Us, SW, f, col, rfl, hm⟩ := h
  obtain ⟨ao, cap, rfl⟩ := hm.chans.shape
  have hle := hm.chans.le
  obtain ⟨q, hq⟩ : ∃ q, Md.may st g s = q := ⟨_, rfl⟩
  rw [hq]
  have HQ := Lib.hid hq
  obtain ⟨sc, ss, sv⟩ := s
  obtain ⟨w0, hw0⟩ : ∃ w0, w.alloc (.cells #[.int .i64 sc, .bool ss, .int .i64 sv] 124) = w0 := ⟨_, rfl⟩
  have K0 : Hid (Keeps [] w w0) := Lib.hid (hw0 ▸ (Keeps.refl [] w).alloc _)
  have HB0 : Hid (Blk w0 w.heap.size [.int .i64 sc, .bool ss, .int .i64 sv] 124) := Lib.hid (hw0 ▸ Blk.fresh w [.int .i64 sc, .bool ss, .int .i64 sv] _ _ rfl)
  have HM := Lib.hid (hm.then K0.out)
  obtain ⟨⟨s0, s1, s2⟩, _⟩ := Blk.three HB0.out
  clear hq hm
  unfold sdV
  simp only
  by_cases hin : 1 ≤ sc ∧ sc ≤ (st.chans.length : Int)
  · obtain ⟨k, rfl⟩ : ∃ k : Nat, sc = (k : Int) + 1 := ⟨(sc - 1).toNat, by omega⟩
    have hk : k < st.chans.length := by omega
    obtain ⟨c, hc, hc2⟩ := Md.chan_some hin.1 hin.2
    rw [show ((k : Int) + 1 - 1).toNat = k by omega] at hc2
    obtain ⟨gc, off, bv, V, rfl, _, hg, a0, a1, a2, _, hbv, _, _⟩ := HM.out.chans.get hc2
    have hlb := hbv.le
    obtain ⟨ab, cb, rfl⟩ := hbv.shape
    have HE : Hid (q = (c.closed || (ss && decide ((c.buf.length : Int) < c.cap)) || (!ss && decide (0 < c.buf.length)) || (decide (c.cap = 0) && Md.another st g ((k : Int) + 1) (!ss)))) := Lib.hid (by
      rw [← HQ.out]; unfold Md.may; simp only; rw [hc])
    clear hc hc2 hbv
    go_enter Try.func62, Try.ntmps62
    go_wp2_with fail
    refine (model_channel _ b _ _ gc off k _ HM.out.blk hle hk).mono ?_
    rintro e w0' ⟨rfl, rfl⟩
    unfold maxLen at hlb
    clear hw0
    cases hcl : c.closed with
    | true =>
      rw [hcl] at a2
      have HN : Hid (true = q) := Lib.hid (by rw [HE.out, hcl]; simp)
      clear hcl
      go_wp2_with fail
      go_ret
      exact rb HN.out K0.out
    | false =>
      rw [hcl] at a2
      have HE2 : Hid (q = ((ss && decide ((c.buf.length : Int) < c.cap)) || (!ss && decide (0 < c.buf.length)) || (decide (c.cap = 0) && Md.another st g ((k : Int) + 1) (!ss)))) := Lib.hid (by rw [HE.out, hcl]; simp)
      clear hcl HE
      cases ss with
      | true =>
        cases hlt : decide ((c.buf.length : Int) < c.cap) with
        | true =>
          have HN : Hid (true = q) := Lib.hid (by rw [HE2.out, hlt]; simp)
          go_upto_region 6 with fail
          go_quiet (fail)
          go_wp2_with fail
          go_ret
          exact rb HN.out (K0.out.drewN _)
        | false =>
          have HE3 : Hid (q = (decide (c.cap = 0) && Md.another st g ((k : Int) + 1) false)) := Lib.hid (by rw [HE2.out, hlt]; simp)
          go_upto_region 6 with fail
          go_quiet (fail)
          obtain ⟨w3, hw3⟩ : ∃ w3, w0.drewN nq = w3 := ⟨_, rfl⟩
          have K3 : Hid (Keeps [] w0 w3) := Lib.hid (hw3 ▸ (Keeps.refl [] w0).drewN nq)
          have HM3 := Lib.hid (HMO.out.then (K0.out.then K3.out))
          have t0 := K3.out.cell a0 (by simp)
          have t1 := K3.out.cell a1 (by simp)
          have t2 := K3.out.cell a2 (by simp)
          have q0 := K3.out.cell s0 (by simp)
          have q1 := K3.out.cell s1 (by simp)
          rw [hw3]
          clear hw3 a0 a1 a2 s0 s1 s2
          cases h0 : (c.cap == 0) with
          | false =>
            have HN : Hid (false = q) := Lib.hid (by
              have : ¬ c.cap = 0 := by simpa using h0
              rw [HE3.out]; simp [this])
            go_wp2_with fail
            go_ret
            exact rb HN.out (K0.out.then K3.out)
          | true =>
            have HN : Hid (Md.another st g ((k : Int) + 1) false = q) := Lib.hid (by
              have : c.cap = 0 := by simpa using h0
              rw [HE3.out]; simp [this])
            go_wp2_with fail
            refine (model_another _ _ st N S g ((k : Int) + 1) false HM3.out).mono ?_
            rintro e w4 ⟨rfl, k4⟩
            rw [HN.out]
            have K4 := Lib.hid (K3.out.then k4)
            clear k4
            go_wp2_with fail
            go_ret
            exact rb (by simp) (K0.out.then K4.out)
      | false =>
        by_cases hlt : 0 < c.buf.length
        · have HN : Hid (true = q) := Lib.hid (by rw [HE2.out]; simp [hlt])
          go_upto_region 6 with fail
          go_quiet (fail)
          go_wp2_with fail
          go_ret
          exact rb HN.out (K0.out.drewN _)
        · have HE3 : Hid (q = (decide (c.cap = 0) && Md.another st g ((k : Int) + 1) true)) := Lib.hid (by rw [HE2.out]; simp [hlt])
          have h00 : c.buf.length = 0 := by omega
          rw [h00] at a1
          clear hlt h00
          go_upto_region 6 with fail
          go_quiet (fail)
          obtain ⟨w3, hw3⟩ : ∃ w3, w0.drewN nq = w3 := ⟨_, rfl⟩
          have K3 : Hid (Keeps [] w0 w3) := Lib.hid (hw3 ▸ (Keeps.refl [] w0).drewN nq)
          have HM3 := Lib.hid (HMO.out.then (K0.out.then K3.out))
          have t0 := K3.out.cell a0 (by simp)
          have t1 := K3.out.cell a1 (by simp)
          have t2 := K3.out.cell a2 (by simp)
          have q0 := K3.out.cell s0 (by simp)
          have q1 := K3.out.cell s1 (by simp)
          rw [hw3]
          clear hw3 a0 a1 a2 s0 s1 s2
          cases h0 : (c.cap == 0) with
          | false =>
            have HN : Hid (false = q) := Lib.hid (by
              have : ¬ c.cap = 0 := by simpa using h0
              rw [HE3.out]; simp [this])
            go_wp2_with fail
            go_ret
            exact rb HN.out (K0.out.then K3.out)
          | true =>
            have HN : Hid (Md.another st g ((k : Int) + 1) true = q) := Lib.hid (by
              have : c.cap = 0 := by simpa using h0
              rw [HE3.out]; simp [this])
            go_wp2_with fail
            refine (model_another _ _ st N S g ((k : Int) + 1) true HM3.out).mono ?_
            rintro e w4 ⟨rfl, k4⟩
            rw [HN.out]
            have K4 := Lib.hid (K3.out.then k4)
            clear k4
            go_wp2_with fail
            go_ret
            exact rb (by simp) (K0.out.then K4.out)
  · have hout : sc < 1 ∨ (st.chans.length : Int) < sc := by omega
    have HN : Hid (false = q) := Lib.hid (by rw [← HQ.out]; unfold Md.may; simp only; rw [Md.chan_none hout])
    go_enter Try.func62, Try.ntmps62
    go_wp2_with fail
    refine (model_channel_no _ b _ _ _ _ _ HM.out.blk hle hout).mono ?_
    rintro e w0' ⟨rfl, rfl⟩
    clear hw0
    go_wp2_with fail
    go_ret
    exact rb HN.out K0.out
end Go.Proofs.Ytopkfhmdgheghaa
