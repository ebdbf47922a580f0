/-
  The law RingRows: its walk.
  Conditions: none.
-/
import Derived.Test.YtgpcmifbkbgbjaaRingRuns
namespace Go.Proofs.Ytgpcmifbkbgbjaa
open Go.RowKit
set_option linter.unusedVariables false
set_option linter.unusedSimpArgs false
set_option linter.unnecessarySimpa false

theorem apart_new {S A A' : List Nat} {w : World} (h : ∀ x ∈ S, x ∉ A) (hA : ∀ k ∈ A', k ∈ A ∨ w.heap.size ≤ k) (hS : ∀ k ∈ S, k < w.heap.size) : ∀ x ∈ S, x ∉ A' := fun x hx ha => by
  rcases hA x ha with h1 | h1
  · exact h x hx h1
  · have := hS x hx; omega

/-- in, out and the ring: what came in is what came out, and what is there -/
def RR (b N : Nat) (w : World) (m : Nat) (v10 v11 : Value) (l : List Int) (w' : World) : Prop :=
  ∃ inL outL S A B ao1 cap1 ao2 cap2, v10 = .slice ao1 inL.length cap1 ∧ v11 = .slice ao2 outL.length cap2 ∧ Keeps [] w w' ∧ Rg w' (.pointer (some ⟨b, 0, none⟩)) N l S ∧
    IR w' (.slice ao1 inL.length cap1) 2 inL A ∧ IR w' (.slice ao2 outL.length cap2) 2 outL B ∧ (∀ x ∈ S, w.heap.size ≤ x) ∧ (∀ x ∈ A, w.heap.size ≤ x) ∧ (∀ x ∈ B, w.heap.size ≤ x) ∧
    (∀ x ∈ S, x ∉ A) ∧ (∀ x ∈ S, x ∉ B) ∧ (∀ x ∈ A, x ∉ B) ∧ inL = outL ++ l ∧ inL.length ≤ m
/-- what is still to come: the value in hand, then the ring's -/
def more (ok : Bool) (x : Int) (l : List Int) : List Int := if ok then x :: l else []
def slen : Value → Nat
  | .slice _ n _ => n
  | _ => 0
def RR2 (b N : Nat) (w : World) (inL : List Int) (A : List Nat) (aoi : Option Addr) (capi : Nat) (v11 v16 v17 : Value) (out l : List Int) (x : Int) (ok : Bool) (w' : World) : Prop :=
  ∃ S B ao2 cap2, v11 = .slice ao2 out.length cap2 ∧ v16 = .int .i64 x ∧ v17 = .bool ok ∧ Keeps [] w w' ∧ Rg w' (.pointer (some ⟨b, 0, none⟩)) N l S ∧
    IR w' (.slice aoi inL.length capi) 2 inL A ∧ IR w' (.slice ao2 out.length cap2) 2 out B ∧ (∀ x ∈ S, w.heap.size ≤ x) ∧ (∀ x ∈ A, w.heap.size ≤ x) ∧ (∀ x ∈ B, w.heap.size ≤ x) ∧
    (∀ x ∈ S, x ∉ A) ∧ (∀ x ∈ S, x ∉ B) ∧ (∀ x ∈ A, x ∉ B) ∧ inL = out ++ more ok x l
def RR2e (b N : Nat) (w : World) (inL : List Int) (A : List Nat) (aoi : Option Addr) (capi : Nat) (v11 v16 v17 : Value) (w' : World) : Prop := ∃ out l x ok, RR2 b N w inL A aoi capi v11 v16 v17 out l x ok w'
def RRe (b N : Nat) (w : World) (m : Nat) (v10 v11 : Value) (w' : World) : Prop := ∃ l, RR b N w m v10 v11 l w'

set_option maxRecDepth 100000 in
set_option maxHeartbeats 3200000 in
theorem ringRows_walk (w : World) (room : Int) (wn : (Lit.int .u8 room).wf = true) (v1 : Value) (n1 : Nat) (xs1 : List Value) (S1 : List Nat) (hv1 : View w v1 1 n1 xs1 S1) (hx1 : ∀ k, k < n1 → ∀ (f : Nat) (q : Option IntKind), ([some .i64] : List (Option IntKind))[f]? = some q → ckOk q (xs1.getD (k * 1 + f) undef))
    (v : Value) (n : Nat) (xs : List Value) (S : List Nat) (hv : View w v 1 n xs S) (hx : ∀ k, k < n → ∀ (f : Nat) (q : Option IntKind), ([none] : List (Option IntKind))[f]? = some q → ckOk q (xs.getD (k * 1 + f) undef)) :
    Calls Try.prog 7 #[.int .u8 room, v1, v] w fun e w' => e = .returned (.bool true) ∧ Keeps [] w w' := by
  obtain ⟨l0, rfl, hi⟩ := IV.of_flat hv1 hx1
  have hrm := wf8 wn
  clear hv1 hx1 wn
  have hm1 := hi.le
  have hm := hv.le
  unfold maxLen at hm hm1
  obtain ⟨ao1, cap1, rfl⟩ := hi.shape
  obtain ⟨ao, cap, rfl⟩ := hv.shape
  have HI := Lib.hid hi
  have HX := Lib.hid hx
  have HV := Lib.hid hv
  clear hx hv hi
  obtain ⟨N, hN⟩ : ∃ N : Nat, room % 65 = (N : Int) := ⟨(room % 65).toNat, by omega⟩
  have hN64 : N ≤ 64 := by omega
  obtain ⟨hr0, hr1⟩ := hrm
  cases hq1 : decide (300 < (l0.length : Int)) with
  | true =>
    go_enter Try.func7, Try.ntmps7
    go_wp2_with fail
    refine (ring_alive _).mono ?_
    rintro e w1 ⟨rfl, k1⟩
    have HK := Lib.hid k1
    clear k1
    go_wp2_with fail
    go_ret
    exact ⟨rfl, HK.out⟩
  | false =>
    have HL0 : Hid (l0.length ≤ 300) := Lib.hid (by simp at hq1; omega)
    go_enter Try.func7, Try.ntmps7
    go_wp2_with fail
    refine (ring_alive _).mono ?_
    rintro e w1 ⟨rfl, k1⟩
    have HK := Lib.hid k1
    clear k1
    go_wp2_with fail
    refine (ring_new _ _).mono ?_
    intro e w2 h2
    obtain ⟨p, S2, rfl, k2, r2, s2⟩ := h2.yes ⟨by omega, by omega, by simp⟩
    obtain ⟨b, rfl⟩ := r2.shape
    rw [Int.toNat_natCast] at r2
    have HB : Hid (RR b N w 0 (.slice (some ⟨w2.heap.size, 0, none⟩) 0 0) (.slice (some ⟨w2.heap.size + 1, 0, none⟩) 0 0) [] ((w2.alloc (.cells #[] 2)).alloc (.cells #[] 2))) := Lib.hid (by
      have hsz := HK.out.size
      have hsz2 := k2.size
      refine ⟨[], [], S2, [w2.heap.size], [w2.heap.size + 1], _, _, _, _, rfl, rfl, ((HK.out.then k2).alloc _).alloc _, (r2.alloc _).alloc _, IR.alloc (IR.lit0 w2 _) _, IR.lit _ _ _ (by simp), fun x hx => by have := s2 x hx; omega, by simp; omega, by simp; omega, ?_, ?_, by simp, rfl, by simp⟩
      · intro x hx hx2; have := r2.lt x hx; simp at hx2; omega
      · intro x hx hx2; have := r2.lt x hx; simp at hx2; omega)
    clear k2 r2 s2 h2 hr0 hr1
    go_wp2_with fail
    go_loopw [10, 11, 41] (fun v10 v11 i wr => ∃ k : Nat, k ≤ l0.length ∧ i = .int .i64 k ∧ RRe b N w k v10 v11 wr) (fun _ _ i _ => l0.length - (intOf i).toNat)
    case atStart => exact ⟨0, Nat.zero_le _, rfl, _, HB.out⟩
    case round =>
      obtain ⟨k, hk, rfl, l, inL, outL, S3, A, B, aoi, capi, aoo, capo, rfl, rfl, hke, hrg, hin, hout, hS, hA, hB, hSA, hSB, hAB, heq, hle⟩ := hrel
      have HKe := Lib.hid hke
      have HR := Lib.hid hrg
      have HIn := Lib.hid hin
      have HOut := Lib.hid hout
      have HSw := Lib.hid hS
      have HAw := Lib.hid hA
      have HBw := Lib.hid hB
      have HSA := Lib.hid hSA
      have HSB := Lib.hid hSB
      have HAB := Lib.hid hAB
      have HEQ := Lib.hid heq
      have HLE := Lib.hid hle
      have hle3 : inL.length ≤ 300 := by have := HL0.out; omega
      have hlo3 : outL.length ≤ 300 := by have := congrArg List.length heq; simp at this; omega
      clear hke hrg hin hout hS hA hB hSA hSB hAB heq hle
      by_cases hlt : k < l0.length
      · obtain ⟨g, off, rfl, rfl, hg, hc⟩ := HI.out.cells (by omega)
        have c0 : wr.cell? ⟨g, off + k, none⟩ = some (.int .i64 (l0.getD k 0)) := by
          rw [World.cell?_of_block (w := w) (HKe.out.block g hg (by simp))]; exact hc k hlt
        clear hc
        generalize l0.getD k 0 = x0 at *
        go_wp2_with fail
        refine (ring_put _ _ _ _ _ x0 HR.out).mono ?_
        rintro e w4 ⟨rfl, k4, r4⟩
        have HK4 := Lib.hid k4
        have HR4 := Lib.hid r4
        have HKe4 := Lib.hid (HKe.out.trans k4 (fun x hx => .inr (HSw.out x hx)))
        have HIn4 := Lib.hid (HIn.out.keep k4 (fun x hx hs => HSA.out x hs hx))
        have HOut4 := Lib.hid (HOut.out.keep k4 (fun x hx hs => HSB.out x hs hx))
        clear k4 r4 c0
        go_upto_if 48 with fail
        go_cut [10] (fun v10 w' => RRe b N w (k + 1) v10 (.slice aoo outL.length capo) w')
        case first =>
          cases hf : decide (l.length < N) with
          | true =>
            have HPL : Hid (Rn.putL N l x0 = l ++ [x0]) := Lib.hid (if_pos (by simpa using hf))
            go_wp2_with (at_builtin; go_must (refine wp_appn elemInt64 HIn4.out (by omega) ?_))
            intro ao5 cap5 w5 A5 r5 k5 s5
            have HRR : Hid (RRe b N w (k + 1) (.slice ao5 (inL.length + 1) cap5) (.slice aoo outL.length capo) w5) := Lib.hid (by
              have hr5 := HR4.out.keep k5 (fun x hx ha => HSA.out x hx ha)
              rw [HPL.out] at hr5
              have hlt4 := HR4.out.lt
              have hlto := HOut4.out.lt
              refine ⟨l ++ [x0], inL ++ [x0], outL, S3, A5, B, ao5, cap5, aoo, capo, by simp, rfl, HKe4.out.trans k5 (fun x hx => .inr (HAw.out x hx)), hr5, by simpa using r5, HOut4.out.keep k5 (fun x hx ha => HAB.out x ha hx), HSw.out, ?_, HBw.out, ?_, HSB.out, ?_, by rw [HEQ.out]; simp, by have := HLE.out; simp; omega⟩
              · intro x hx
                rcases s5 x hx with h | h
                · exact HAw.out x h
                · have := HKe4.out.size; omega
              · exact apart_new HSA.out s5 hlt4
              · intro x hx hxB
                exact apart_new (fun y hy hyA => HAB.out y hyA hy) s5 hlto x hxB hx)
            clear r5 k5 s5
            go_wp2_with fail
            go_meet
            exact HRR.out
          | false =>
            have HPL : Hid (Rn.putL N l x0 = l) := Lib.hid (if_neg (by simpa using hf))
            have HR4' := HR4.out
            rw [HPL.out] at HR4'
            have HR4'' := Lib.hid HR4'
            have hfull : decide (l.length = N) = true := by have := HR4'.le.1; simp at hf; simp; omega
            clear HR4'
            go_wp2_with fail
            refine (ring_full _ _ _ _ _ HR4''.out).mono ?_
            rintro e w5 ⟨rfl, m5, rfl⟩
            rw [hfull]
            go_wp2_with fail
            go_meet
            exact ⟨l, inL, outL, S3, A, B, aoi, capi, aoo, capo, rfl, rfl, HKe4.out.drewN _, HR4''.out.drewN _, HIn4.out.then ((Keeps.refl [] _).drewN _), HOut4.out.then ((Keeps.refl [] _).drewN _), HSw.out, HAw.out, HBw.out, HSA.out, HSB.out, HAB.out, HEQ.out, by have := HLE.out; omega⟩
        case rest =>
          obtain ⟨l2, in2, out2, S4, A2, B2, aoi2, capi2, aoo2, capo2, rfl, hv11, hke, hrg, hin, hout, hS, hA, hB, hSA, hSB, hAB, heq, hle⟩ := hcut
          simp only [Value.slice.injEq] at hv11
          obtain ⟨rfl, hlo, rfl⟩ := hv11
          have HLO := Lib.hid hlo
          clear hlo
          have HKe2 := Lib.hid hke
          have HR2 := Lib.hid hrg
          have HIn2 := Lib.hid hin
          have HOut2 := Lib.hid hout
          have HSw2 := Lib.hid hS
          have HAw2 := Lib.hid hA
          have HBw2 := Lib.hid hB
          have HSA2 := Lib.hid hSA
          have HSB2 := Lib.hid hSB
          have HAB2 := Lib.hid hAB
          have HEQ2 := Lib.hid heq
          have HLE2 := Lib.hid hle
          clear hke hrg hin hout hS hA hB hSA hSB hAB heq hle
          have hin300 : in2.length ≤ 301 := by have := HLE2.out; have := HL0.out; omega
          have hout300 : out2.length ≤ 301 := by have := HLO.out; omega
          rw [← HLO.out] at HOut2
          clear HIn HOut HR HSA HSB HAB HEQ HLE HSw HAw HBw HKe HIn4 HOut4 HK4 HR4 HKe4
          go_upto_region 17 with fail
          go_cut [65] (fun s wx => ∃ gb : Bool, s = .bool gb ∧ wx = wc)
          case first =>
            cases hg2 : decide (k < n) with
            | true =>
              have hkn : k < n := by simpa using hg2
              obtain ⟨g2, off2, rfl, rfl, hgl, hc2⟩ := HV.out.cell (by omega)
              have c1 : wc.cell? ⟨g2, off2 + k, none⟩ = some (.bool (tru (xs.getD (k * 1) undef))) := by
                have hc3 := View.at0 HV.out.len hc2 hgl HKe2.out (by simp) hkn (by omega)
                rw [show xs.getD (k * 1) undef = .bool (tru (xs.getD (k * 1) undef)) from ck_bool (HX.out k hkn 0 _ rfl), Nat.mul_one] at hc3
                rw [Nat.mul_one]; exact hc3
              clear hc2
              generalize tru (xs.getD (k * 1) undef) = gb at *
              go_wp2_with fail
              go_meet
              exact ⟨gb, rfl, rfl⟩
            | false =>
              go_wp2_with fail
              go_meet
              exact ⟨false, rfl, rfl⟩
          case rest =>
            obtain ⟨gb, rfl, hw⟩ := hcut
            cases hw
            go_upto_if 65 with fail
            go_cut [11] (fun v11 w' => RRe b N w (k + 1) (.slice aoi2 in2.length capi2) v11 w')
            case first =>
              cases gb with
              | false =>
                go_wp2_with fail
                go_meet
                exact ⟨l2, in2, out2, S4, A2, B2, aoi2, capi2, aoo, capo, rfl, by rw [HLO.out], HKe2.out, HR2.out, HIn2.out, by rw [← HLO.out]; exact HOut2.out, HSw2.out, HAw2.out, HBw2.out, HSA2.out, HSB2.out, HAB2.out, HEQ2.out, HLE2.out⟩
              | true =>
                go_wp2_with fail
                refine (ring_get _ _ _ _ _ HR2.out).mono ?_
                rintro e w6 ⟨rfl, k6, r6⟩
                have HR6 := Lib.hid r6
                have HKe6 := Lib.hid (HKe2.out.trans k6 (fun x hx => .inr (HSw2.out x hx)))
                have HIn6 := Lib.hid (HIn2.out.keep k6 (fun x hx hs => HSA2.out x hs hx))
                have HOut6 := Lib.hid (HOut2.out.keep k6 (fun x hx hs => HSB2.out x hs hx))
                clear k6 r6
                generalize ho : (!l2.isEmpty) = ok at *
                have HO := Lib.hid ho
                clear ho
                cases ok with
                | false =>
                  have h0 : Hid (l2 = []) := Lib.hid (by have := HO.out; simpa using this)
                  go_wp2_with fail
                  go_meet
                  have h0 := h0.out
                  refine ⟨l2, in2, out2, S4, A2, B2, aoi2, capi2, aoo, capo, rfl, by rw [HLO.out], HKe6.out, ?_, HIn6.out, by rw [← HLO.out]; exact HOut6.out, HSw2.out, HAw2.out, HBw2.out, HSA2.out, HSB2.out, HAB2.out, HEQ2.out, HLE2.out⟩
                  have := HR6.out
                  rw [h0] at this ⊢
                  exact this
                | true =>
                  have HL2 : Hid (l2 = Rn.hd l2 :: l2.tail) := Lib.hid (by have := HO.out; cases l2 <;> simp_all [Rn.hd])
                  generalize Rn.hd l2 = x6 at *
                  go_wp2_with (at_builtin; go_must (refine wp_appn elemInt64 HOut6.out (by omega) ?_))
                  intro ao7 cap7 w7 B7 r7 k7 s7
                  have HRR : Hid (RRe b N w (k + 1) (.slice aoi2 in2.length capi2) (.slice ao7 (out2.length + 1) cap7) w7) := Lib.hid (by
                    have hlt6 := HR6.out.lt
                    have hlti := HIn6.out.lt
                    refine ⟨l2.tail, in2, out2 ++ [x6], S4, A2, B7, aoi2, capi2, ao7, cap7, rfl, by simp, HKe6.out.trans k7 (fun x hx => .inr (HBw2.out x hx)), HR6.out.keep k7 (fun x hx hb => HSB2.out x hx hb), HIn6.out.keep k7 (fun x hx hb => HAB2.out x hx hb), by simpa [HLO.out] using r7, HSw2.out, HAw2.out, ?_, HSA2.out, ?_, ?_, by rw [HEQ2.out, List.append_assoc]; exact congrArg (out2 ++ ·) HL2.out, HLE2.out⟩
                    · intro x hx
                      rcases s7 x hx with h | h
                      · exact HBw2.out x h
                      · have := HKe6.out.size; omega
                    · exact apart_new HSB2.out s7 hlt6
                    · exact apart_new HAB2.out s7 hlti)
                  clear r7 k7 s7
                  go_wp2_with fail
                  go_meet
                  exact HRR.out
            case rest =>
              obtain ⟨l5, in5, out5, S5, A5, B5, aoi5, capi5, aoo5, capo5, hv10, rfl, hke, hrg, hin, hout, hS, hA, hB, hSA, hSB, hAB, heq, hle⟩ := hcut
              simp only [Value.slice.injEq] at hv10
              obtain ⟨rfl, hlo5, rfl⟩ := hv10
              have HLI := Lib.hid hlo5
              have HGe : Hid (decide (N < l5.length) = false) := Lib.hid (by have := hrg.le.1; simp; omega)
              have HNe : Hid (((l5.length : Int) != (in2.length : Int) - (out5.length : Int)) = false) := Lib.hid (by have := congrArg List.length heq; simp at this; simp; omega)
              have hout301 : out5.length ≤ 301 := by have := congrArg List.length heq; simp at this; omega
              have HRR : Hid (RRe b N w (k + 1) (.slice aoi2 in2.length capi2) (.slice aoo5 out5.length capo5) wc) := Lib.hid ⟨l5, in5, out5, S5, A5, B5, aoi2, capi2, aoo5, capo5, by rw [hlo5], rfl, hke, hrg, hin, hout, hS, hA, hB, hSA, hSB, hAB, heq, hle⟩
              have HR5 := Lib.hid hrg
              clear hlo5 hke hrg hin hout hS hA hB hSA hSB hAB heq hle
              have hge := HGe.out
              have hne := HNe.out
              go_wp2_with fail
              refine (ring_len _ _ _ _ _ HR5.out).mono ?_
              rintro e w8 ⟨rfl, rfl⟩
              go_wp2_with fail
              refine (ring_len _ _ _ _ _ HR5.out).mono ?_
              rintro e w8 ⟨rfl, rfl⟩
              go_wp2_with fail
              go_roundw
              case rel => exact ⟨k + 1, by omega, by go_num, HRR.out⟩
              case measure => simp [intOf]; omega
      · have hke' : (l0.length : Nat) = k := by omega
        subst hke'
        clear hk hlt HB
        have HHD : Hid (inL = outL ++ more (!l.isEmpty) (Rn.hd l) l.tail) := Lib.hid (by rw [HEQ.out]; cases l <;> simp [more, Rn.hd])
        clear HEQ
        go_wp2_with fail
        refine (ring_get _ _ _ _ _ HR.out).mono ?_
        rintro e w6 ⟨rfl, k6, r6⟩
        have HB2 : Hid (RR2 b N w inL A aoi capi (.slice aoo outL.length capo) (.int .i64 (Rn.hd l)) (.bool (!l.isEmpty)) outL l.tail (Rn.hd l) (!l.isEmpty) w6) := Lib.hid
          ⟨S3, B, aoo, capo, rfl, rfl, rfl, HKe.out.trans k6 (fun x hx => .inr (HSw.out x hx)), r6, HIn.out.keep k6 (fun x hx hs => HSA.out x hs hx), HOut.out.keep k6 (fun x hx hs => HSB.out x hs hx), HSw.out, HAw.out, HBw.out, HSA.out, HSB.out, HAB.out, HHD.out⟩
        clear k6 r6 HHD HKe HR HIn HOut HSw HAw HBw HSA HSB HAB HLE
        go_wp2_with fail
        go_loopw [11, 16, 17] (fun v11 v16 v17 wr2 => RR2e b N w inL A aoi capi v11 v16 v17 wr2) (fun v11 _ _ _ => inL.length - slen v11)
        case atStart => exact ⟨_, _, _, _, HB2.out⟩
        case round =>
          obtain ⟨out, l2, x, ok, S4, B4, ao2, cap2, rfl, rfl, rfl, hke, hrg, hin, hout, hS, hA, hB, hSA, hSB, hAB, heq⟩ := hrel
          have HKe2 := Lib.hid hke
          have HR2 := Lib.hid hrg
          have HIn2 := Lib.hid hin
          have HOut2 := Lib.hid hout
          have HSw2 := Lib.hid hS
          have HAw2 := Lib.hid hA
          have HBw2 := Lib.hid hB
          have HSA2 := Lib.hid hSA
          have HSB2 := Lib.hid hSB
          have HAB2 := Lib.hid hAB
          have HEQ2 := Lib.hid heq
          have hout300 : out.length ≤ 301 := by have := congrArg List.length heq; simp at this; omega
          clear hke hrg hin hout hS hA hB hSA hSB hAB heq HB2
          cases ok with
          | false =>
            have HE : Hid (inL = out) := Lib.hid (by have := HEQ2.out; simpa [more] using this)
            go_wp2_with fail
            refine (same04 _ _ _ _ _ _ _ HIn2.out.view HOut2.out.view).mono ?_
            rintro e w8 ⟨rfl, m8, rfl⟩
            rw [show decide (inL = out) = true from decide_eq_true HE.out]
            have HKf := Lib.hid (HKe2.out.drewN m8)
            go_wp2_with fail
            go_ret
            exact ⟨rfl, HKf.out⟩
          | true =>
            have HE : Hid (inL = (out ++ [x]) ++ l2) := Lib.hid (by have := HEQ2.out; simpa [more] using this)
            have hmore : out.length + 1 ≤ inL.length := by have := congrArg List.length HE.out; simp at this; omega
            have hgt : decide ((inL.length : Int) < (out.length : Int) + 1) = false := by simp; omega
            clear HEQ2
            go_wp2_with (at_builtin; go_must (refine wp_appn elemInt64 HOut2.out (by omega) ?_))
            intro ao7 cap7 w7 B7 r7 k7 s7
            have HR7 := Lib.hid (HR2.out.keep k7 (fun x hx hb => HSB2.out x hx hb))
            have HRX : Hid (∀ (l' : List Int) (y : Int) (ok' : Bool), l2 = more ok' y l' → ∀ w8, Keeps S4 w7 w8 → Rg w8 (.pointer (some ⟨b, 0, none⟩)) N l' S4 → RR2e b N w inL A aoi capi (.slice ao7 (out.length + 1) cap7) (.int .i64 y) (.bool ok') w8) := Lib.hid (by
              intro l' y ok' hl2 w8 k8 r8
              have hlt6 := HR2.out.lt
              have hlti := HIn2.out.lt
              have hSB7 := apart_new HSB2.out s7 hlt6
              have hAB7 := apart_new HAB2.out s7 hlti
              refine ⟨out ++ [x], l', y, ok', S4, B7, ao7, cap7, by simp, rfl, rfl, (HKe2.out.trans k7 (fun x hx => .inr (HBw2.out x hx))).trans k8 (fun x hx => .inr (HSw2.out x hx)), r8, (HIn2.out.keep k7 (fun x hx hb => HAB2.out x hx hb)).keep k8 (fun x hx hs => HSA2.out x hs hx), ?_, HSw2.out, HAw2.out, ?_, HSA2.out, hSB7, hAB7, by rw [← hl2]; exact HE.out⟩
              · have := r7.keep k8 (fun x hx hs => hSB7 x hs hx)
                simpa using this
              · intro x hx
                rcases s7 x hx with h | h
                · exact HBw2.out x h
                · have := HKe2.out.size; omega)
            clear r7 k7 s7 HR2 HIn2 HOut2 HSw2 HAw2 HBw2 HSA2 HSB2 HAB2 HE HKe2
            go_wp2_with fail
            refine (ring_get _ _ _ _ _ HR7.out).mono ?_
            rintro e w8 ⟨rfl, k8, r8⟩
            have HN : Hid (RR2e b N w inL A aoi capi (.slice ao7 (out.length + 1) cap7) (.int .i64 (Rn.hd l2)) (.bool (!l2.isEmpty)) w8) := Lib.hid (HRX.out l2.tail (Rn.hd l2) (!l2.isEmpty) (by cases l2 <;> simp [more, Rn.hd]) w8 k8 r8)
            clear k8 r8 HRX HR7
            go_wp2_with fail
            go_roundw
            case rel => exact HN.out
            case measure => simp [slen]; omega

end Go.Proofs.Ytgpcmifbkbgbjaa
