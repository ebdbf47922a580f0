/-
  The law BenchWakes: its walk.
  Conditions: none.
-/
import Derived.Test.YtgpcmifbkbgbjaaBenchB
namespace Go.Proofs.Ytgpcmifbkbgbjaa
open Go.RowKit
set_option linter.unusedVariables false
set_option linter.unusedSimpArgs false
set_option linter.unnecessarySimpa false

/-- a call that answers ok and leaves l2 -/
theorem BPost.calls {P : Program} {f : FuncId} {args : Array Value} {w : World} {p : Value} {ok : Bool} {l' : List (Int × Bool)} {S : List Nat} {K : Ending → World → Prop}
    (h : Calls P f args w (BPost p ok l' S w)) (ok2 : Bool) (l2 : List (Int × Bool)) (h1 : ok = ok2) (h2 : l' = l2) (hk : ∀ w', Bn w' p l2 S → Keeps S w w' → K (.returned (.bool ok2)) w') : Calls P f args w K := by
  subst h1 h2
  exact h.mono fun e w' ⟨he, hb, hs⟩ => by subst he; exact hk w' hb hs
theorem status_calls {P : Program} {f : FuncId} {args : Array Value} {w : World} {n : Int} {K : Ending → World → Prop}
    (h : Calls P f args w fun e w' => e = .returned (.int .i64 n) ∧ w = w') (n2 : Int) (h1 : n = n2) (hk : K (.returned (.int .i64 n2)) w) : Calls P f args w K := by
  subst h1; exact h.mono fun e w' ⟨he, hs⟩ => by subst he hs; exact hk
theorem token_calls {P : Program} {f : FuncId} {args : Array Value} {w : World} {n : Bool} {K : Ending → World → Prop}
    (h : Calls P f args w fun e w' => e = .returned (.bool n) ∧ w = w') (n2 : Bool) (h1 : n = n2) (hk : K (.returned (.bool n2)) w) : Calls P f args w K := by
  subst h1; exact h.mono fun e w' ⟨he, hs⟩ => by subst he hs; exact hk
theorem running_calls {P : Program} {f : FuncId} {args : Array Value} {w : World} {r : List Int} {K : Ending → World → Prop}
    (h : Calls P f args w (NewInts r w)) (n2 : Nat) (h1 : r.length = n2) (hk : ∀ w' ao cap, Keeps [] w w' → K (.returned (.slice ao n2 cap)) w') : Calls P f args w K := by
  refine h.mono fun e w' ⟨v, S, he, hs, hi, _⟩ => ?_
  obtain ⟨ao, cap, rfl⟩ := hi.shape
  subst he h1; exact hk w' ao cap hs

set_option maxRecDepth 100000 in
theorem bench_alive (w : World) : Calls Try.prog 39 #[] w fun e w' => e = .returned (.bool true) ∧ Keeps [] w w' := by
  go_enter Try.func39, Try.ntmps39
  go_wp2_with fail
  refine (bench_new _ _).mono ?_
  rintro e w1 ⟨p, S, rfl, k1, r1, s1⟩
  obtain ⟨b, rfl⟩ := r1.shape
  rw [show Bc.newL 2 = [(0, false), (0, false)] by decide] at r1
  have HK := Lib.hid k1
  have HS := Lib.hid s1
  have HR := Lib.hid r1
  clear k1 r1 s1
  go_wp2_with fail
  refine BPost.calls (bench_ready _ _ _ _ _ HR.out) true [(0, true), (0, false)] (by decide) (by decide) ?_
  intro w2 r2 k2
  have HR2 := Lib.hid r2
  have HK2 := Lib.hid (HK.out.trans k2 (fun x h => .inr (HS.out x h)))
  clear r2 k2
  go_wp2_with fail
  refine BPost.calls (bench_park _ _ _ _ _ HR2.out) false [(0, false), (0, false)] (by decide) (by decide) ?_
  intro w3 r3 k3
  have HR3 := Lib.hid r3
  have HK3 := Lib.hid (HK2.out.trans k3 (fun x h => .inr (HS.out x h)))
  clear r3 k3
  go_wp2_with fail
  refine status_calls (bench_status _ _ _ _ _ HR3.out) 0 (by decide) ?_
  go_wp2_with fail
  refine BPost.calls (bench_park _ _ _ _ _ HR3.out) true [(0, false), (1, false)] (by decide) (by decide) ?_
  intro w4 r4 k4
  have HR4 := Lib.hid r4
  have HK4 := Lib.hid (HK3.out.trans k4 (fun x h => .inr (HS.out x h)))
  clear r4 k4
  go_wp2_with fail
  refine status_calls (bench_status _ _ _ _ _ HR4.out) 1 (by decide) ?_
  go_wp2_with fail
  refine BPost.calls (bench_ready _ _ _ _ _ HR4.out) true [(0, false), (0, false)] (by decide) (by decide) ?_
  intro w5 r5 k5
  have HR5 := Lib.hid r5
  have HK5 := Lib.hid (HK4.out.trans k5 (fun x h => .inr (HS.out x h)))
  clear r5 k5
  go_wp2_with fail
  refine status_calls (bench_status _ _ _ _ _ HR5.out) 0 (by decide) ?_
  go_wp2_with fail
  go_ret
  exact ⟨rfl, HK5.out⟩

set_option maxRecDepth 100000 in
set_option maxHeartbeats 1600000 in
theorem benchWakes_walk (w : World) (v : Value) (n : Nat) (xs : List Value) (S : List Nat) (hv : View w v 1 n xs S) (hx : ∀ k, k < n → ∀ (f : Nat) (q : Option IntKind), ([none] : List (Option IntKind))[f]? = some q → ckOk q (xs.getD (k * 1 + f) undef)) :
    Calls Try.prog 8 #[v] w fun e w' => e = .returned (.bool true) ∧ Keeps [] w w' := by
  have hm := hv.le
  unfold maxLen at hm
  obtain ⟨ao, cap, rfl⟩ := hv.shape
  have HX := Lib.hid hx
  have HV := Lib.hid hv
  clear hx hv
  cases hq1 : decide (200 < (n : Int)) with
  | true =>
    go_enter Try.func8, Try.ntmps8
    go_wp2_with fail
    refine (bench_alive _).mono ?_
    rintro e w1 ⟨rfl, k1⟩
    have HK := Lib.hid k1
    clear k1
    go_wp2_with fail
    refine (bench_new _ _).mono ?_
    rintro e w2 ⟨p, T, rfl, k2, r2, s2⟩
    have HK2 := Lib.hid (HK.out.then k2)
    clear k2 r2 s2
    go_wp2_with fail
    go_ret
    exact ⟨rfl, HK2.out⟩
  | false =>
    go_enter Try.func8, Try.ntmps8
    go_wp2_with fail
    refine (bench_alive _).mono ?_
    rintro e w1 ⟨rfl, k1⟩
    have HK := Lib.hid k1
    clear k1
    go_wp2_with fail
    refine (bench_new _ _).mono ?_
    rintro e w2 ⟨p, T, rfl, k2, r2, s2⟩
    obtain ⟨b, rfl⟩ := r2.shape
    rw [show Bc.newL 1 = [(0, false)] by decide] at r2
    have HK2 := Lib.hid (HK.out.then k2)
    have HR2 := Lib.hid r2
    have HT : Hid (∀ x ∈ T, w.heap.size ≤ x) := Lib.hid (fun x hx => by have := HK.out.size; have := s2 x hx; omega)
    clear k2 r2 s2
    go_wp2_with fail
    go_loopw [21] (fun i wr => ∃ k : Nat, k ≤ n ∧ i = .int .i64 k ∧ Keeps [] w wr ∧ Bn wr (.pointer (some ⟨b, 0, none⟩)) [(0, false)] T) (fun i _ => n - (intOf i).toNat)
    case atStart => exact ⟨0, Nat.zero_le _, rfl, HK2.out, HR2.out⟩
    case round =>
      obtain ⟨k, hk, rfl, hke, hrg⟩ := hrel
      have HKe := Lib.hid hke
      have HR := Lib.hid hrg
      clear hke hrg HR2 HK2
      by_cases hkn : k < n
      · obtain ⟨g2, off2, rfl, rfl, hgl, hc2⟩ := HV.out.cell (by omega)
        have c1 : wr.cell? ⟨g2, off2 + k, none⟩ = some (.bool (tru (xs.getD (k * 1) undef))) := by
          have hc3 := View.at0 HV.out.len hc2 hgl HKe.out (by simp) hkn (by omega)
          rw [show xs.getD (k * 1) undef = .bool (tru (xs.getD (k * 1) undef)) from ck_bool (HX.out k hkn 0 _ rfl), Nat.mul_one] at hc3
          rw [Nat.mul_one]; exact hc3
        clear hc2
        generalize tru (xs.getD (k * 1) undef) = gb at *
        go_upto_if 25 with fail
        go_cut [] (fun wx => Keeps [] w wx ∧ Bn wx (.pointer (some ⟨b, 0, none⟩)) [(0, false)] T)
        case first =>
          cases gb with
          | true =>
            go_wp2_with fail
            refine BPost.calls (bench_ready _ _ _ _ _ HR.out) true [(0, true)] (by decide) (by decide) ?_
            intro w3 r3 k3
            have HR3 := Lib.hid r3
            have HK3 := Lib.hid (HKe.out.trans k3 (fun x h => .inr (HT.out x h)))
            clear r3 k3
            go_wp2_with fail
            refine BPost.calls (bench_ready _ _ _ _ _ HR3.out) false [(0, true)] (by decide) (by decide) ?_
            intro w4 r4 k4
            have HR4 := Lib.hid r4
            have HK4 := Lib.hid (HK3.out.trans k4 (fun x h => .inr (HT.out x h)))
            clear r4 k4
            go_wp2_with fail
            refine BPost.calls (bench_park _ _ _ _ _ HR4.out) false [(0, false)] (by decide) (by decide) ?_
            intro w5 r5 k5
            have HR5 := Lib.hid r5
            have HK5 := Lib.hid (HK4.out.trans k5 (fun x h => .inr (HT.out x h)))
            clear r5 k5
            go_wp2_with fail
            go_meet
            exact ⟨HK5.out, HR5.out⟩
          | false =>
            go_wp2_with fail
            refine BPost.calls (bench_park _ _ _ _ _ HR.out) true [(1, false)] (by decide) (by decide) ?_
            intro w3 r3 k3
            have HR3 := Lib.hid r3
            have HK3 := Lib.hid (HKe.out.trans k3 (fun x h => .inr (HT.out x h)))
            clear r3 k3
            go_wp2_with fail
            refine BPost.calls (bench_park _ _ _ _ _ HR3.out) false [(1, false)] (by decide) (by decide) ?_
            intro w4 r4 k4
            have HR4 := Lib.hid r4
            have HK4 := Lib.hid (HK3.out.trans k4 (fun x h => .inr (HT.out x h)))
            clear r4 k4
            go_wp2_with fail
            refine BPost.calls (bench_end _ _ _ _ _ HR4.out) false [(1, false)] (by decide) (by decide) ?_
            intro w5 r5 k5
            have HR5 := Lib.hid r5
            have HK5 := Lib.hid (HK4.out.trans k5 (fun x h => .inr (HT.out x h)))
            clear r5 k5
            go_wp2_with fail
            refine running_calls (bench_running _ _ _ _ HR5.out (by decide)) 0 (by decide) ?_
            intro w6 ao6 cap6 k6
            have HR6 := Lib.hid (HR5.out.then k6)
            have HK6 := Lib.hid (HK5.out.then k6)
            clear k6
            go_wp2_with fail
            refine BPost.calls (bench_ready _ _ _ _ _ HR6.out) true [(0, false)] (by decide) (by decide) ?_
            intro w7 r7 k7
            have HR7 := Lib.hid r7
            have HK7 := Lib.hid (HK6.out.trans k7 (fun x h => .inr (HT.out x h)))
            clear r7 k7
            go_wp2_with fail
            go_meet
            exact ⟨HK7.out, HR7.out⟩
        case rest =>
          obtain ⟨hke, hrg⟩ := hcut
          have HKc := Lib.hid hke
          have HRc := Lib.hid hrg
          clear hke hrg HKe HR c1
          go_wp2_with fail
          refine status_calls (bench_status _ _ _ _ _ HRc.out) 0 (by decide) ?_
          go_wp2_with fail
          refine token_calls (bench_token _ _ _ _ _ HRc.out) false (by decide) ?_
          go_wp2_with fail
          refine running_calls (bench_running _ _ _ _ HRc.out (by decide)) 1 (by decide) ?_
          intro w6 ao6 cap6 k6
          have HR6 := Lib.hid (HRc.out.then k6)
          have HK6 := Lib.hid (HKc.out.then k6)
          clear k6
          go_wp2_with fail
          go_roundw
          case rel => exact ⟨k + 1, by omega, by go_num, HK6.out, HR6.out⟩
          case measure => simp [intOf]; omega
      · have hkn2 : n = k := by omega
        subst hkn2
        go_wp2_with fail
        refine BPost.calls (bench_end _ _ _ _ _ HR.out) true [(2, false)] (by decide) (by decide) ?_
        intro w3 r3 k3
        have HR3 := Lib.hid r3
        have HK3 := Lib.hid (HKe.out.trans k3 (fun x h => .inr (HT.out x h)))
        clear r3 k3
        go_wp2_with fail
        refine BPost.calls (bench_ready _ _ _ _ _ HR3.out) false [(2, false)] (by decide) (by decide) ?_
        intro w4 r4 k4
        have HR4 := Lib.hid r4
        have HK4 := Lib.hid (HK3.out.trans k4 (fun x h => .inr (HT.out x h)))
        clear r4 k4
        go_wp2_with fail
        refine BPost.calls (bench_park _ _ _ _ _ HR4.out) false [(2, false)] (by decide) (by decide) ?_
        intro w5 r5 k5
        have HR5 := Lib.hid r5
        have HK5 := Lib.hid (HK4.out.trans k5 (fun x h => .inr (HT.out x h)))
        clear r5 k5
        go_wp2_with fail
        refine status_calls (bench_status _ _ _ _ _ HR5.out) 2 (by decide) ?_
        go_wp2_with fail
        go_ret
        exact ⟨rfl, HK5.out⟩
end Go.Proofs.Ytgpcmifbkbgbjaa
