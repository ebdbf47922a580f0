/-
  The law BenchRuns: its walk.
  Conditions: none.
-/
import Derived.Test.YtgpcmifbkbgbjaaRef08B
namespace Go.Proofs.Ytgpcmifbkbgbjaa
open Go.RowKit
set_option linter.unusedVariables false
set_option linter.unusedSimpArgs false
set_option linter.unnecessarySimpa false

namespace Bc
theorem parkL_len (l : List (Int × Bool)) (i : Int) : (parkL l i).length = l.length := by unfold parkL; split <;> (try split) <;> simp
theorem readyL_len (l : List (Int × Bool)) (i : Int) : (readyL l i).length = l.length := by unfold readyL; split <;> (try split) <;> simp
theorem endL_len (l : List (Int × Bool)) (i : Int) : (endL l i).length = l.length := by unfold endL; split <;> simp
theorem setL_len (l : List (Int × Bool)) (i s : Int) (t : Bool) : (setL l i s t).length = l.length := by unfold setL; split <;> simp
theorem newL_len (n : Int) : (newL n).length ≤ 4096 := by unfold newL; simp; omega
theorem runFrom_app : ∀ (a b : List (Int × Bool)) (k : Nat), runFrom k (a ++ b) = runFrom k a ++ runFrom (k + a.length) b
  | [], b, k => by simp [runFrom]
  | x :: r, b, k => by
    simp only [List.cons_append, runFrom, runFrom_app r b (k + 1), List.append_assoc, List.length_cons]
    rw [show k + 1 + r.length = k + (r.length + 1) by omega]
/-- one that runs stands at its place -/
theorem running_at (l : List (Int × Bool)) (k : Nat) (o : Int × Bool) (h : l[k]? = some o) (h0 : o.1 = 0) :
    (running (l.take k)).length < (running l).length ∧ (running l).getD (running (l.take k)).length 0 = (k : Int) := by
  have e : running l = running (l.take (k + 1)) ++ runFrom (0 + (l.take (k + 1)).length) (l.drop (k + 1)) := by
    unfold running; rw [← runFrom_app, List.take_append_drop]
  rw [running_take l k o h, if_pos h0] at e
  rw [e]
  refine ⟨by simp, by simp [List.getD]⟩
theorem running_le (l : List (Int × Bool)) : (running l).length ≤ l.length := runFrom_len l 0
end Bc

def BBoth (b : Nat) (w : World) (v6 : Value) (w' : World) : Prop :=
  ∃ l S T ao cap, v6 = .slice ao l.length cap ∧ Keeps [] w w' ∧ Bn w' (.pointer (some ⟨b, 0, none⟩)) l S ∧ EV oneC 2 w' v6 l T ∧ (∀ x ∈ S, w.heap.size ≤ x) ∧ (∀ x ∈ S, x ∉ T) ∧ l.length ≤ 4096
def BMid (b : Nat) (w : World) (v6 v9 v10 : Value) (w' : World) : Prop :=
  BBoth b w v6 w' ∧ ∃ ok, v9 = .bool ok ∧ v10 = .bool ok

theorem bboth_step {b : Nat} {w w1 w2 w3 : World} {l l' : List (Int × Bool)} {S T T' : List Nat} {v' : Value}
    (hk : Keeps [] w w1) (hl : Bn w1 (.pointer (some ⟨b, 0, none⟩)) l S) (hS : ∀ x ∈ S, w.heap.size ≤ x) (hd : ∀ x ∈ S, x ∉ T)
    (k2 : Keeps [] w1 w2) (hv : EV oneC 2 w2 v' l' T') (hT : ∀ k ∈ T', k ∈ T ∨ w1.heap.size ≤ k)
    (hl3 : Bn w3 (.pointer (some ⟨b, 0, none⟩)) l' S) (k3 : Keeps S w2 w3) (hle : l'.length ≤ 4096) : BBoth b w v' w3 := by
  have hdd : ∀ x ∈ S, x ∉ T' := fun x hx ht => by
    rcases hT x ht with h | h
    · exact hd x hx h
    · have := hl.lt x hx; omega
  obtain ⟨ao', cap', rfl⟩ := hv.shape
  exact ⟨l', S, T', ao', cap', rfl, hk.trans ((k2.mono (T := S) (by simp)).trans k3 (fun x h => .inl h)) (fun x h => .inr (hS x h)), hl3, hv.keep k3 (fun x hx hs => hdd x hs hx), hS, hdd, hle⟩

set_option maxRecDepth 100000 in
set_option maxHeartbeats 6400000 in
theorem benchRuns_walk (w : World) (nn : Int) (wn : (Lit.int .i64 nn).wf = true) (v : Value) (n : Nat) (xs : List Value) (S : List Nat) (hv : View w v 4 n xs S) (hx : ∀ k, k < n → ∀ (f : Nat) (q : Option IntKind), ([some .i64, some .i64, some .i64, none] : List (Option IntKind))[f]? = some q → ckOk q (xs.getD (k * 4 + f) undef)) :
    Calls Try.prog 9 #[.int .i64 nn, v] w fun e w' => e = .returned (.bool true) ∧ Keeps [] w w' := by
  have hm := hv.le
  unfold maxLen at hm
  obtain ⟨ao, cap, rfl⟩ := hv.shape
  clear wn
  have HX := Lib.hid hx
  have HV := Lib.hid hv
  clear hx hv
  cases hq1 : decide (100 < (n : Int)) with
  | true =>
    go_enter Try.func9, Try.ntmps9
    go_wp2_with fail
    refine (bench_alive _).mono ?_
    rintro e w1 ⟨rfl, k1⟩
    have HK := Lib.hid k1
    clear k1
    go_wp2_with fail
    go_ret
    exact ⟨rfl, HK.out⟩
  | false =>
    cases hq2 : (decide (40 < nn) && decide (nn ≤ 4096)) with
    | true =>
      simp only [Bool.and_eq_true] at hq2
      obtain ⟨hq2, hq3⟩ := hq2
      go_enter Try.func9, Try.ntmps9
      go_wp2_with fail
      refine (bench_alive _).mono ?_
      rintro e w1 ⟨rfl, k1⟩
      have HK := Lib.hid k1
      clear k1
      go_wp2_with fail
      go_ret
      exact ⟨rfl, HK.out⟩
    | false =>
      obtain ⟨b40, h40⟩ : ∃ b, decide (40 < nn) = b := ⟨_, rfl⟩
      obtain ⟨b41, h41⟩ : ∃ b, decide (nn ≤ 4096) = b := ⟨_, rfl⟩
      rw [h40, h41] at hq2
      go_enter Try.func9, Try.ntmps9
      go_wp2_with fail
      refine (bench_alive _).mono ?_
      rintro e w1 ⟨rfl, k1⟩
      have HK := Lib.hid k1
      clear k1
      go_upto_region 3 with fail
      go_cut [27] (fun s wx => s = .bool false ∧ wx = w1)
      case first =>
        cases b40
        all_goals cases b41
        all_goals try (cases hq2; done)
        all_goals clear hq2
        all_goals go_wp2_with fail
        all_goals (go_meet; exact ⟨rfl, rfl⟩)
      case rest =>
        obtain ⟨rfl, rfl⟩ := hcut
        clear h40 h41 hq2
        go_wp2_with fail
        refine (bench_new _ _).mono ?_
        rintro e w2 ⟨p, S2, rfl, k2, h2, hs2⟩
        obtain ⟨b, rfl⟩ := h2.shape
        have HK2 := Lib.hid (HK.out.then k2)
        have H2 := Lib.hid h2
        have HS2 : Hid (∀ k ∈ S2, w.heap.size ≤ k) := Lib.hid (fun k hk => by have := hs2 k hk; have := HK.out.size; omega)
        clear k2 h2 hs2
        go_wp2_with fail
        refine (ref08_new _ _).mono ?_
        rintro e w3 ⟨v3, T3, rfl, k3, i3, s3⟩
        obtain ⟨ao3, cap3, rfl⟩ := i3.shape
        have HLen := Lib.hid (Bc.newL_len nn)
        have hl17 : (Bc.newL nn).length ≤ 17592186044416 := by have := HLen.out; omega
        have HB : Hid (BBoth b w (.slice ao3 (Bc.newL nn).length cap3) w3) := Lib.hid ⟨Bc.newL nn, S2, T3, ao3, cap3, rfl, HK2.out.then k3, H2.out.then k3, i3, HS2.out, fun x hx hx3 => by
          have := H2.out.lt x hx; have := s3 x hx3; omega, HLen.out⟩
        have HBn := Lib.hid (H2.out.then k3)
        clear k3 i3 s3
        generalize Bc.newL nn = l0 at *
        go_wp2_with fail
        refine (bench_len _ _ _ _ HBn.out).mono ?_
        rintro e w4 ⟨rfl, rfl⟩
        clear HBn H2 HS2 HLen
        go_wp2_with fail
        go_loopw [6, 43] (fun v6 i wr => ∃ k : Nat, k ≤ n ∧ i = .int .i64 k ∧ BBoth b w v6 wr) (fun _ i _ => n - (intOf i).toNat)
        case atStart => exact ⟨0, Nat.zero_le _, rfl, HB.out⟩
        case round =>
          obtain ⟨k, hk, rfl, hboth⟩ := hrel
          clear HB hl17
          by_cases hlt : k < n
          · obtain ⟨l, S4, T4, ao4, cap4, rfl, hke, hlat, hiv, hS4, hd4, hle4⟩ := hboth
            obtain ⟨g, off, rfl, rfl, hg, hc⟩ := HV.out.cell (by omega)
            have hlen := HV.out.len
            have c0 := View.at0 hlen hc hg hke (by simp) hlt (by decide)
            have c1 := View.at hlen hc hg hke (by simp) hlt (f := 1) (by decide)
            have c2 := View.at hlen hc hg hke (by simp) hlt (f := 2) (by decide)
            have c3 := View.at hlen hc hg hke (by simp) hlt (f := 3) (by decide)
            rw [show xs.getD (k * 4) undef = .int .i64 (num (xs.getD (k * 4) undef)) from (ck_int (HX.out k hlt 0 _ rfl)).1] at c0
            rw [(ck_int (HX.out k hlt 1 _ rfl)).1] at c1
            rw [(ck_int (HX.out k hlt 2 _ rfl)).1] at c2
            rw [ck_bool (HX.out k hlt 3 _ rfl)] at c3
            generalize num (xs.getD (k * 4) undef) = a0 at *
            generalize num (xs.getD (k * 4 + 1) undef) = a1 at *
            generalize num (xs.getD (k * 4 + 2) undef) = a2 at *
            generalize tru (xs.getD (k * 4 + 3) undef) = a3 at *
            have HKe := Lib.hid hke
            have HL := Lib.hid hlat
            have HIv := Lib.hid hiv
            have HS4 := Lib.hid hS4
            have HD4 := Lib.hid hd4
            have HLe4 := Lib.hid hle4
            have hl17 : l.length ≤ 17592186044416 := by omega
            clear hc hlen hke hlat hiv hS4 hd4 hle4
            go_upto_block 2 with fail
            go_cut [6, 9, 10] (BMid b w)
            case first =>
              cases q0 : (a0 == 0) with
              | true =>
                go_wp2_with fail
                refine (ref08_park _ _ l _ a1 (HIv.out.then ((Keeps.refl [] wr).alloc _)) (by have := HLe4.out; omega)).mono ?_
                rintro e w4 ⟨v4, S5, rfl, k4, i4, s4⟩
                have hbk := (Blk.new wr [.int .i64 a0, .int .i64 a1, .int .i64 a2, .bool a3] 73).keep k4 (by simp)
                have d1 : w4.cell? ⟨wr.heap.size, 1, none⟩ = some (.int .i64 a1) := hbk.cell 1
                have d2 : w4.cell? ⟨wr.heap.size, 2, none⟩ = some (.int .i64 a2) := hbk.cell 2
                have d3 : w4.cell? ⟨wr.heap.size, 3, none⟩ = some (.bool a3) := hbk.cell 3
                have HL4' := Lib.hid ((HL.out.alloc (.cells #[.int .i64 a0, .int .i64 a1, .int .i64 a2, .bool a3] 73)).keep k4 (by simp))
                have K4 := Lib.hid (((Keeps.refl [] wr).alloc (.cells #[.int .i64 a0, .int .i64 a1, .int .i64 a2, .bool a3] 73)).then k4)
                have I4 := Lib.hid i4
                have S4' : Hid (∀ k ∈ S5, k ∈ T4 ∨ wr.heap.size ≤ k) := Lib.hid (fun k hk => by
                  rcases s4 k hk with h | h
                  · exact .inl h
                  · right; simp at h; omega)
                clear hbk k4 i4 s4 c0 c1 c2 c3
                go_wp2_with fail
                refine (bench_park _ _ _ _ a1 HL4'.out).mono ?_
                rintro e w5 ⟨rfl, h5, k5⟩
                have HBoth := Lib.hid (bboth_step HKe.out HL.out HS4.out HD4.out K4.out I4.out S4'.out h5 k5 (by rw [Bc.parkL_len]; exact HLe4.out))
                clear h5 k5 d1 d2 d3
                go_wp2_with fail
                go_meet
                exact ⟨HBoth.out, _, rfl, rfl⟩
              | false =>
                cases q1 : (a0 == 1) with
                | true =>
                  go_wp2_with fail
                  refine (ref08_ready _ _ l _ a1 (HIv.out.then ((Keeps.refl [] wr).alloc _)) (by have := HLe4.out; omega)).mono ?_
                  rintro e w4 ⟨v4, S5, rfl, k4, i4, s4⟩
                  have hbk := (Blk.new wr [.int .i64 a0, .int .i64 a1, .int .i64 a2, .bool a3] 73).keep k4 (by simp)
                  have d1 : w4.cell? ⟨wr.heap.size, 1, none⟩ = some (.int .i64 a1) := hbk.cell 1
                  have d2 : w4.cell? ⟨wr.heap.size, 2, none⟩ = some (.int .i64 a2) := hbk.cell 2
                  have d3 : w4.cell? ⟨wr.heap.size, 3, none⟩ = some (.bool a3) := hbk.cell 3
                  have HL4' := Lib.hid ((HL.out.alloc (.cells #[.int .i64 a0, .int .i64 a1, .int .i64 a2, .bool a3] 73)).keep k4 (by simp))
                  have K4 := Lib.hid (((Keeps.refl [] wr).alloc (.cells #[.int .i64 a0, .int .i64 a1, .int .i64 a2, .bool a3] 73)).then k4)
                  have I4 := Lib.hid i4
                  have S4' : Hid (∀ k ∈ S5, k ∈ T4 ∨ wr.heap.size ≤ k) := Lib.hid (fun k hk => by
                    rcases s4 k hk with h | h
                    · exact .inl h
                    · right; simp at h; omega)
                  clear hbk k4 i4 s4 c0 c1 c2 c3
                  go_wp2_with fail
                  refine (bench_ready _ _ _ _ a1 HL4'.out).mono ?_
                  rintro e w5 ⟨rfl, h5, k5⟩
                  have HBoth := Lib.hid (bboth_step HKe.out HL.out HS4.out HD4.out K4.out I4.out S4'.out h5 k5 (by rw [Bc.readyL_len]; exact HLe4.out))
                  clear h5 k5 d1 d2 d3
                  go_wp2_with fail
                  go_meet
                  exact ⟨HBoth.out, _, rfl, rfl⟩
                | false =>
                  cases q2 : (a0 == 2) with
                  | true =>
                    go_wp2_with fail
                    refine (ref08_end _ _ l _ a1 (HIv.out.then ((Keeps.refl [] wr).alloc _)) (by have := HLe4.out; omega)).mono ?_
                    rintro e w4 ⟨v4, S5, rfl, k4, i4, s4⟩
                    have hbk := (Blk.new wr [.int .i64 a0, .int .i64 a1, .int .i64 a2, .bool a3] 73).keep k4 (by simp)
                    have d1 : w4.cell? ⟨wr.heap.size, 1, none⟩ = some (.int .i64 a1) := hbk.cell 1
                    have d2 : w4.cell? ⟨wr.heap.size, 2, none⟩ = some (.int .i64 a2) := hbk.cell 2
                    have d3 : w4.cell? ⟨wr.heap.size, 3, none⟩ = some (.bool a3) := hbk.cell 3
                    have HL4' := Lib.hid ((HL.out.alloc (.cells #[.int .i64 a0, .int .i64 a1, .int .i64 a2, .bool a3] 73)).keep k4 (by simp))
                    have K4 := Lib.hid (((Keeps.refl [] wr).alloc (.cells #[.int .i64 a0, .int .i64 a1, .int .i64 a2, .bool a3] 73)).then k4)
                    have I4 := Lib.hid i4
                    have S4' : Hid (∀ k ∈ S5, k ∈ T4 ∨ wr.heap.size ≤ k) := Lib.hid (fun k hk => by
                      rcases s4 k hk with h | h
                      · exact .inl h
                      · right; simp at h; omega)
                    clear hbk k4 i4 s4 c0 c1 c2 c3
                    go_wp2_with fail
                    refine (bench_end _ _ _ _ a1 HL4'.out).mono ?_
                    rintro e w5 ⟨rfl, h5, k5⟩
                    have HBoth := Lib.hid (bboth_step HKe.out HL.out HS4.out HD4.out K4.out I4.out S4'.out h5 k5 (by rw [Bc.endL_len]; exact HLe4.out))
                    clear h5 k5 d1 d2 d3
                    go_wp2_with fail
                    go_meet
                    exact ⟨HBoth.out, _, rfl, rfl⟩
                  | false =>
                    cases q3 : (a0 == 3) with
                    | true =>
                      go_wp2_with fail
                      refine (ref08_set _ _ l _ a1 a2 a3 (HIv.out.then ((Keeps.refl [] wr).alloc _)) (by have := HLe4.out; omega)).mono ?_
                      rintro e w4 ⟨v4, S5, rfl, k4, i4, s4⟩
                      have hbk := (Blk.new wr [.int .i64 a0, .int .i64 a1, .int .i64 a2, .bool a3] 73).keep k4 (by simp)
                      have d1 : w4.cell? ⟨wr.heap.size, 1, none⟩ = some (.int .i64 a1) := hbk.cell 1
                      have d2 : w4.cell? ⟨wr.heap.size, 2, none⟩ = some (.int .i64 a2) := hbk.cell 2
                      have d3 : w4.cell? ⟨wr.heap.size, 3, none⟩ = some (.bool a3) := hbk.cell 3
                      have HL4' := Lib.hid ((HL.out.alloc (.cells #[.int .i64 a0, .int .i64 a1, .int .i64 a2, .bool a3] 73)).keep k4 (by simp))
                      have K4 := Lib.hid (((Keeps.refl [] wr).alloc (.cells #[.int .i64 a0, .int .i64 a1, .int .i64 a2, .bool a3] 73)).then k4)
                      have I4 := Lib.hid i4
                      have S4' : Hid (∀ k ∈ S5, k ∈ T4 ∨ wr.heap.size ≤ k) := Lib.hid (fun k hk => by
                        rcases s4 k hk with h | h
                        · exact .inl h
                        · right; simp at h; omega)
                      clear hbk k4 i4 s4 c0 c1 c2 c3
                      go_wp2_with fail
                      refine (bench_set _ _ _ _ a1 a2 a3 HL4'.out).mono ?_
                      rintro e w5 ⟨rfl, h5, k5⟩
                      have HBoth := Lib.hid (bboth_step HKe.out HL.out HS4.out HD4.out K4.out I4.out S4'.out h5 k5 (by rw [Bc.setL_len]; exact HLe4.out))
                      clear h5 k5 d1 d2 d3
                      go_wp2_with fail
                      go_meet
                      exact ⟨HBoth.out, _, rfl, rfl⟩
                    | false =>
                      go_wp2_with fail
                      go_meet
                      exact ⟨⟨l, S4, T4, ao4, cap4, rfl, HKe.out.alloc _, HL.out.alloc _, HIv.out.then ((Keeps.refl [] wr).alloc _), HS4.out, HD4.out, HLe4.out⟩, true, rfl, rfl⟩
            case rest =>
              obtain ⟨⟨l5, S5, T5, ao5, cap5, rfl, hke5, hlat5, hiv5, hS5, hd5, hle5⟩, ok, rfl, rfl⟩ := hcut
              have HK5 := Lib.hid hke5
              have HR5 := Lib.hid hlat5
              have HI5 := Lib.hid hiv5
              have HS5 := Lib.hid hS5
              have HD5 := Lib.hid hd5
              have HL5 := Lib.hid hle5
              have hl5 : l5.length ≤ 17592186044416 := by omega
              clear hke5 hlat5 hiv5 hS5 hd5 hle5 c0 c1 c2 c3 HKe HL HIv HS4 HD4 HLe4 hl17
              go_wp2_with fail
              refine status_calls (bench_status _ _ _ _ _ HR5.out) 2 (by simp [Bc.status, Bc.has]) ?_
              go_wp2_with fail
              refine token_calls (bench_token _ _ _ _ _ HR5.out) false (by simp [Bc.token, Bc.has]) ?_
              go_wp2_with fail
              refine (bench_running _ _ _ _ HR5.out (by have := HL5.out; omega)).mono ?_
              rintro e w6 ⟨v6, S6, rfl, k6, i6, s6⟩
              obtain ⟨ao6, cap6, rfl⟩ := i6.shape
              have HK6 := Lib.hid (HK5.out.then k6)
              have HR6 := Lib.hid (HR5.out.then k6)
              have HI6 := Lib.hid (HI5.out.then k6)
              have HU6 := Lib.hid i6
              have hrl : (Bc.running l5).length ≤ 17592186044416 := by have := Bc.running_le l5; omega
              clear k6 i6 s6 HK5 HR5 HI5
              go_wp2_with fail
              go_loopw [12, 127] (fun q i wr => ∃ j : Nat, j ≤ l5.length ∧ i = .int .i64 j ∧ q = .int .i64 ((Bc.running (l5.take j)).length : Nat) ∧ Keeps [] w6 wr) (fun _ i _ => l5.length - (intOf i).toNat)
              case atStart => exact ⟨0, Nat.zero_le _, rfl, by simp [Bc.running, Bc.runFrom], Keeps.refl _ _⟩
              case round =>
                obtain ⟨j, hj, rfl, rfl, hkj⟩ := hrel
                have HKj := Lib.hid hkj
                clear hkj
                by_cases hjl : j < l5.length
                · obtain ⟨g5, off5, rfl, rfl, hg5, hc5⟩ := HI6.out.cells oneC_len (by omega)
                  obtain ⟨o, ho⟩ : ∃ o, l5[j]? = some o := ⟨_, List.getElem?_eq_getElem hjl⟩
                  have hhas : Bc.has l5 j = true := by simp [Bc.has, hjl]
                  have hmem : Bc.mem l5 j = o := by simp [Bc.mem, List.getD, ho]
                  have hstat : Bc.status l5 j = o.1 := by simp [Bc.status, hhas, hmem]
                  have htok : Bc.token l5 j = o.2 := by simp [Bc.token, hhas, hmem]
                  have e0 := HKj.out.cell (hc5 j o 0 ho (by omega)) (by simp)
                  have e1 := HKj.out.cell (hc5 j o 1 ho (by omega)) (by simp)
                  have e0' : wr.cell? ⟨g5, off5 + j * 2, none⟩ = some (.int .i64 o.1) := e0
                  have e1' : wr.cell? ⟨g5, off5 + j * 2 + 1, none⟩ = some (.bool o.2) := by rw [Nat.add_assoc]; exact e1
                  have HSt : Hid (∀ wq, Bn wq (.pointer (some ⟨b, 0, none⟩)) l5 S5 → Calls Try.prog 45 #[.pointer (some ⟨b, 0, none⟩), .int .i64 j] wq fun e w' => e = .returned (.int .i64 o.1) ∧ wq = w') := Lib.hid (fun wq hq => by
                    have := bench_status wq _ l5 S5 j hq; rwa [hstat] at this)
                  have HTk : Hid (∀ wq, Bn wq (.pointer (some ⟨b, 0, none⟩)) l5 S5 → Calls Try.prog 46 #[.pointer (some ⟨b, 0, none⟩), .int .i64 j] wq fun e w' => e = .returned (.bool o.2) ∧ wq = w') := Lib.hid (fun wq hq => by
                    have := bench_token wq _ l5 S5 j hq; rwa [htok] at this)
                  have HNx := Lib.hid (Bc.running_take l5 j o ho)
                  have HAt := Lib.hid (Bc.running_at l5 j o ho)
                  have HRj := Lib.hid (HR6.out.then HKj.out)
                  have HUj := Lib.hid (HU6.out.then HKj.out)
                  have HQ : Hid ((Bc.running (l5.take j)).length ≤ j) := Lib.hid (by have := Bc.running_le (l5.take j); simp at this; omega)
                  have hq17 : (Bc.running (l5.take j)).length ≤ 17592186044416 := by have := HQ.out; omega
                  clear hc5 ho hhas hmem hstat htok e0 e1
                  obtain ⟨s0, t0⟩ := o
                  simp only at e0' e1' HSt HTk HNx HAt
                  have HRq := Lib.hid (HRj.out.alloc (.cells #[.int .i64 s0, .bool t0] 79))
                  have HKq := Lib.hid (HKj.out.alloc (.cells #[.int .i64 s0, .bool t0] 79))
                  have qn : (s0 != s0) = false := by simp
                  have qt : (t0 != t0) = false := by simp
                  have d0 : (wr.alloc (.cells #[.int .i64 s0, .bool t0] 79)).cell? ⟨wr.heap.size, 0, none⟩ = some (.int .i64 s0) := (Blk.new wr [.int .i64 s0, .bool t0] 79).cell 0
                  have d1 : (wr.alloc (.cells #[.int .i64 s0, .bool t0] 79)).cell? ⟨wr.heap.size, 1, none⟩ = some (.bool t0) := (Blk.new wr [.int .i64 s0, .bool t0] 79).cell 1
                  cases h0 : (s0 == 0) with
                  | true =>
                    have h00 : s0 = 0 := by simpa using h0
                    obtain ⟨ha1, ha2⟩ := HAt.out h00
                    obtain ⟨g6, off6, rfl, rfl, hg6, hc6⟩ := HU6.out.cells (by omega)
                    have c6 := HKq.out.cell (hc6 _ ha1) (by simp)
                    rw [ha2] at c6
                    have HS2 : Hid ((Bc.running (l5.take (j + 1))).length = (Bc.running (l5.take j)).length + 1) := Lib.hid (by rw [HNx.out, if_pos h00]; simp)
                    have hge : decide ((Bc.running l5).length ≤ (Bc.running (l5.take j)).length) = false := by simp; omega
                    generalize (Bc.running l5).length = r at *
                    generalize (Bc.running (l5.take j)).length = q at *
                    clear ha2 hc6 h00 HNx HAt
                    go_wp2_with fail
                    go_quiet (first | (go_at_call 45; exact quiet_own (HSt.out _ (HRq.out.drewN _))) | (go_at_call 46; exact quiet_own (HTk.out _ (HRq.out.drewN _))))
                    go_wp2_with fail
                    go_roundw
                    case rel => exact ⟨j + 1, by omega, by go_num, by rw [HS2.out]; rfl, HKq.out.drewN _⟩
                    case measure => simp [intOf]; omega
                  | false =>
                    have h00 : ¬ s0 = 0 := by simpa using h0
                    have HS2 : Hid ((Bc.running (l5.take (j + 1))).length = (Bc.running (l5.take j)).length) := Lib.hid (by rw [HNx.out, if_neg h00]; simp)
                    generalize (Bc.running (l5.take j)).length = q at *
                    clear h00 HNx HAt
                    go_wp2_with fail
                    go_quiet (first | (go_at_call 45; exact quiet_own (HSt.out _ (HRq.out.drewN _))) | (go_at_call 46; exact quiet_own (HTk.out _ (HRq.out.drewN _))))
                    go_wp2_with fail
                    go_roundw
                    case rel => exact ⟨j + 1, by omega, by go_num, by rw [HS2.out], HKq.out.drewN _⟩
                    case measure => simp [intOf]; omega
                · have hkl : l5.take j = l5 := List.take_of_length_le (by omega)
                  rw [hkl]
                  have HBo : Hid (BBoth b w (.slice ao5 l5.length cap5) wr) := Lib.hid ⟨l5, S5, T5, ao5, cap5, rfl, HK6.out.then HKj.out, HR6.out.then HKj.out, HI6.out.then HKj.out, HS5.out, HD5.out, HL5.out⟩
                  clear hkl
                  go_wp2_with fail
                  go_roundw
                  case rel => exact ⟨k + 1, by omega, by go_num, HBo.out⟩
                  case measure => simp [intOf]; omega
          · obtain ⟨l, S4, T4, ao4, cap4, rfl, hke, hlat, hiv, hS4, hd4, hle4⟩ := hboth
            have HKe := Lib.hid hke
            clear hke hlat hiv hS4 hd4 hle4
            go_wp2_with fail
            go_ret
            exact ⟨rfl, HKe.out⟩
end Go.Proofs.Ytgpcmifbkbgbjaa
