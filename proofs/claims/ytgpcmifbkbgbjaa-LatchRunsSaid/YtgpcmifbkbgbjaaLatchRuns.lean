/-
  The law LatchRuns: its walk.
  Conditions: none.
-/
import Derived.Test.YtgpcmifbkbgbjaaRef07
import Derived.Test.YtgpcmifbkbgbjaaLatchOne
namespace Go.Proofs.Ytgpcmifbkbgbjaa
open Go.RowKit
set_option linter.unusedVariables false
set_option linter.unusedSimpArgs false
set_option linter.unnecessarySimpa false

namespace Lt
theorem addL_len (l : List Int) (h : l.length ≤ 4096) : (addL l).length ≤ 4096 := by
  unfold addL
  split
  · rw [List.length_append, List.length_singleton]; omega
  · exact h
theorem newL_len (n : Int) : (newL n).length ≤ 4096 := by unfold newL; simp; omega
end Lt

/-- what holds of the two, x and the document's list, between two acts -/
def Both (b : Nat) (w : World) (v : Value) (w' : World) : Prop :=
  ∃ l S T ao cap, v = .slice ao l.length cap ∧ Keeps [] w w' ∧ Lat w' (.pointer (some ⟨b, 0, none⟩)) l S ∧ IV w' (.slice ao l.length cap) l T ∧ (∀ x ∈ S, w.heap.size ≤ x) ∧ l.length ≤ 4096 ∧ (∀ x ∈ S, x ∉ T)
def Mid (b : Nat) (w : World) (ba : Nat) (a0 a1 a2 : Int) (v6 v9 v10 : Value) (w' : World) : Prop :=
  Both b w v6 w' ∧ ∃ ok, v9 = .bool ok ∧ v10 = .bool ok ∧ Blk w' ba [.int .i64 a0, .int .i64 a1, .int .i64 a2] 27

theorem both_step {b : Nat} {w w1 w2 w3 : World} {v' : Value} {l l' : List Int} {S T T' : List Nat} (hk : Keeps [] w w1)
    (hl : Lat w1 (.pointer (some ⟨b, 0, none⟩)) l S) (hS : ∀ x ∈ S, w.heap.size ≤ x) (hd : ∀ x ∈ S, x ∉ T)
    (k2 : Keeps [] w1 w2) (hv : IV w2 v' l' T') (hT : ∀ k ∈ T', k ∈ T ∨ w1.heap.size ≤ k)
    (hl3 : Lat w3 (.pointer (some ⟨b, 0, none⟩)) l' S) (k3 : Keeps S w2 w3) (h4 : l'.length ≤ 4096) : Both b w v' w3 := by
  have hdd : ∀ x ∈ S, x ∉ T' := fun x hx ht => by
    rcases hT x ht with h | h
    · exact hd x hx h
    · have := hl.lt x hx; omega
  obtain ⟨ao', cap', rfl⟩ := hv.shape
  exact ⟨l', S, T', ao', cap', rfl, hk.trans ((k2.mono (T := S) (by simp)).trans k3 (fun x h => .inl h)) (fun x h => .inr (hS x h)), hl3, hv.keep k3 (fun x hx hs => hdd x hs hx), hS, h4, hdd⟩


set_option maxRecDepth 100000 in
set_option maxHeartbeats 3200000 in
theorem latchRuns_walk (w : World) (nn : Int) (wn : (Lit.int .i64 nn).wf = true) (v : Value) (n : Nat) (xs : List Value) (S : List Nat) (hv : View w v 3 n xs S) (hx : ∀ k, k < n → ∀ (f : Nat) (q : Option IntKind), ([some .i64, some .i64, some .i64] : List (Option IntKind))[f]? = some q → ckOk q (xs.getD (k * 3 + f) undef)) :
    Calls Try.prog 5 #[.int .i64 nn, v] w fun e w' => e = .returned (.bool true) ∧ Keeps [] w w' := by
  have hm := hv.le
  unfold maxLen at hm
  obtain ⟨ao, cap, rfl⟩ := hv.shape
  clear wn
  have HX := Lib.hid hx
  have HV := Lib.hid hv
  clear hx hv
  cases hq1 : decide (100 < (n : Int)) with
  | true =>
    go_enter Try.func5, Try.ntmps5
    go_wp2_with fail
    refine (latch_alive _).mono ?_
    rintro e w1 ⟨rfl, k1⟩
    have HK := Lib.hid k1
    clear k1
    go_wp2_with fail
    go_ret
    exact ⟨rfl, HK.out⟩
  | false =>
    cases hq2 : (decide (40 < nn) && decide (nn ≤ 4096)) with
    | true =>
      simp only [Bool.and_eq_true] at hq2
      obtain ⟨hq2, hq3⟩ := hq2
      go_enter Try.func5, Try.ntmps5
      go_wp2_with fail
      refine (latch_alive _).mono ?_
      rintro e w1 ⟨rfl, k1⟩
      have HK := Lib.hid k1
      clear k1
      go_wp2_with fail
      go_ret
      exact ⟨rfl, HK.out⟩
    | false =>
      obtain ⟨b40, h40⟩ : ∃ b, decide (40 < nn) = b := ⟨_, rfl⟩
      obtain ⟨b41, h41⟩ : ∃ b, decide (nn ≤ 4096) = b := ⟨_, rfl⟩
      rw [h40, h41] at hq2
      go_enter Try.func5, Try.ntmps5
      go_wp2_with fail
      refine (latch_alive _).mono ?_
      rintro e w1 ⟨rfl, k1⟩
      have HK := Lib.hid k1
      clear k1
      go_upto_region 3 with fail
      go_cut [24] (fun s wx => s = .bool false ∧ wx = w1)
      case first =>
        cases b40
        all_goals cases b41
        all_goals try (cases hq2; done)
        all_goals clear hq2
        all_goals go_wp2_with fail
        all_goals (go_meet; exact ⟨rfl, rfl⟩)
      case rest =>
        obtain ⟨rfl, rfl⟩ := hcut
        clear h40 h41 hq2
        go_wp2_with fail
        refine (latch_new _ _).mono ?_
        rintro e w2 ⟨p, S2, rfl, k2, h2, hs2⟩
        obtain ⟨b, rfl⟩ := h2.shape
        have K2 := Lib.hid k2
        have H2 := Lib.hid h2
        have S2' := Lib.hid hs2
        clear k2 h2 hs2
        go_wp2_with fail
        refine (ref07_new _ _).mono ?_
        rintro e w3 ⟨v3, S3, rfl, k3, h3, hs3⟩
        have HB : Hid (Both b w v3 w3) := Lib.hid (by
          obtain ⟨ao3, cap3, rfl⟩ := h3.shape
          exact ⟨_, S2, S3, ao3, cap3, rfl, (HK.out.then K2.out).then k3, H2.out.keep k3 (by simp), h3, fun x hx => Nat.le_trans HK.out.size (S2'.out x hx), Lt.newL_len nn, fun x hx hx3 => by
            have := H2.out.lt x hx; have := hs3 x hx3; omega⟩)
        clear k3 h3 hs3 H2 S2' K2
        go_wp2_with fail
        go_loopw [6, 33] (fun v6 i wr => ∃ k : Nat, k ≤ n ∧ i = .int .i64 k ∧ Both b w v6 wr) (fun _ i _ => n - (intOf i).toNat)
        case atStart => exact ⟨0, Nat.zero_le _, rfl, HB.out⟩
        case round =>
          obtain ⟨k, hk, rfl, hboth⟩ := hrel
          by_cases hlt : k < n
          · obtain ⟨l, S4, T4, ao4, cap4, rfl, hke, hlat, hiv, hS4, hl4, hd4⟩ := hboth
            obtain ⟨g, off, rfl, rfl, hg, hc⟩ := HV.out.cell (by omega)
            have hlen := HV.out.len
            have c0 := View.at0 hlen hc hg hke (by simp) hlt (by decide)
            have c1 := View.at hlen hc hg hke (by simp) hlt (f := 1) (by decide)
            have c2 := View.at hlen hc hg hke (by simp) hlt (f := 2) (by decide)
            rw [show xs.getD (k * 3) undef = .int .i64 (num (xs.getD (k * 3) undef)) from (ck_int (HX.out k hlt 0 _ rfl)).1] at c0
            rw [(ck_int (HX.out k hlt 1 _ rfl)).1] at c1
            rw [(ck_int (HX.out k hlt 2 _ rfl)).1] at c2
            generalize num (xs.getD (k * 3) undef) = a0 at *
            generalize num (xs.getD (k * 3 + 1) undef) = a1 at *
            generalize num (xs.getD (k * 3 + 2) undef) = a2 at *
            have HKe := Lib.hid hke
            have HL := Lib.hid hlat
            have HI := Lib.hid hiv
            have HS4 := Lib.hid hS4
            have HL4 := Lib.hid hl4
            have HD4 := Lib.hid hd4
            clear hc hlen hke hlat hiv hS4 hl4 hd4
            have hbig : l.length * 8 ≤ 140737488355328 := by have := HL4.out; omega
            have HBG := Lib.hid hbig
            have hls : l.length ≤ 17592186044416 := by omega
            clear hbig
            go_upto_block 2 with fail
            go_cut [6, 9, 10] (Mid b w wr.heap.size a0 a1 a2)
            case first =>
              cases h0 : (a0 == 0) with
              | true =>
                go_wp2_with fail
                refine (ref07_try _ _ _ _ a1 a2 (HI.out.alloc _) HBG.out).mono ?_
                rintro e w4 ⟨v4, S5, rfl, k4, i4, s4⟩
                have hbk := (Blk.new wr [.int .i64 a0, .int .i64 a1, .int .i64 a2] 27).keep k4 (by simp)
                have hl4 := (HL.out.alloc (.cells #[.int .i64 a0, .int .i64 a1, .int .i64 a2] 27)).keep k4 (by simp)
                have k4' := ((Keeps.refl [] wr).alloc (.cells #[.int .i64 a0, .int .i64 a1, .int .i64 a2] 27)).then k4
                have d1 : w4.cell? ⟨wr.heap.size, 1, none⟩ = some (.int .i64 a1) := hbk.cell 1
                have d2 : w4.cell? ⟨wr.heap.size, 2, none⟩ = some (.int .i64 a2) := hbk.cell 2
                have HBK := Lib.hid hbk
                have HL4' := Lib.hid hl4
                have K4 := Lib.hid k4'
                have I4 := Lib.hid i4
                have S4' : Hid (∀ k ∈ S5, k ∈ T4 ∨ wr.heap.size ≤ k) := Lib.hid (fun k hk => by
                  rcases s4 k hk with h | h
                  · exact .inl h
                  · right; simp at h; omega)
                clear hbk hl4 k4 k4' i4 s4 c0 c1 c2
                go_wp2_with fail
                refine (latch_try _ _ _ _ a1 a2 HL4'.out).mono ?_
                rintro e w5 ⟨rfl, h5, k5⟩
                have HBK5 := Lib.hid (HBK.out.keep k5 (fun hm => by have := HL.out.lt _ hm; omega))
                have HBoth := Lib.hid (both_step HKe.out HL.out HS4.out HD4.out K4.out I4.out S4'.out h5 k5 (by rw [Lt.tryL_len]; exact HL4.out))
                clear h5 k5 d1 d2
                go_wp2_with fail
                go_meet
                exact ⟨HBoth.out, _, rfl, rfl, HBK5.out⟩
              | false =>
                cases h1 : (a0 == 1) with
                | true =>
                  go_wp2_with fail
                  refine (ref07_free _ _ _ _ a1 a2 (HI.out.alloc _) HBG.out).mono ?_
                  rintro e w4 ⟨v4, S5, rfl, k4, i4, s4⟩
                  have hbk := (Blk.new wr [.int .i64 a0, .int .i64 a1, .int .i64 a2] 27).keep k4 (by simp)
                  have hl4 := (HL.out.alloc (.cells #[.int .i64 a0, .int .i64 a1, .int .i64 a2] 27)).keep k4 (by simp)
                  have k4' := ((Keeps.refl [] wr).alloc (.cells #[.int .i64 a0, .int .i64 a1, .int .i64 a2] 27)).then k4
                  have d1 : w4.cell? ⟨wr.heap.size, 1, none⟩ = some (.int .i64 a1) := hbk.cell 1
                  have d2 : w4.cell? ⟨wr.heap.size, 2, none⟩ = some (.int .i64 a2) := hbk.cell 2
                  have HBK := Lib.hid hbk
                  have HL4' := Lib.hid hl4
                  have K4 := Lib.hid k4'
                  have I4 := Lib.hid i4
                  have S4' : Hid (∀ k ∈ S5, k ∈ T4 ∨ wr.heap.size ≤ k) := Lib.hid (fun k hk => by
                    rcases s4 k hk with h | h
                    · exact .inl h
                    · right; simp at h; omega)
                  clear hbk hl4 k4 k4' i4 s4 c0 c1 c2
                  go_wp2_with fail
                  refine (latch_free _ _ _ _ a1 a2 HL4'.out).mono ?_
                  rintro e w5 ⟨rfl, h5, k5⟩
                  have HBK5 := Lib.hid (HBK.out.keep k5 (fun hm => by have := HL.out.lt _ hm; omega))
                  have HBoth := Lib.hid (both_step HKe.out HL.out HS4.out HD4.out K4.out I4.out S4'.out h5 k5 (by rw [Lt.freeL_len]; exact HL4.out))
                  clear h5 k5 d1 d2
                  go_wp2_with fail
                  go_meet
                  exact ⟨HBoth.out, _, rfl, rfl, HBK5.out⟩
                | false =>
                  have hbk := Blk.new wr [.int .i64 a0, .int .i64 a1, .int .i64 a2] 27
                  have HBK := Lib.hid hbk
                  clear hbk
                  cases h2 : (a0 == 2) with
                  | true =>
                    cases h3 : decide ((l.length : Int) < 4096) with
                    | true =>
                      have HLT : Hid (l.length < 4096) := Lib.hid (by simp at h3; omega)
                      go_wp2_with (at_builtin; go_must (refine wp_apps elemInt (IR.lit _ 3 (wr.heap.size + 1) (by simp)) ((HI.out.alloc _).alloc _) (by have := HLT.out; simp; omega) ?_))
                      intro ao5 cap5 w5 S5 r5 k5 s5
                      have R5 := Lib.hid r5
                      have K5 := Lib.hid k5
                      have S5' := Lib.hid s5
                      clear r5 k5 s5
                      go_wp2_with (at_builtin; go_must (refine wp_appn elemInt R5.out (by have := HLT.out; simp; omega) ?_))
                      intro ao6 cap6 w6 S6 r6 k6 s6
                      have R6 := Lib.hid r6
                      have K6 := Lib.hid k6
                      have S6' := Lib.hid s6
                      clear r6 k6 s6
                      have hk46 : Keeps [] wr w6 := (((Keeps.refl [] wr).alloc (.cells #[.int .i64 a0, .int .i64 a1, .int .i64 a2] 27)).alloc (.cells #[] 3)).trans (K5.out.trans K6.out (fun x hx => by
                          rcases S5'.out x hx with h | h
                          · left; simp [h]
                          · right; simp; omega)) (fun x hx => by right; simp at hx; omega)
                      have hS6 : ∀ x ∈ S6, x ∈ T4 ∨ wr.heap.size ≤ x := fun x hx => by
                        right
                        rcases S6'.out x hx with h | h
                        · rcases S5'.out x h with h | h <;> omega
                        · have := K5.out.size; simp at this; omega
                      have HK46 := Lib.hid hk46
                      have HS6 := Lib.hid hS6
                      clear hk46 hS6
                      go_wp2_with fail
                      refine (latch_add _ _ _ _ (HL.out.keep HK46.out (by simp))).mono ?_
                      rintro e w7 ⟨rfl, k7, S7, h7, s7⟩
                      have e1 : Lt.addN l = l.length := by simp only [Lt.addN]; rw [if_pos HLT.out]
                      have e2 : Lt.addL l = l ++ [-1] := by simp only [Lt.addL]; rw [if_pos HLT.out]
                      rw [e2] at h7
                      rw [e1]
                      have hd7 : ∀ x ∈ S4, x ∉ S6 := fun x hx ht => by
                        rcases HS6.out x ht with h | h
                        · exact HD4.out x hx h
                        · have := HL.out.lt x hx; omega
                      have HBoth : Hid (Both b w (.slice ao6 (l.length + 1) cap6) w7) := Lib.hid (by
                        refine ⟨l ++ [-1], S7, S6, ao6, cap6, by simp, (HKe.out.trans HK46.out (by simp)).trans k7 (fun x hx => .inr (HS4.out x hx)), h7, by simpa using R6.out.iv.keep k7 (fun x hx hs => hd7 x hs hx), fun x hx => ?_, by have := HLT.out; simp; omega, fun x hx ht => ?_⟩
                        · rcases s7 x hx with h | h
                          · exact HS4.out x h
                          · have := HKe.out.size; have := HK46.out.size; omega
                        · rcases s7 x hx with h | h
                          · exact hd7 x h ht
                          · have := R6.out.lt x ht; omega)
                      have HBK7 := Lib.hid ((HBK.out.keep (S := []) (w' := w6) (((Keeps.refl [] (wr.alloc (.cells #[.int .i64 a0, .int .i64 a1, .int .i64 a2] 27))).alloc (.cells #[] 3)).trans (K5.out.trans K6.out (fun x hx => by
                          rcases S5'.out x hx with h | h
                          · left; simp [h]
                          · right; simp; omega)) (fun x hx => by right; simp at hx; simp; omega)) (by simp)).keep k7 (fun hm => by have := HL.out.lt _ hm; omega))
                      clear k7 h7 s7 e1 e2 hd7
                      go_wp2_with fail
                      go_meet
                      exact ⟨HBoth.out, true, rfl, rfl, HBK7.out⟩
                    | false =>
                      have HLT : Hid (¬ l.length < 4096) := Lib.hid (by simp at h3; omega)
                      go_wp2_with fail
                      refine (latch_add _ _ _ _ (HL.out.alloc _)).mono ?_
                      rintro e w7 ⟨rfl, k7, S7, h7, s7⟩
                      have e1 : Lt.addN l = -1 := by simp only [Lt.addN]; rw [if_neg HLT.out]
                      have e2 : Lt.addL l = l := by simp only [Lt.addL]; rw [if_neg HLT.out]
                      rw [e2] at h7
                      rw [e1]
                      have HBoth : Hid (Both b w (.slice ao4 l.length cap4) w7) := Lib.hid (by
                        refine ⟨l, S7, T4, ao4, cap4, rfl, (HKe.out.alloc (.cells #[.int .i64 a0, .int .i64 a1, .int .i64 a2] 27)).trans k7 (fun x hx => .inr (HS4.out x hx)), h7, (HI.out.alloc _).keep k7 (fun x hx hs => HD4.out x hs hx), fun x hx => ?_, HL4.out, fun x hx ht => ?_⟩
                        · rcases s7 x hx with h | h
                          · exact HS4.out x h
                          · have := HKe.out.size; simp at h; omega
                        · rcases s7 x hx with h | h
                          · exact HD4.out x h ht
                          · have := HI.out.lt x ht; simp at h; omega)
                      have HBK7 := Lib.hid (HBK.out.keep k7 (fun hm => by have := HL.out.lt _ hm; omega))
                      clear k7 h7 s7 e1 e2
                      go_wp2_with fail
                      go_meet
                      exact ⟨HBoth.out, true, rfl, rfl, HBK7.out⟩
                  | false =>
                    go_wp2_with fail
                    go_meet
                    exact ⟨⟨l, S4, T4, ao4, cap4, rfl, HKe.out.alloc _, HL.out.alloc _, HI.out.alloc _, HS4.out, HL4.out, HD4.out⟩, true, rfl, rfl, HBK.out⟩
            case rest =>
              obtain ⟨⟨l5, S5, T5, ao5, cap5, rfl, hke5, hlat5, hiv5, hS5, hl5, hd5⟩, ok, rfl, rfl, hbk5⟩ := hcut
              clear c0 c1 c2
              have d1 : wc.drew.cell? ⟨wr.heap.size, 1, none⟩ = some (.int .i64 a1) := hbk5.cell 1
              have d2 : wc.drew.cell? ⟨wr.heap.size, 2, none⟩ = some (.int .i64 a2) := hbk5.cell 2
              have HLd := Lib.hid (hlat5.keep ((Keeps.refl [] wc).drew) (by simp))
              have HId := Lib.hid (hiv5.then ((Keeps.refl [] wc).drew))
              have HKd := Lib.hid hke5.drew
              have HS5 := Lib.hid hS5
              have HL5 := Lib.hid hl5
              have HD5 := Lib.hid hd5
              have HBG5 : Hid (l5.length * 8 ≤ 140737488355328) := Lib.hid (by omega)
              have hls5 : l5.length ≤ 17592186044416 := by omega
              clear hbk5 hlat5 hiv5 hke5 hS5 hl5 hd5
              go_wp2_with fail
              go_region_held3 (fun w' => w'.cell? ⟨wr.heap.size, 1, none⟩ = some (.int .i64 a1) ∧ w'.cell? ⟨wr.heap.size, 2, none⟩ = some (.int .i64 a2)) (first | exact ⟨d1, d2⟩ | exact ⟨e1, e2⟩ | exact ⟨e3, e4⟩ | exact ⟨e5, e6⟩)
                (first
                  | (go_at_call 29; refine (latch_len _ _ _ _ HLd.out).mono ?_; rintro e w' ⟨rfl, rfl⟩)
                  | (go_at_call 12; refine (latch_owner _ _ _ _ _ HLd.out).mono ?_; rintro e w' ⟨rfl, rfl⟩)
                  | (go_at_call 30; refine (ref07_owner _ _ _ _ _ HId.out).mono ?_; rintro e w' ⟨rfl, rfl⟩)
                  | (go_at_call 15; refine (latch_held _ _ _ _ _ HLd.out HBG5.out).mono ?_; rintro e w5 ⟨v5, T6, rfl, k5, i5, s5⟩; have e1 := k5.cell d1 (by simp); have e2 := k5.cell d2 (by simp); have HV5 := Lib.hid i5; have HK5 := Lib.hid k5; clear k5 i5 s5)
                  | (go_at_call 32; refine (ref07_held _ _ _ _ _ (HId.out.then HK5.out) HBG5.out).mono ?_; rintro e w6 ⟨v6, T7, rfl, k6, i6, s6⟩; have e3 := k6.cell e1 (by simp); have e4 := k6.cell e2 (by simp); have HV6 := Lib.hid i6; have HK6 := Lib.hid k6; clear k6 i6 s6)
                  | (go_at_call 31; refine (same02 _ _ _ _ _ _ _ (IV.then HV5.out HK6.out) HV6.out).mono ?_; rintro e w7 ⟨rfl, m7, rfl⟩; have e5 : (w6.drewN m7).cell? ⟨wr.heap.size, 1, none⟩ = some (.int .i64 a1) := e3; have e6 : (w6.drewN m7).cell? ⟨wr.heap.size, 2, none⟩ = some (.int .i64 a2) := e4))
              go_wp2_with fail
              go_roundw
              case rel => exact ⟨k + 1, by omega, by go_num, l5, S5, T5, ao5, cap5, rfl, ((HKd.out.then HK5.out).then HK6.out).drewN _, ((HLd.out.keep HK5.out (by simp)).keep HK6.out (by simp)).drewN _, ((HId.out.then HK5.out).then HK6.out).drewN _, HS5.out, HL5.out, HD5.out⟩
              case measure => simp [intOf]; omega
          · have HBo := Lib.hid hboth
            obtain ⟨l, S4, T4, ao4, cap4, rfl, hke, hlat, hiv, hS4, hl4, hd4⟩ := hboth
            have HKe := Lib.hid hke
            have HL := Lib.hid hlat
            have HI := Lib.hid hiv
            clear hke hlat hiv hS4 hl4 hd4
            go_wp2_with fail
            refine (latch_len _ _ _ _ HL.out).mono ?_
            rintro e w4 ⟨rfl, rfl⟩
            go_wp2_with fail
            go_ret
            exact ⟨ret_bool (by simp), HKe.out⟩
end Go.Proofs.Ytgpcmifbkbgbjaa
