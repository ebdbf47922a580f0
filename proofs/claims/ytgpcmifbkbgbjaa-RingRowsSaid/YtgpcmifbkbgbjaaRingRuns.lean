/-
  The law RingRuns: its walk.
  Conditions: none.
-/
import Derived.Test.YtgpcmifbkbgbjaaRingNew
namespace Go.Proofs.Ytgpcmifbkbgbjaa
open Go.RowKit
set_option linter.unusedVariables false
set_option linter.unusedSimpArgs false
set_option linter.unnecessarySimpa false

/-- what holds of the two, the ring and the document's row, between two acts -/
def RBoth (b N : Nat) (w : World) (v : Value) (w' : World) : Prop :=
  ∃ l S T ao cap, v = .slice ao l.length cap ∧ Keeps [] w w' ∧ Rg w' (.pointer (some ⟨b, 0, none⟩)) N l S ∧ IV w' (.slice ao l.length cap) l T ∧ (∀ x ∈ S, w.heap.size ≤ x) ∧ (∀ x ∈ S, x ∉ T)
def RMid (b N : Nat) (w : World) (v10 v13 v14 v15 v16 : Value) (w' : World) : Prop :=
  RBoth b N w v10 w' ∧ ∃ (x : Int) (ok : Bool), v13 = .int .i64 x ∧ v15 = .int .i64 x ∧ v14 = .bool ok ∧ v16 = .bool ok

theorem rboth_step {b N : Nat} {w w1 w2 w3 : World} {v' : Value} {l l' : List Int} {S T T' : List Nat} (hk : Keeps [] w w1)
    (hl : Rg w1 (.pointer (some ⟨b, 0, none⟩)) N l S) (hS : ∀ x ∈ S, w.heap.size ≤ x) (hd : ∀ x ∈ S, x ∉ T)
    (k2 : Keeps [] w1 w2) (hv : IV w2 v' l' T') (hT : ∀ k ∈ T', k ∈ T ∨ w1.heap.size ≤ k)
    (hl3 : Rg w3 (.pointer (some ⟨b, 0, none⟩)) N l' S) (k3 : Keeps S w2 w3) : RBoth b N w v' w3 := by
  have hdd : ∀ x ∈ S, x ∉ T' := fun x hx ht => by
    rcases hT x ht with h | h
    · exact hd x hx h
    · have := hl.lt x hx; omega
  obtain ⟨ao', cap', rfl⟩ := hv.shape
  exact ⟨l', S, T', ao', cap', rfl, hk.trans ((k2.mono (T := S) (by simp)).trans k3 (fun x h => .inl h)) (fun x h => .inr (hS x h)), hl3, hv.keep k3 (fun x hx hs => hdd x hs hx), hS, hdd⟩

set_option maxRecDepth 100000 in
set_option maxHeartbeats 3200000 in
theorem ringRuns_walk (w : World) (room : Int) (wn : (Lit.int .u8 room).wf = true) (v1 : Value) (n1 : Nat) (xs1 : List Value) (S1 : List Nat) (hv1 : View w v1 1 n1 xs1 S1) (hx1 : ∀ k, k < n1 → ∀ (f : Nat) (q : Option IntKind), ([some .i64] : List (Option IntKind))[f]? = some q → ckOk q (xs1.getD (k * 1 + f) undef))
    (v : Value) (n : Nat) (xs : List Value) (S : List Nat) (hv : View w v 2 n xs S) (hx : ∀ k, k < n → ∀ (f : Nat) (q : Option IntKind), ([some .i64, some .i64] : List (Option IntKind))[f]? = some q → ckOk q (xs.getD (k * 2 + f) undef)) :
    Calls Try.prog 6 #[.int .u8 room, v1, v] w fun e w' => e = .returned (.bool true) ∧ Keeps [] w w' := by
  obtain ⟨l0, rfl, hi⟩ := IV.of_flat hv1 hx1
  have hrm := wf8 wn
  clear hv1 hx1 wn
  have hm1 := hi.le
  have hm := hv.le
  unfold maxLen at hm hm1
  obtain ⟨ao1, cap1, rfl⟩ := hi.shape
  obtain ⟨ao, cap, rfl⟩ := hv.shape
  have HI := Lib.hid hi
  have HX := Lib.hid hx
  have HV := Lib.hid hv
  clear hx hv hi
  obtain ⟨N, hN⟩ : ∃ N : Nat, room % 65 = (N : Int) := ⟨(room % 65).toNat, by omega⟩
  have hN64 : N ≤ 64 := by omega
  obtain ⟨hr0, hr1⟩ := hrm
  cases hq1 : decide (300 < (n : Int)) with
  | true =>
    go_enter Try.func6, Try.ntmps6
    go_wp2_with fail
    refine (ring_alive _).mono ?_
    rintro e w1 ⟨rfl, k1⟩
    have HK := Lib.hid k1
    clear k1
    go_wp2_with fail
    go_ret
    exact ⟨rfl, HK.out⟩
  | false =>
    cases hq2 : decide (N < l0.length) with
    | true =>
      go_enter Try.func6, Try.ntmps6
      go_wp2_with fail
      refine (ring_alive _).mono ?_
      rintro e w1 ⟨rfl, k1⟩
      have HK := Lib.hid k1
      clear k1
      go_wp2_with fail
      go_ret
      exact ⟨rfl, HK.out⟩
    | false =>
      have HLN : Hid (l0.length ≤ N) := Lib.hid (by simp at hq2; omega)
      go_enter Try.func6, Try.ntmps6
      go_wp2_with fail
      refine (ring_alive _).mono ?_
      rintro e w1 ⟨rfl, k1⟩
      have HK := Lib.hid k1
      clear k1
      go_wp2_with fail
      refine (ring_of _ _ _ l0 _ (HI.out.then HK.out)).mono ?_
      intro e w2 h2
      obtain ⟨p, S2, rfl, k2, r2, s2⟩ := h2.yes ⟨by omega, by omega, by have := HLN.out; omega⟩
      obtain ⟨b, rfl⟩ := r2.shape
      rw [Int.toNat_natCast] at r2
      have HK2 := Lib.hid (HK.out.then k2)
      have R2 := Lib.hid r2
      have S2' : Hid (∀ k ∈ S2, w.heap.size ≤ k) := Lib.hid (fun k hk => by have := s2 k hk; have := HK.out.size; omega)
      have hl17 : l0.length ≤ 64 := by have := HLN.out; omega
      clear k2 r2 s2 h2
      go_wp2_with (at_builtin; go_must (refine wp_apps elemInt64 (IR.lit0 w2 2) ((HI.out.then HK2.out).alloc _) (by simp; omega) ?_))
      intro ao3 cap3 w3 S3 r3 k3 s3
      have HB : Hid (RBoth b N w (.slice ao3 l0.length cap3) w3) := Lib.hid (by
        have hk23 : Keeps [] w2 w3 := ((Keeps.refl [] w2).alloc (.cells #[] 2)).trans k3 (fun x hx => by simp at hx; omega)
        refine ⟨l0, S2, S3, ao3, cap3, rfl, HK2.out.then hk23, R2.out.then hk23, by simpa using r3.iv, S2'.out, fun x hx hx3 => ?_⟩
        have := R2.out.lt x hx
        rcases s3 x hx3 with h | h <;> omega)
      clear r3 k3 s3 R2 S2' hr0 hr1
      go_wp2_with fail
      go_loopw [10, 48] (fun v10 i wr => ∃ k : Nat, k ≤ n ∧ i = .int .i64 k ∧ RBoth b N w v10 wr) (fun _ i _ => n - (intOf i).toNat)
      case atStart => exact ⟨0, Nat.zero_le _, rfl, HB.out⟩
      case round =>
        obtain ⟨k, hk, rfl, hboth⟩ := hrel
        by_cases hlt : k < n
        · obtain ⟨l, S4, T4, ao4, cap4, rfl, hke, hlat, hiv, hS4, hd4⟩ := hboth
          obtain ⟨g, off, rfl, rfl, hg, hc⟩ := HV.out.cell (by omega)
          have hlen := HV.out.len
          have c0 := View.at0 hlen hc hg hke (by simp) hlt (by decide)
          have c1 := View.at hlen hc hg hke (by simp) hlt (f := 1) (by decide)
          rw [show xs.getD (k * 2) undef = .int .i64 (num (xs.getD (k * 2) undef)) from (ck_int (HX.out k hlt 0 _ rfl)).1] at c0
          rw [(ck_int (HX.out k hlt 1 _ rfl)).1] at c1
          generalize num (xs.getD (k * 2) undef) = a0 at *
          generalize num (xs.getD (k * 2 + 1) undef) = a1 at *
          have HKe := Lib.hid hke
          have HL := Lib.hid hlat
          have HIv := Lib.hid hiv
          have HS4 := Lib.hid hS4
          have HD4 := Lib.hid hd4
          have hl64 : l.length ≤ N := hlat.le.1
          clear hc hlen hke hlat hiv hS4 hd4
          go_upto_block 2 with fail
          go_cut [10, 13, 14, 15, 16] (RMid b N w)
          case first =>
            cases h0 : (a0 == 0) with
            | true =>
              go_wp2_with fail
              refine (ref04_put _ _ l _ N a1 (HIv.out.alloc _) (by omega)).mono ?_
              rintro e w4 ⟨v4, S5, rfl, k4, i4, s4⟩
              have hbk := (Blk.new wr [.int .i64 a0, .int .i64 a1] 51).keep k4 (by simp)
              have d1 : w4.cell? ⟨wr.heap.size, 1, none⟩ = some (.int .i64 a1) := hbk.cell 1
              have HL4' := Lib.hid ((HL.out.alloc (.cells #[.int .i64 a0, .int .i64 a1] 51)).keep k4 (by simp))
              have K4 := Lib.hid (((Keeps.refl [] wr).alloc (.cells #[.int .i64 a0, .int .i64 a1] 51)).then k4)
              have I4 := Lib.hid i4
              have S4' : Hid (∀ k ∈ S5, k ∈ T4 ∨ wr.heap.size ≤ k) := Lib.hid (fun k hk => by
                rcases s4 k hk with h | h
                · exact .inl h
                · right; simp at h; omega)
              clear hbk k4 i4 s4 c0 c1
              go_wp2_with fail
              refine (ring_put _ _ _ _ _ a1 HL4'.out).mono ?_
              rintro e w5 ⟨rfl, k5, h5⟩
              have HBoth := Lib.hid (rboth_step HKe.out HL.out HS4.out HD4.out K4.out I4.out S4'.out h5 k5)
              clear h5 k5 d1
              go_wp2_with fail
              go_meet
              exact ⟨HBoth.out, 0, _, rfl, rfl, rfl, rfl⟩
            | false =>
              cases h1 : (a0 == 1) with
              | true =>
                go_wp2_with fail
                refine (ref04_get _ _ l _ (HIv.out.alloc _) (by omega)).mono ?_
                rintro e w4 ⟨v4, S5, rfl, k4, i4, s4⟩
                have hbk := (Blk.new wr [.int .i64 a0, .int .i64 a1] 51).keep k4 (by simp)
                have d1 : w4.cell? ⟨wr.heap.size, 1, none⟩ = some (.int .i64 a1) := hbk.cell 1
                have HL4' := Lib.hid ((HL.out.alloc (.cells #[.int .i64 a0, .int .i64 a1] 51)).keep k4 (by simp))
                have K4 := Lib.hid (((Keeps.refl [] wr).alloc (.cells #[.int .i64 a0, .int .i64 a1] 51)).then k4)
                have I4 := Lib.hid i4
                have S4' : Hid (∀ k ∈ S5, k ∈ T4 ∨ wr.heap.size ≤ k) := Lib.hid (fun k hk => by
                  rcases s4 k hk with h | h
                  · exact .inl h
                  · right; simp at h; omega)
                clear hbk k4 i4 s4 c0 c1
                go_wp2_with fail
                refine (ring_get _ _ _ _ _ HL4'.out).mono ?_
                rintro e w5 ⟨rfl, k5, h5⟩
                have HBoth := Lib.hid (rboth_step HKe.out HL.out HS4.out HD4.out K4.out I4.out S4'.out h5 k5)
                clear h5 k5 d1
                go_wp2_with fail
                go_meet
                exact ⟨HBoth.out, _, _, rfl, rfl, rfl, rfl⟩
              | false =>
                cases h2 : (a0 == 2) with
                | true =>
                  go_wp2_with fail
                  refine (ref04_pass _ _ l _ N a1 (HIv.out.alloc _) (by omega) hl64).mono ?_
                  rintro e w4 ⟨v4, S5, rfl, k4, i4, s4⟩
                  have hbk := (Blk.new wr [.int .i64 a0, .int .i64 a1] 51).keep k4 (by simp)
                  have d1 : w4.cell? ⟨wr.heap.size, 1, none⟩ = some (.int .i64 a1) := hbk.cell 1
                  have HL4' := Lib.hid ((HL.out.alloc (.cells #[.int .i64 a0, .int .i64 a1] 51)).keep k4 (by simp))
                  have K4 := Lib.hid (((Keeps.refl [] wr).alloc (.cells #[.int .i64 a0, .int .i64 a1] 51)).then k4)
                  have I4 := Lib.hid i4
                  have S4' : Hid (∀ k ∈ S5, k ∈ T4 ∨ wr.heap.size ≤ k) := Lib.hid (fun k hk => by
                    rcases s4 k hk with h | h
                    · exact .inl h
                    · right; simp at h; omega)
                  clear hbk k4 i4 s4 c0 c1
                  go_wp2_with fail
                  refine (ring_pass _ _ _ _ _ a1 HL4'.out).mono ?_
                  rintro e w5 ⟨rfl, k5, h5⟩
                  have HBoth := Lib.hid (rboth_step HKe.out HL.out HS4.out HD4.out K4.out I4.out S4'.out h5 k5)
                  clear h5 k5 d1
                  go_wp2_with fail
                  go_meet
                  exact ⟨HBoth.out, _, _, rfl, rfl, rfl, rfl⟩
                | false =>
                  go_wp2_with fail
                  go_meet
                  exact ⟨⟨l, S4, T4, ao4, cap4, rfl, HKe.out.alloc _, HL.out.alloc _, HIv.out.alloc _, HS4.out, HD4.out⟩, 0, true, rfl, rfl, rfl, rfl⟩
          case rest =>
            obtain ⟨⟨l5, S5, T5, ao5, cap5, rfl, hke5, hlat5, hiv5, hS5, hd5⟩, x, ok, rfl, rfl, rfl, rfl⟩ := hcut
            have HK5 := Lib.hid hke5
            have HR5 := Lib.hid hlat5
            have HI5 := Lib.hid hiv5
            have HS5 := Lib.hid hS5
            have HD5 := Lib.hid hd5
            have hl5 : l5.length ≤ N := hlat5.le.1
            clear hke5 hlat5 hiv5 hS5 hd5 c0 c1
            go_wp2_with fail
            refine (ring_len _ _ _ _ _ HR5.out).mono ?_
            rintro e w6 ⟨rfl, rfl⟩
            go_wp2_with fail
            refine (ring_full _ _ _ _ _ HR5.out).mono ?_
            rintro e w6 ⟨rfl, m6, rfl⟩
            have eq0 : (!decide (l5.length = N) == ((l5.length : Int) == (N : Int))) = false := by
              by_cases h : l5.length = N <;> simp [h]; omega
            have HK6 := Lib.hid (HK5.out.drewN m6)
            have HR6 := Lib.hid (HR5.out.drewN m6)
            have HI6 := Lib.hid (HI5.out.drewN m6)
            clear HK5 HR5 HI5
            generalize wc.drewN m6 = w6 at *
            go_wp2_with fail
            refine (ring_all _ _ _ _ _ HR6.out).mono ?_
            rintro e w7 ⟨v7, S7, rfl, k7, i7, s7⟩
            have HK7 := Lib.hid (HK6.out.then k7)
            have HR7 := Lib.hid (HR6.out.then k7)
            have HI7 := Lib.hid (HI6.out.then k7)
            have I7 := Lib.hid i7
            clear k7 i7 s7 eq0
            go_wp2_with fail
            refine (same04 _ _ _ _ _ _ _ I7.out HI7.out).mono ?_
            rintro e w8 ⟨rfl, m8, rfl⟩
            rw [show decide (l5 = l5) = true by simp]
            go_wp2_with fail
            go_roundw
            case rel => exact ⟨k + 1, by omega, by go_num, l5, S5, T5, ao5, cap5, rfl, HK7.out.drewN _, HR7.out.drewN _, HI7.out.drewN _, HS5.out, HD5.out⟩
            case measure => simp [intOf]; omega
        · obtain ⟨l, S4, T4, ao4, cap4, rfl, hke, hlat, hiv, hS4, hd4⟩ := hboth
          have HKe := Lib.hid hke
          clear hke hlat hiv hS4 hd4
          go_wp2_with fail
          go_ret
          exact ⟨rfl, HKe.out⟩

end Go.Proofs.Ytgpcmifbkbgbjaa
