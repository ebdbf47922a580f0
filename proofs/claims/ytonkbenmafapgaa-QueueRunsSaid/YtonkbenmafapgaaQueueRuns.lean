/-
  The law QueueRuns: its walk.
  Conditions: none.
-/
import Derived.Test.YtonkbenmafapgaaRef06B
namespace Go.Proofs.Ytonkbenmafapgaa
open Go.RowKit
set_option linter.unusedVariables false
set_option linter.unusedSimpArgs false
set_option linter.unnecessarySimpa false

theorem Qu.push_len (n : Nat) (R : List (List Int)) (k x : Int) : (Qu.push n R k x).1.length = R.length := by unfold Qu.push; split <;> simp
theorem Qu.drop_len (R : List (List Int)) (x : Int) : (Qu.drop R x).1.length = R.length := by unfold Qu.drop; split <;> simp
theorem Qu.pop_len (R : List (List Int)) (k : Int) : (Qu.pop R k).length = R.length := by unfold Qu.pop; split; exact Qu.drop_len _ _; rfl

def QQ (w : World) (b bw n m : Nat) (wr : World) (R : List (List Int)) (S T : List Nat) (vr : Value) : Prop :=
  Qq wr (.pointer (some ⟨b, 0, none⟩)) n R S ∧ R.length = m ∧ Fresh w wr S ∧ QP wr vr R T ∧ (∀ x ∈ S, x ∉ T) ∧ Blk wr bw [.int .i64 n, vr] 60 ∧ bw ∉ S ∧ bw ∉ T ∧ w.heap.size ≤ bw
def QQe (w : World) (b bw n m : Nat) (wr : World) : Prop := ∃ R S T vr, QQ w b bw n m wr R S T vr
theorem QQ.then {w wr w2 : World} {b bw n m : Nat} {R : List (List Int)} {S T : List Nat} {vr : Value} (h : QQ w b bw n m wr R S T vr) (k : Keeps [] wr w2) : QQ w b bw n m w2 R S T vr := by
  obtain ⟨h1, h2, h3, h4, h5, h6, h7, h8, h9⟩ := h
  exact ⟨h1.then k, h2, h3.then k, h4.then k, h5, h6.keep k (by simp), h7, h8, h9⟩
/-- both have moved -/
theorem QQ.step {w wr w4 w6 : World} {b bw n m : Nat} {R R' : List (List Int)} {S T T' : List Nat} {vr vr' : Value} (h : QQ w b bw n m wr R S T vr) (k : Keeps [] wr w4) (hr : QP w4 vr' R' T') (hT : ∀ x ∈ T', x ∈ T ∨ wr.heap.size ≤ x)
    (k6 : Keeps S ((w4.setCell ⟨bw, 0, none⟩ (.int .i64 n)).setCell ⟨bw, 1, none⟩ vr') w6) (h6 : Qq w6 (.pointer (some ⟨b, 0, none⟩)) n R' S) (hm : R'.length = m) : QQ w b bw n m w6 R' S T' vr' := by
  obtain ⟨h1, h2, h3, h4, h5, h6', h7, h8, h9⟩ := h
  have hbT : bw ∉ T' := fun h => by
    rcases hT bw h with h | h
    · exact h8 h
    · have := h6'.lt; omega
  have hST : ∀ x ∈ S, x ∉ T' := fun x hx h => by
    rcases hT x h with h | h
    · exact h5 x hx h
    · have := h1.lt x hx; omega
  have kc := keeps2 w4 bw (.int .i64 n) vr'
  refine ⟨h6, hm, ⟨((h3.1.then k).trans kc (fun x hx => .inr (by simp at hx; omega))).trans k6 (fun x hx => .inr (h3.2 x hx)), h3.2⟩, (hr.keep kc (fun x hx h => by simp at h; subst h; exact hbT hx)).keep k6 (fun x hx hS => hST x hS hx), hST, ?_, h7, hbT, h9⟩
  have := ((h6'.keep k (by simp)).set 0 (.int .i64 n)).set 1 vr'
  exact (by simpa using this : Blk _ bw [.int .i64 n, vr'] _).keep k6 h7
theorem QQ.pre {w wr w4 : World} {b bw n m : Nat} {R : List (List Int)} {S T : List Nat} {vr vr' : Value} (h : QQ w b bw n m wr R S T vr) (k : Keeps [] wr w4) : Qq ((w4.setCell ⟨bw, 0, none⟩ (.int .i64 n)).setCell ⟨bw, 1, none⟩ vr') (.pointer (some ⟨b, 0, none⟩)) n R S := by
  obtain ⟨h1, h2, h3, h4, h5, h6', h7, h8, h9⟩ := h
  exact (h1.then k).keep (keeps2 w4 bw _ _) (fun x hx h => by simp at h; subst h; exact h7 hx)
theorem GV.madeq {w : World} {v : Value} {n : Nat} {T : List Nat} (h : Row w v 27 1 n (List.replicate n (.slice none 0 0)) T) : GV intsE 1 w v (List.replicate n []) T := by
  refine ⟨List.replicate n (.slice none 0 0), T, by simpa using h.view, fun k a hk => ?_, fun x hx => hx, h.lt, fun y hy => ?_⟩
  · obtain ⟨hk1, rfl⟩ := List.getElem?_eq_some_iff.1 hk
    have hk2 : k < n := by simpa using hk1
    refine ⟨[], ⟨.slice none 0 0, ?_, ?_⟩, by simp⟩
    · apply List.ext_getElem?
      intro j
      by_cases hj : j < 1
      · have : j = 0 := by omega
        subst this
        rw [chunk_get (by omega)]
        simp [hk2]
      · rw [List.getElem?_eq_none (by unfold chunk; rw [List.length_take]; omega), List.getElem?_eq_none (by simp; omega)]
    · simp; exact IV.nil w
  · rw [(List.mem_replicate.1 hy).2]; rfl
def QMid (w : World) (b bw n m : Nat) (ba : Nat) (act : List Value) (v14 v15 v16 v17 : Value) (w' : World) : Prop :=
  QQe w b bw n m w' ∧ Blk w' ba act 62 ∧ ∃ (y : Int) (ok : Bool), v14 = .int .i64 y ∧ v16 = .int .i64 y ∧ v15 = .bool ok ∧ v17 = .bool ok

set_option maxRecDepth 100000 in
set_option maxHeartbeats 6400000 in
theorem queueRuns_walk (w : World) (a0 : Int) (w0 : (Lit.int .u8 a0).wf = true) (a1 : Int) (w1 : (Lit.int .u8 a1).wf = true)
    (v : Value) (c : Nat) (xs : List Value) (S : List Nat) (hv : View w v 3 c xs S) (hx : ∀ k, k < c → ∀ (f : Nat) (q : Option IntKind), ([some .i64, some .i64, some .i64] : List (Option IntKind))[f]? = some q → ckOk q (xs.getD (k * 3 + f) undef)) :
    Calls Try.prog 7 #[.int .u8 a0, .int .u8 a1, v] w fun e w' => e = .returned (.bool true) ∧ Keeps [] w w' := by
  obtain ⟨p0, q0⟩ := wf8 w0
  obtain ⟨p1, q1⟩ := wf8 w1
  clear w0 w1
  obtain ⟨n, hn⟩ : ∃ N : Nat, a0 % 65 = (N : Int) := ⟨(a0 % 65).toNat, by omega⟩
  obtain ⟨m, hm⟩ : ∃ N : Nat, a1 % 20 = (N : Int) := ⟨(a1 % 20).toNat, by omega⟩
  have hn64 : n ≤ 64 := by omega
  have hm20 : m ≤ 20 := by omega
  have hmv := hv.le
  unfold maxLen at hmv
  obtain ⟨ao, cap, rfl⟩ := hv.shape
  have HX := Lib.hid hx
  have HV := Lib.hid hv
  clear hx hv
  cases hq1 : decide (200 < (c : Int)) with
  | true =>
    go_enter Try.func7, Try.ntmps7
    go_wp2_with fail
    refine (queue_alive _).mono ?_
    rintro e w1 ⟨rfl, k1⟩
    have K1 := Lib.hid k1
    clear k1
    go_wp2_with fail
    refine (queue_new _ n m hn64 (by omega)).mono ?_
    rintro e w2 ⟨p, S, rfl, f2, h2⟩
    have F2 := Lib.hid f2
    clear f2 h2
    go_wp2_with fail
    go_ret
    exact ⟨rfl, K1.out.then F2.out.1⟩
  | false =>
    have hc200 : c ≤ 200 := by simp at hq1; omega
    go_enter Try.func7, Try.ntmps7
    go_wp2_with fail
    refine (queue_alive _).mono ?_
    rintro e w1 ⟨rfl, k1⟩
    have K1 := Lib.hid k1
    clear k1
    go_wp2_with fail
    refine (queue_new _ n m hn64 (by omega)).mono ?_
    rintro e w2 ⟨p, S2, rfl, f2, h2⟩
    obtain ⟨b, rfl⟩ := h2.shape
    have F2 := Lib.hid f2
    have H2 := Lib.hid h2
    clear f2 h2
    go_wp2_with (at_make; go_must (refine wp_make elemIntsQ m (by omega) ?_ (hL := rfl) (hC := rfl)); intro w3 r3 k3; simp only [Nat.mul_one, Value.cells, toList_madeCells_one] at r3; have R3 := Lib.hid r3; have K3 := Lib.hid k3; clear r3 k3)
    have HB : Hid (QQe w b w3.heap.size n m (w3.alloc (.cells #[.int .i64 n, .slice (some ⟨w2.heap.size, 0, none⟩) m m] 60))) := Lib.hid (by
      have kk : Keeps [] w3 (w3.alloc (.cells #[.int .i64 n, .slice (some ⟨w2.heap.size, 0, none⟩) m m] 60)) := (Keeps.refl [] w3).alloc _
      have hlt := H2.out.lt
      have hs1 := K1.out.size
      have hs2 := F2.out.1.size
      have hg := R3.out.lt
      have hs3 := K3.out.size
      have hg3 : w2.heap.size < w3.heap.size := hg _ (by simp)
      refine ⟨List.replicate m [], S2, [w2.heap.size], _, (H2.out.then K3.out).then kk, by simp, ⟨((K1.out.then F2.out.1).then K3.out).then kk, fun k hk => by have := F2.out.2 k hk; omega⟩, QP.then (GV.madeq R3.out) kk, ?_, blk_new w3 _ _ _ rfl, ?_, ?_, by omega⟩
      · intro x hx h; have := hlt x hx; simp at h; omega
      · intro h; have := hlt _ h; omega
      · intro h; simp at h; omega)
    clear H2 F2 K1 R3 K3
    generalize w3.heap.size = bw at *
    go_loopw [62] (fun i wr => ∃ k : Nat, k ≤ c ∧ i = .int .i64 k ∧ QQe w b bw n m wr) (fun i _ => c - (intOf i).toNat)
    case atStart => exact ⟨0, Nat.zero_le _, rfl, HB.out⟩
    case round =>
      obtain ⟨k, hk, rfl, R, S5, T5, vr, hpor⟩ := hrel
      have HP := Lib.hid hpor
      obtain ⟨h1, h2, h3, h4, h5, h6, h7, h8, h9⟩ := hpor
      obtain ⟨wo, rfl⟩ : ∃ wo : World, wo = wr := ⟨_, rfl⟩
      by_cases hlt : k < c
      · obtain ⟨gv, off, rfl, rfl, hgv, hc⟩ := HV.out.cell (by omega)
        have hlen := HV.out.len
        have c0 := View.at0 hlen hc hgv h3.1 (by simp) hlt (by decide)
        have c1 := View.at hlen hc hgv h3.1 (by simp) hlt (f := 1) (by decide)
        have c2 := View.at hlen hc hgv h3.1 (by simp) hlt (f := 2) (by decide)
        rw [show xs.getD (k * 3) undef = .int .i64 (num (xs.getD (k * 3) undef)) from (ck_int (HX.out k hlt 0 _ rfl)).1] at c0
        rw [(ck_int (HX.out k hlt 1 _ rfl)).1] at c1
        rw [(ck_int (HX.out k hlt 2 _ rfl)).1] at c2
        generalize num (xs.getD (k * 3) undef) = x0 at *
        generalize num (xs.getD (k * 3 + 1) undef) = x1 at *
        generalize num (xs.getD (k * 3 + 2) undef) = x2 at *
        obtain ⟨ar, cr, rfl⟩ := GV.shape h4
        have HI := Lib.hid h1.inv
        have hRm : Hid (R.length = m) := Lib.hid h2
        clear hc hlen h1 h2 h3 h4 h5 h6 h7 h8 h9 HB
        go_upto_block 2 with fail
        go_cut [14, 15, 16, 17] (QMid w b bw n m wo.heap.size [.int .i64 x0, .int .i64 x1, .int .i64 x2])
        case first =>
          have hp4 := HP.out.then ((Keeps.refl [] wo).alloc (.cells #[.int .i64 x0, .int .i64 x1, .int .i64 x2] 62))
          have HB4 := Lib.hid (blk_new wo [.int .i64 x0, .int .i64 x1, .int .i64 x2] 62 _ rfl)
          have hS4 : wo.heap.size ∉ S5 := fun h => by have := HP.out.1.lt _ h; omega
          have hbw : bw ≠ wo.heap.size := by have := HP.out.2.2.2.2.2.1.lt; omega
          have hbw2 : wo.heap.size ≠ bw := fun h => hbw h.symm
          have HP4 := Lib.hid hp4
          obtain ⟨⟨b0, b1⟩, f0, f1⟩ := hp4.2.2.2.2.2.1.cells2
          clear hp4 HP c0 c1 c2
          cases h0 : (x0 == 0) with
          | true =>
            go_wp2_with fail
            refine (ref06_push _ n _ R T5 x1 x2 HP4.out.2.2.2.1 HI.out).mono ?_
            rintro e w4 ⟨vr4, T4, rfl, k4, r4, t4⟩
            obtain ⟨ar4, cr4, rfl⟩ := GV.shape r4
            obtain ⟨⟨p0, p1⟩, q0, q1⟩ := (HP4.out.2.2.2.2.2.1.keep k4 (by simp)).cells2
            have hbk := HB4.out.keep k4 (by simp)
            have d1 := hbk.cell 1
            have d2 := hbk.cell 2
            simp only [List.getElem?_cons_succ, List.getElem?_cons_zero] at d1 d2
            have HBK := Lib.hid hbk
            have HPre := Lib.hid (HP4.out.pre (vr' := .slice ar4 (Qu.push n R x1 x2).1.length cr4) k4)
            have K4 := Lib.hid k4
            have R4 := Lib.hid r4
            have T4h := Lib.hid t4
            clear k4 r4 t4 hbk b0 b1 f0 f1
            go_wp2_with fail
            refine (queue_push _ _ n R S5 x1 x2 HPre.out).mono ?_
            rintro e w6 ⟨rfl, k6, h6⟩
            have HD : Hid (QQe w b bw n m w6) := Lib.hid ⟨_, S5, T4, _, HP4.out.step K4.out R4.out T4h.out k6 h6 (by rw [Qu.push_len]; exact hRm.out)⟩
            have HBA : Hid (Blk w6 wo.heap.size [.int .i64 x0, .int .i64 x1, .int .i64 x2] 62) := Lib.hid ((HBK.out.keep (keeps2 _ bw _ _) (by simpa using hbw2)).keep k6 hS4)
            clear h6 k6 d1 d2 p0 p1 q0 q1 R4
            generalize (Qu.push n R x1 x2).2 = ok at *
            go_wp2_with fail
            go_meet
            exact ⟨HD.out, HBA.out, 0, ok, rfl, rfl, rfl, rfl⟩
          | false =>
            cases h1 : (x0 == 1) with
            | true =>
              go_wp2_with fail
              refine (ref06_pop _ n n _ R T5 x1 HP4.out.2.2.2.1 HI.out).mono ?_
              rintro e w4 ⟨vr4, T4, rfl, k4, r4, t4⟩
              obtain ⟨ar4, cr4, rfl⟩ := GV.shape r4
              obtain ⟨⟨p0, p1⟩, q0, q1⟩ := (HP4.out.2.2.2.2.2.1.keep k4 (by simp)).cells2
              have hbk := HB4.out.keep k4 (by simp)
              have d1 := hbk.cell 1
              simp only [List.getElem?_cons_succ, List.getElem?_cons_zero] at d1
              have HBK := Lib.hid hbk
              have HPre := Lib.hid (HP4.out.pre (vr' := .slice ar4 (Qu.pop R x1).length cr4) k4)
              have K4 := Lib.hid k4
              have R4 := Lib.hid r4
              have T4h := Lib.hid t4
              clear k4 r4 t4 hbk b0 b1 f0 f1
              go_wp2_with fail
              refine (queue_pop _ _ n R S5 x1 HPre.out).mono ?_
              rintro e w6 ⟨rfl, k6, h6⟩
              have HD : Hid (QQe w b bw n m w6) := Lib.hid ⟨_, S5, T4, _, HP4.out.step K4.out R4.out T4h.out k6 h6 (by rw [Qu.pop_len]; exact hRm.out)⟩
              have HBA : Hid (Blk w6 wo.heap.size [.int .i64 x0, .int .i64 x1, .int .i64 x2] 62) := Lib.hid ((HBK.out.keep (keeps2 _ bw _ _) (by simpa using hbw2)).keep k6 hS4)
              clear h6 k6 d1 p0 p1 q0 q1 R4
              generalize (Qu.first R x1).1 = y at *
              generalize (Qu.first R x1).2 = ok at *
              go_wp2_with fail
              go_meet
              exact ⟨HD.out, HBA.out, y, ok, rfl, rfl, rfl, rfl⟩
            | false =>
              cases h2 : (x0 == 2) with
              | true =>
                go_wp2_with fail
                refine (ref06_drop _ n n _ R T5 x2 HP4.out.2.2.2.1 HI.out).mono ?_
                rintro e w4 ⟨vr4, T4, rfl, k4, r4, t4⟩
                obtain ⟨ar4, cr4, rfl⟩ := GV.shape r4
                obtain ⟨⟨p0, p1⟩, q0, q1⟩ := (HP4.out.2.2.2.2.2.1.keep k4 (by simp)).cells2
                have hbk := HB4.out.keep k4 (by simp)
                have d2 := hbk.cell 2
                simp only [List.getElem?_cons_succ, List.getElem?_cons_zero] at d2
                have HBK := Lib.hid hbk
                have HPre := Lib.hid (HP4.out.pre (vr' := .slice ar4 (Qu.drop R x2).1.length cr4) k4)
                have K4 := Lib.hid k4
                have R4 := Lib.hid r4
                have T4h := Lib.hid t4
                clear k4 r4 t4 hbk b0 b1 f0 f1
                go_wp2_with fail
                refine (queue_drop _ _ n R S5 x2 HPre.out).mono ?_
                rintro e w6 ⟨rfl, k6, h6⟩
                have HD : Hid (QQe w b bw n m w6) := Lib.hid ⟨_, S5, T4, _, HP4.out.step K4.out R4.out T4h.out k6 h6 (by rw [Qu.drop_len]; exact hRm.out)⟩
                have HBA : Hid (Blk w6 wo.heap.size [.int .i64 x0, .int .i64 x1, .int .i64 x2] 62) := Lib.hid ((HBK.out.keep (keeps2 _ bw _ _) (by simpa using hbw2)).keep k6 hS4)
                clear h6 k6 d2 p0 p1 q0 q1 R4
                generalize (Qu.drop R x2).2 = ok at *
                go_wp2_with fail
                go_meet
                exact ⟨HD.out, HBA.out, 0, ok, rfl, rfl, rfl, rfl⟩
              | false =>
                go_wp2_with fail
                go_meet
                exact ⟨⟨R, S5, T5, _, HP4.out⟩, HB4.out, 0, true, rfl, rfl, rfl, rfl⟩
        case rest =>
          obtain ⟨⟨R2, S7, T7, vr7, hp⟩, hba, y, ok, rfl, rfl, rfl, rfl⟩ := hcut
          have HP7 := Lib.hid hp
          obtain ⟨ar7, cr7, rfl⟩ := GV.shape hp.2.2.2.1
          have HI7 := Lib.hid hp.1.inv
          have hR2 : Hid (R2.length = m) := Lib.hid hp.2.1
          have HBa := Lib.hid hba
          obtain ⟨⟨b0, b1⟩, _⟩ := hp.2.2.2.2.2.1.cells2
          have d1 : wc.cell? ⟨wo.heap.size, 1, none⟩ = some (.int .i64 x1) := hba.cell 1
          have d2 : wc.cell? ⟨wo.heap.size, 2, none⟩ = some (.int .i64 x2) := hba.cell 2
          have hyy : (y != y) = false := by simp
          have hoo : (ok != ok) = false := by cases ok <;> rfl
          have hr1k : R2.length ≤ 1000 := by have := hp.2.1; omega
          clear hp hba HP c0 c1 c2 HI hRm
          go_wp2_with fail
          refine (queue_first _ _ n R2 S7 x1 HP7.out.1).mono ?_
          rintro e w8 ⟨rfl, rfl⟩
          go_wp2_with fail
          refine (ref06_first _ n _ R2 T7 x1 HP7.out.2.2.2.1 hr1k).mono ?_
          rintro e w9 ⟨rfl, k9⟩
          generalize (Qu.first R2 x1).1 = f1 at *
          generalize (Qu.first R2 x1).2 = g1 at *
          have hf1 : (f1 != f1) = false := by simp
          have hg1 : (g1 != g1) = false := by cases g1 <;> rfl
          have HP9 := Lib.hid (HP7.out.then k9)
          have d2b : w9.cell? ⟨wo.heap.size, 2, none⟩ = some (.int .i64 x2) := (HBa.out.keep k9 (by simp)).cell 2
          have HBa9 := Lib.hid (HBa.out.keep k9 (by simp))
          obtain ⟨⟨e0, e1⟩, _⟩ := HP9.out.2.2.2.2.2.1.cells2
          clear k9 b0 b1 d1 d2 HP7
          go_wp2_with fail
          refine (queue_in _ _ n R2 S7 x2 HP9.out.1).mono ?_
          rintro e w8 ⟨rfl, rfl⟩
          go_wp2_with fail
          refine (ref06_in _ n n _ R2 T7 x2 HP9.out.2.2.2.1 HI7.out).mono ?_
          rintro e w10 ⟨rfl, k10⟩
          generalize (Qu.inn R2 x2).1 = f2 at *
          generalize (Qu.inn R2 x2).2 = g2 at *
          have hf2 : (f2 != f2) = false := by simp
          have hg2 : (g2 != g2) = false := by cases g2 <;> rfl
          have HPa := Lib.hid (HP9.out.then k10)
          clear k10 e0 e1 d2b HP9
          obtain ⟨⟨e0, e1⟩, _⟩ := HPa.out.2.2.2.2.2.1.cells2
          go_wp2_with fail
          go_loopw [26, 27, 174] (fun _ _ v174 wr => ∃ i : Nat, i ≤ R2.length ∧ v174 = .int .i64 i ∧ Keeps [] w10 wr) (fun _ _ v174 _ => R2.length - (intOf v174).toNat)
          case atStart => exact ⟨0, Nat.zero_le _, rfl, Keeps.refl _ _⟩
          case round =>
            obtain ⟨i, hi, rfl, hke⟩ := hrel
            have HKe := Lib.hid hke
            clear hke
            by_cases hlt2 : i < R2.length
            · obtain ⟨g, off2, cs, U, rfl, hgS, hg, hcs, hcell, ⟨vk, rfl, hvk⟩, hUS⟩ := GV.get (HPa.out.then HKe.out).2.2.2.1 (List.getElem?_eq_getElem hlt2)
              have c0 : wr.cell? ⟨g, off2 + i, none⟩ = some vk := by have := hcell 0 (by omega); rwa [Nat.mul_one, Nat.add_zero] at this
              have hgd : Qu.row R2 i = R2[i] := by rw [Qu.row_nat hlt2, List.getD_eq_getElem?_getD, List.getElem?_eq_getElem hlt2]; rfl
              obtain ⟨l, hl⟩ : ∃ l, R2[i] = l := ⟨_, rfl⟩
              rw [hl] at hvk hgd
              obtain ⟨aok, capk, rfl⟩ := hvk.shape
              have HVk := Lib.hid hvk
              have HGd := Lib.hid hgd
              clear hcs hcell hvk hgd hl
              go_wp2_with fail
              refine (queue_list _ _ n R2 S7 i (HPa.out.1.then HKe.out)).mono ?_
              rintro e w11 ⟨v9, S9, rfl, k9, i9, _⟩
              obtain ⟨ao9, cap9, rfl⟩ := i9.shape
              rw [HGd.out] at i9 ⊢
              have K9 := Lib.hid k9
              have I9 := Lib.hid i9
              clear k9 i9
              go_wp2_with fail
              refine (same02 _ _ _ _ _ _ _ I9.out (HVk.out.then K9.out)).mono ?_
              rintro e w12 ⟨rfl, m10, rfl⟩
              rw [show decide (l = l) = true by simp]
              have HK10 := Lib.hid ((HKe.out.then K9.out).drewN m10)
              have hll : ((l.length : Int) != (l.length : Int)) = false := by simp
              clear c0
              go_wp2_with fail
              refine (queue_len _ _ n R2 S7 i (HPa.out.1.then HK10.out)).mono ?_
              rintro e w13 ⟨rfl, rfl⟩
              rw [HGd.out]
              go_wp2_with fail
              go_roundw
              case rel => exact ⟨i + 1, by omega, by go_num, HK10.out⟩
              case measure => simp [intOf]; omega
            · obtain rfl : i = R2.length := by omega
              go_wp2_with fail
              go_roundw
              case rel => exact ⟨k + 1, by omega, by go_num, R2, S7, T7, _, HPa.out.then HKe.out⟩
              case measure => simp [intOf]; omega
      · obtain rfl : k = c := by omega
        have HQ := Lib.hid h1
        have HF := Lib.hid h3
        have hr1 : Hid (Qu.row R (-1) = []) := Lib.hid (by simp [Qu.row, Qu.line])
        have hr2 : Hid (Qu.row R m = []) := Lib.hid (by simp [Qu.row, Qu.line, h2])
        clear h1 h2 h3 h4 h5 h6 h7 h8 h9 HB HP
        go_wp2_with fail
        refine (queue_list _ _ n R S5 (-1) HQ.out).mono ?_
        rintro e w11 ⟨v9, S9, rfl, k9, i9, _⟩
        obtain ⟨ao9, cap9, rfl⟩ := i9.shape
        rw [hr1.out] at i9 ⊢
        have K9 := Lib.hid k9
        clear k9 i9
        go_wp2_with fail
        refine (queue_len _ _ n R S5 m (HQ.out.then K9.out)).mono ?_
        rintro e w13 ⟨rfl, rfl⟩
        rw [hr2.out]
        go_wp2_with fail
        go_ret
        exact ⟨rfl, HF.out.1.then K9.out⟩
end Go.Proofs.Ytonkbenmafapgaa
