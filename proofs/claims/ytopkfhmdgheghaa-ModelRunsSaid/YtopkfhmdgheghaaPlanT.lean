/-
  The document's SameOp: its contract.
  Conditions: none.
-/
import Derived.Test.YtopkfhmdgheghaaPlanS
namespace Go.Proofs.Ytopkfhmdgheghaa
open Go.RowKit
set_option linter.unusedVariables false
set_option linter.unusedSimpArgs false
set_option linter.unnecessarySimpa false

set_option maxHeartbeats 1600000 in
theorem ref10_sameOp (w : World) (a b : Pn.Op) (va vb : Value) (SA SB : List Nat) (ha : GV caseE 3 w va a.cases SA) (hb : GV caseE 3 w vb b.cases SB) :
    Calls Try.prog 91 #[.agg #[.int .i64 a.kind, .int .i64 a.ch, .int .i64 a.n, .int .i64 a.v, va, .bool a.els], .agg #[.int .i64 b.kind, .int .i64 b.ch, .int .i64 b.n, .int .i64 b.v, vb, .bool b.els]] w fun e w' => e = .returned (.bool (decide (a = b))) ∧ Keeps [] w w' := by
  obtain ⟨k1, c1, n1, v1, s1, e1⟩ := a
  obtain ⟨k2, c2, n2, v2, s2, e2⟩ := b
  simp only at ha hb ⊢
  have hla := ha.le
  have hlb := hb.le
  unfold maxLen at hla hlb
  obtain ⟨ao1, cap1, rfl⟩ := ha.shape
  obtain ⟨ao2, cap2, rfl⟩ := hb.shape
  have HA := Lib.hid ha
  have HB := Lib.hid hb
  have ka : Keeps [] w ((w.alloc (.cells #[.int .i64 k1, .int .i64 c1, .int .i64 n1, .int .i64 v1, .slice ao1 s1.length cap1, .bool e1] 33)).alloc (.cells #[.int .i64 k2, .int .i64 c2, .int .i64 n2, .int .i64 v2, .slice ao2 s2.length cap2, .bool e2] 33)) := ((Keeps.refl [] w).alloc _).alloc _
  have KA := Lib.hid ka
  clear ha hb ka
  obtain ⟨q, hq0⟩ : ∃ q, decide ((⟨k1, c1, n1, v1, s1, e1⟩ : Pn.Op) = ⟨k2, c2, n2, v2, s2, e2⟩) = q := ⟨_, rfl⟩
  rw [hq0]
  have HQ0 := Lib.hid hq0
  clear hq0
  by_cases heq : k1 = k2 ∧ c1 = c2 ∧ n1 = n2 ∧ v1 = v2
  · obtain ⟨rfl, rfl, rfl, rfl⟩ := heq
    by_cases hee : e1 = e2
    rotate_left
    · have hne : false = q := by
        rw [← HQ0.out, eq_comm, decide_eq_false_iff_not]; intro e; injection e with _ _ _ _ _ e6; exact hee e6
      have HN := Lib.hid hne
      clear hne
      cases e1 <;> cases e2
      · exact absurd rfl hee
      · clear hee
        go_enter Try.func91, Try.ntmps91
        go_wp2_with fail
        go_ret
        exact ⟨ret_bool HN.out, KA.out⟩
      · clear hee
        go_enter Try.func91, Try.ntmps91
        go_wp2_with fail
        go_ret
        exact ⟨ret_bool HN.out, KA.out⟩
      · exact absurd rfl hee
    subst hee
    have he1 : (e1 != e1) = false := by cases e1 <;> rfl
    by_cases hl : s1.length = s2.length
    · have HL := Lib.hid hl
      have hq : ((s1.length : Int) != (s2.length : Int)) = false := by simp [hl]
      have hb2 := Blk.fresh (w.alloc (.cells #[.int .i64 k1, .int .i64 c1, .int .i64 n1, .int .i64 v1, .slice ao1 s1.length cap1, .bool e1] 33)) [.int .i64 k1, .int .i64 c1, .int .i64 n1, .int .i64 v1, .slice ao2 s2.length cap2, .bool e1] 33 (w.heap.size + 1) (by simp)
      have HB2 := Lib.hid hb2
      have HB1 := Lib.hid ((Blk.fresh w [.int .i64 k1, .int .i64 c1, .int .i64 n1, .int .i64 v1, .slice ao1 s1.length cap1, .bool e1] 33 _ rfl).alloc (.cells #[.int .i64 k1, .int .i64 c1, .int .i64 n1, .int .i64 v1, .slice ao2 s2.length cap2, .bool e1] 33))
      clear hl hb2
      go_enter Try.func91, Try.ntmps91
      go_wp2_with fail
      go_loopw [51] (fun u wr => ∃ k : Nat, k ≤ s1.length ∧ u = .int .i64 k ∧ Hid (Keeps [] w wr ∧ Blk wr w.heap.size [.int .i64 k1, .int .i64 c1, .int .i64 n1, .int .i64 v1, .slice ao1 s1.length cap1, .bool e1] 33 ∧ Blk wr (w.heap.size + 1) [.int .i64 k1, .int .i64 c1, .int .i64 n1, .int .i64 v1, .slice ao2 s2.length cap2, .bool e1] 33 ∧ ∀ j, j < k → s1[j]? = s2[j]?)) (fun u _ => s1.length - (intOf u).toNat)
      case atStart => exact ⟨0, Nat.zero_le _, rfl, Lib.hid ⟨KA.out, HB1.out, HB2.out, fun j hj => by omega⟩⟩
      case round =>
        obtain ⟨k, hk, rfl, HI⟩ := hrel
        obtain ⟨wo, rfl⟩ : ∃ wo : World, wo = wr := ⟨_, rfl⟩
        by_cases hlt : k < s1.length
        · obtain ⟨x, hx⟩ : ∃ x, s1[k]? = some x := ⟨_, List.getElem?_eq_getElem hlt⟩
          obtain ⟨y, hy⟩ : ∃ y, s2[k]? = some y := ⟨_, List.getElem?_eq_getElem (by have := HL.out; omega)⟩
          have hlt2 : k < s2.length := by have := HL.out; omega
          obtain ⟨g1, off1, rfl, _, hg1, a0, a1, a2⟩ := (HA.out.then caseE_kept HI.out.1).case hx
          obtain ⟨g2, off2, rfl, _, hg2, b0, b1, b2⟩ := (HB.out.then caseE_kept HI.out.1).case hy
          have hbx1 : wo.cell? ⟨w.heap.size, 4, none⟩ = some (.slice (some ⟨g1, off1, none⟩) s1.length cap1) := HI.out.2.1.cell 4
          have hbx : wo.cell? ⟨w.heap.size + 1, 4, none⟩ = some (.slice (some ⟨g2, off2, none⟩) s2.length cap2) := HI.out.2.2.1.cell 4
          have HX := Lib.hid hx
          have HY := Lib.hid hy
          have KR := Lib.hid HI.out.1
          obtain ⟨x1, x2, x3⟩ := x
          obtain ⟨y1, y2, y3⟩ := y
          simp only at a0 a1 a2 b0 b1 b2
          clear hx hy
          have hgd := case_guard
          by_cases hxy : (⟨x1, x2, x3⟩ : Pn.Cs) = ⟨y1, y2, y3⟩
          · have hrn : ∀ w : World, (binOp .neq 131 (.agg #[.bool x1, .int .i64 x2, .int .i64 x3]) (.agg #[.bool y1, .int .i64 y2, .int .i64 y3])).run Try.prog w = .ok (.bool false) w := fun w => by
              have := run_neq_case w ⟨x1, x2, x3⟩ ⟨y1, y2, y3⟩
              rwa [decide_eq_true hxy] at this
            have HXY := Lib.hid hxy
            clear hxy
            go_upto_region 6 with fail
            go_quiet (fail)
            go_wp2_with fail
            go_roundw
            case rel => exact ⟨k + 1, by omega, by go_num, Lib.hid ⟨KR.out.drewN _, HI.out.2.1.keep ((Keeps.refl [] _).drewN _) (by simp), HI.out.2.2.1.keep ((Keeps.refl [] _).drewN _) (by simp), fun j hj => by
              by_cases e : j = k
              · subst e; rw [HX.out, HY.out, HXY.out]
              · exact HI.out.2.2.2 j (by omega)⟩⟩
            case measure => simp [intOf]; omega
          · have hrn : ∀ w : World, (binOp .neq 131 (.agg #[.bool x1, .int .i64 x2, .int .i64 x3]) (.agg #[.bool y1, .int .i64 y2, .int .i64 y3])).run Try.prog w = .ok (.bool true) w := fun w => by
              have := run_neq_case w ⟨x1, x2, x3⟩ ⟨y1, y2, y3⟩
              rwa [decide_eq_false hxy] at this
            have HN : Hid (false = q) := Lib.hid (by
              rw [← HQ0.out, eq_comm, decide_eq_false_iff_not]
              intro e
              injection e with _ _ _ _ e5
              have h1 := HX.out
              rw [e5, HY.out] at h1
              exact hxy (Option.some.inj h1).symm)
            clear hxy
            go_upto_region 6 with fail
            go_quiet (fail)
            go_wp2_with fail
            go_ret
            exact ⟨ret_bool HN.out, KR.out.drewN _⟩
        · obtain rfl : k = s1.length := by omega
          have HN : Hid (true = q) := Lib.hid (by
            rw [← HQ0.out, eq_comm, decide_eq_true_iff, list_same HL.out HI.out.2.2.2])
          go_wp2_with fail
          go_ret
          exact ⟨ret_bool HN.out, HI.out.1⟩
    · have hq : ((s1.length : Int) != (s2.length : Int)) = true := by simp; omega
      have hne : false = q := by
        rw [← HQ0.out, eq_comm, decide_eq_false_iff_not]; intro e; injection e with _ _ _ _ e5; exact hl (by rw [e5])
      have HN := Lib.hid hne
      clear hne hl
      go_enter Try.func91, Try.ntmps91
      go_wp2_with fail
      go_ret
      exact ⟨ret_bool HN.out, KA.out⟩
  · have hne : false = q := by
      rw [← HQ0.out, eq_comm, decide_eq_false_iff_not]; intro e; injection e with h1 h2 h3 h4 h5 h6; exact heq ⟨h1, h2, h3, h4⟩
    have HN := Lib.hid hne
    have HQ := Lib.hid heq
    clear hne heq
    go_enter Try.func91, Try.ntmps91
    go_upto_if 47 with fail
    · exfalso; exact HQ.out ⟨by assumption, by assumption, by assumption, by assumption⟩
    all_goals
      go_wp2_with fail
      go_ret
      exact ⟨ret_bool HN.out, ((Keeps.refl [] w).alloc _).alloc _⟩
end Go.Proofs.Ytopkfhmdgheghaa
