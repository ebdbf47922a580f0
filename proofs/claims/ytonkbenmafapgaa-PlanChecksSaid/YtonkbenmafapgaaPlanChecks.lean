/-
  The law PlanChecks: its walk.
  Conditions: none.
-/
import Derived.Test.YtonkbenmafapgaaPlanA
import Derived.Test.YtonkbenmafapgaaPlanT
import Derived.Test.YtonkbenmafapgaaPlanV
import Derived.Deep.DrawnRows
namespace Go.Proofs.Ytonkbenmafapgaa
open Go.RowKit
set_option linter.unusedVariables false
set_option linter.unusedSimpArgs false
set_option linter.unnecessarySimpa false
attribute [local go_sem ↓] Go.wp_at_zero Go.wp_at_succ

set_option maxHeartbeats 1600000 in
theorem planChecks_walk (w : World) (a b : Pn.Op) (va vb : Value) (SA SB : List Nat) (ha : GV caseE 3 w va a.cases SA) (hb : GV caseE 3 w vb b.cases SB) :
    Calls Try.prog 9 #[.agg #[.int .i64 a.kind, .int .i64 a.ch, .int .i64 a.n, .int .i64 a.v, va, .bool a.els], .agg #[.int .i64 b.kind, .int .i64 b.ch, .int .i64 b.n, .int .i64 b.v, vb, .bool b.els]] w fun e w' => e = .returned (.bool true) ∧ Keeps [] w w' := by
  have hla := ha.le
  have hlb := hb.le
  unfold maxLen at hla hlb
  obtain ⟨ao1, cap1, rfl⟩ := ha.shape
  obtain ⟨ao2, cap2, rfl⟩ := hb.shape
  have HA := Lib.hid ha
  have HB := Lib.hid hb
  have B1 := Lib.hid ((Blk.fresh w [.int .i64 a.kind, .int .i64 a.ch, .int .i64 a.n, .int .i64 a.v, .slice ao1 a.cases.length cap1, .bool a.els] 74 _ rfl).alloc (.cells #[.int .i64 b.kind, .int .i64 b.ch, .int .i64 b.n, .int .i64 b.v, .slice ao2 b.cases.length cap2, .bool b.els] 74))
  have B2 := Lib.hid (Blk.fresh (w.alloc (.cells #[.int .i64 a.kind, .int .i64 a.ch, .int .i64 a.n, .int .i64 a.v, .slice ao1 a.cases.length cap1, .bool a.els] 74)) [.int .i64 b.kind, .int .i64 b.ch, .int .i64 b.n, .int .i64 b.v, .slice ao2 b.cases.length cap2, .bool b.els] 74 (w.heap.size + 1) (by simp))
  clear ha hb
  have hcase : 100 < (a.cases.length : Int) ∨ ((a.cases.length : Int) ≤ 100 ∧ 100 < (b.cases.length : Int)) ∨ ((a.cases.length : Int) ≤ 100 ∧ (b.cases.length : Int) ≤ 100) := by omega
  rcases hcase with hl1 | ⟨hl1, hl2⟩ | ⟨hl1, hl2⟩
  · go_enter Try.func9, Try.ntmps9
    go_wp2_with fail
    refine (plan_alive _).mono ?_
    rintro e w1 ⟨rfl, k1⟩
    have K1 := Lib.hid ((((Keeps.refl [] w).alloc _).alloc _).then k1)
    obtain ⟨⟨a0, a1, a2, a3, a4, a5⟩, _⟩ := (B1.out.keep k1 (by simp)).six
    clear k1
    go_wp2_with fail
    go_ret
    exact ⟨rfl, K1.out⟩
  · go_enter Try.func9, Try.ntmps9
    go_wp2_with fail
    refine (plan_alive _).mono ?_
    rintro e w1 ⟨rfl, k1⟩
    have K1 := Lib.hid ((((Keeps.refl [] w).alloc _).alloc _).then k1)
    obtain ⟨⟨a0, a1, a2, a3, a4, a5⟩, _⟩ := (B1.out.keep k1 (by simp)).six
    obtain ⟨⟨b0, b1, b2, b3, b4, b5⟩, _⟩ := (B2.out.keep k1 (by simp)).six
    clear k1
    go_wp2_with fail
    go_ret
    exact ⟨rfl, K1.out⟩
  · go_enter Try.func9, Try.ntmps9
    go_wp2_with fail
    refine (plan_alive _).mono ?_
    rintro e w1 ⟨rfl, k1⟩
    have K1 := Lib.hid ((((Keeps.refl [] w).alloc _).alloc _).then k1)
    have B3 := Lib.hid (B1.out.keep k1 (by simp))
    have B4 := Lib.hid (B2.out.keep k1 (by simp))
    have HA1 := Lib.hid (HA.out.then caseE_kept K1.out)
    have HB1 := Lib.hid (HB.out.then caseE_kept K1.out)
    clear k1
    obtain ⟨⟨a0, a1, a2, a3, a4, a5⟩, _⟩ := B3.out.six
    obtain ⟨⟨b0, b1, b2, b3, b4, b5⟩, _⟩ := B4.out.six
    obtain ⟨ra, hra⟩ : ∃ x, Pn.rightOp a = x := ⟨_, rfl⟩
    obtain ⟨q, hq⟩ : ∃ x, decide (a = b) = x := ⟨_, rfl⟩
    have HRA := Lib.hid hra
    have HQ := Lib.hid hq
    clear hra hq
    go_wp2_with fail
    go_region_held3 (fun w' => w'.cell? ⟨w.heap.size, 0, none⟩ = some (.int .i64 a.kind) ∧ w'.cell? ⟨w.heap.size, 1, none⟩ = some (.int .i64 a.ch) ∧ w'.cell? ⟨w.heap.size, 2, none⟩ = some (.int .i64 a.n) ∧ w'.cell? ⟨w.heap.size, 3, none⟩ = some (.int .i64 a.v) ∧ w'.cell? ⟨w.heap.size, 4, none⟩ = some (.slice ao1 a.cases.length cap1) ∧ w'.cell? ⟨w.heap.size, 5, none⟩ = some (.bool a.els) ∧
        w'.cell? ⟨w.heap.size + 1, 0, none⟩ = some (.int .i64 b.kind) ∧ w'.cell? ⟨w.heap.size + 1, 1, none⟩ = some (.int .i64 b.ch) ∧ w'.cell? ⟨w.heap.size + 1, 2, none⟩ = some (.int .i64 b.n) ∧ w'.cell? ⟨w.heap.size + 1, 3, none⟩ = some (.int .i64 b.v) ∧ w'.cell? ⟨w.heap.size + 1, 4, none⟩ = some (.slice ao2 b.cases.length cap2) ∧ w'.cell? ⟨w.heap.size + 1, 5, none⟩ = some (.bool b.els))
      (first
        | (with_reducible exact ⟨a0, a1, a2, a3, a4, a5, b0, b1, b2, b3, b4, b5⟩)
        | (with_reducible exact ⟨K8.out.cell a0 List.not_mem_nil, K8.out.cell a1 List.not_mem_nil, K8.out.cell a2 List.not_mem_nil, K8.out.cell a3 List.not_mem_nil, K8.out.cell a4 List.not_mem_nil, K8.out.cell a5 List.not_mem_nil, K8.out.cell b0 List.not_mem_nil, K8.out.cell b1 List.not_mem_nil, K8.out.cell b2 List.not_mem_nil, K8.out.cell b3 List.not_mem_nil, K8.out.cell b4 List.not_mem_nil, K8.out.cell b5 List.not_mem_nil⟩)
        | (with_reducible exact ⟨K9.out.cell a0 List.not_mem_nil, K9.out.cell a1 List.not_mem_nil, K9.out.cell a2 List.not_mem_nil, K9.out.cell a3 List.not_mem_nil, K9.out.cell a4 List.not_mem_nil, K9.out.cell a5 List.not_mem_nil, K9.out.cell b0 List.not_mem_nil, K9.out.cell b1 List.not_mem_nil, K9.out.cell b2 List.not_mem_nil, K9.out.cell b3 List.not_mem_nil, K9.out.cell b4 List.not_mem_nil, K9.out.cell b5 List.not_mem_nil⟩)
        | (with_reducible exact ⟨K10.out.cell a0 List.not_mem_nil, K10.out.cell a1 List.not_mem_nil, K10.out.cell a2 List.not_mem_nil, K10.out.cell a3 List.not_mem_nil, K10.out.cell a4 List.not_mem_nil, K10.out.cell a5 List.not_mem_nil, K10.out.cell b0 List.not_mem_nil, K10.out.cell b1 List.not_mem_nil, K10.out.cell b2 List.not_mem_nil, K10.out.cell b3 List.not_mem_nil, K10.out.cell b4 List.not_mem_nil, K10.out.cell b5 List.not_mem_nil⟩)
        | (with_reducible exact ⟨K11.out.cell a0 List.not_mem_nil, K11.out.cell a1 List.not_mem_nil, K11.out.cell a2 List.not_mem_nil, K11.out.cell a3 List.not_mem_nil, K11.out.cell a4 List.not_mem_nil, K11.out.cell a5 List.not_mem_nil, K11.out.cell b0 List.not_mem_nil, K11.out.cell b1 List.not_mem_nil, K11.out.cell b2 List.not_mem_nil, K11.out.cell b3 List.not_mem_nil, K11.out.cell b4 List.not_mem_nil, K11.out.cell b5 List.not_mem_nil⟩)
        | (with_reducible exact ⟨K12.out.cell a0 List.not_mem_nil, K12.out.cell a1 List.not_mem_nil, K12.out.cell a2 List.not_mem_nil, K12.out.cell a3 List.not_mem_nil, K12.out.cell a4 List.not_mem_nil, K12.out.cell a5 List.not_mem_nil, K12.out.cell b0 List.not_mem_nil, K12.out.cell b1 List.not_mem_nil, K12.out.cell b2 List.not_mem_nil, K12.out.cell b3 List.not_mem_nil, K12.out.cell b4 List.not_mem_nil, K12.out.cell b5 List.not_mem_nil⟩)
        | go_keep)
      (first
        | (go_at_call 46; (with_reducible refine (plan_rightOp _ a _ SA (HA1.out.then caseE_kept (Keeps.refl [] w1).drew)).mono ?_); rintro e w8 ⟨rfl, k8⟩; rw [HRA.out]; have K8 := Lib.hid (((Keeps.refl [] w1).drew).then k8); clear k8)
        | (go_at_call 47; (with_reducible refine (ref10_rightOp _ a _ SA (HA1.out.then caseE_kept K8.out)).mono ?_); rintro e w9 ⟨rfl, k9⟩; rw [HRA.out]; have K9 := Lib.hid (K8.out.then k9); clear k9)
        | (go_at_call 48; (with_reducible refine (plan_sameOp _ a b _ _ SA SB (HA1.out.then caseE_kept K9.out) (HB1.out.then caseE_kept K9.out)).mono ?_); rintro e w10 ⟨rfl, k10⟩; rw [HQ.out]; have K10 := Lib.hid (K9.out.then k10); clear k10)
        | (go_at_call 49; (with_reducible refine (ref10_sameOp _ a b _ _ SA SB (HA1.out.then caseE_kept K10.out) (HB1.out.then caseE_kept K10.out)).mono ?_); rintro e w11 ⟨rfl, k11⟩; rw [HQ.out]; have K11 := Lib.hid (K10.out.then k11); clear k11)
        | (go_at_call 48; (with_reducible refine (plan_sameOp _ a a _ _ SA SA (HA1.out.then caseE_kept K11.out) (HA1.out.then caseE_kept K11.out)).mono ?_); rintro e w12 ⟨rfl, k12⟩; rw [decide_eq_true rfl]; have K12 := Lib.hid (K11.out.then k12); clear k12)
        | fail)
    go_wp2_with fail
    go_ret
    exact ⟨rfl, K1.out.then K12.out⟩

theorem opE_agg {w : World} {cs : Array Value} {a : Pn.Op} {U : List Nat} (h : opE w cs.toList a U) : ∃ vc, cs = #[.int .i64 a.kind, .int .i64 a.ch, .int .i64 a.n, .int .i64 a.v, vc, .bool a.els] ∧ GV caseE 3 w vc a.cases U := by
  obtain ⟨vc, h1, h2⟩ := h
  exact ⟨vc, by apply Array.toList_inj.1; exact h1, h2⟩
theorem planChecks_open (w : World) (cs0 : Array Value) (a0 : Pn.Op) (U0 : List Nat) (s0 : cs0.size = 6) (h0 : opE w cs0.toList a0 U0) (o0 : ∀ y ∈ cs0.toList, y.oneCell' = true) (cs1 : Array Value) (a1 : Pn.Op) (U1 : List Nat) (s1 : cs1.size = 6) (h1 : opE w cs1.toList a1 U1) (o1 : ∀ y ∈ cs1.toList, y.oneCell' = true) :
    Calls Try.prog 9 #[.agg cs0, .agg cs1] w fun e w' => e = .returned (.bool true) ∧ Keeps [] w w' := by
  obtain ⟨v0, rfl, g0⟩ := opE_agg h0
  obtain ⟨v1, rfl, g1⟩ := opE_agg h1
  exact planChecks_walk w a0 a1 v0 v1 U0 U1 g0 g1
end Go.Proofs.Ytonkbenmafapgaa
