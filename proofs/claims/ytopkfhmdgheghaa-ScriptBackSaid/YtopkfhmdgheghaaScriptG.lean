/-
  handoffref24.Same, and scriptAlive and great of handofflaw24: contracts.
  Conditions: none.
-/
import Derived.Test.YtopkfhmdgheghaaScriptR
import Derived.Test.YtopkfhmdgheghaaPlanU
import Derived.Laws.StructEq
namespace Go.Proofs.Ytopkfhmdgheghaa
open Go.RowKit
set_option linter.unusedVariables false
set_option linter.unusedSimpArgs false
set_option linter.unnecessarySimpa false

theorem cfg_fields : Try.prog.underlying 38 = some (.struct (Try.prog.fieldsOf 38)) := by kernel_rfl
theorem cfg_held : Try.prog.stoodInHeld 38 = false := by kernel_rfl
theorem cfg_guard : Try.prog.eqGuardType Try.prog.depth 38 = false := by kernel_rfl
theorem cfg_flds : ∃ f0 f1 : Field, (Try.prog.fieldsOf 38).toList = [f0, f1] ∧ f0.name ≠ "_" ∧ f1.name ≠ "_" ∧ f0.type = 3 ∧ f1.type = 3 ∧ f0.offset = 0 ∧ f1.offset = 1 := by
  unfold Program.fieldsOf
  rw [Try.underlying38]
  exact ⟨_, _, rfl, by decide, by decide, rfl, rfl, rfl, rfl⟩
theorem run_neq_cfg (w : World) (a b c d : Int) : (binOp .neq 38 (.agg #[.int .i64 a, .int .i64 b]) (.agg #[.int .i64 c, .int .i64 d])).run Try.prog w = .ok (.bool (!decide (a = c ∧ b = d))) w := by
  obtain ⟨f0, f1, hf, n0, n1, t0, t1, o0, o1⟩ := cfg_flds
  rw [run_neq_struct, run_equalIn_struct _ _ _ _ _ cfg_fields cfg_held, hf]
  have hi := Try.underlying3
  simp [Op.eqFields, n0, n1, t0, t1, o0, o1, go_sem, hi]
  by_cases h1 : a = c <;> by_cases h2 : b = d <;> simp [h1, h2]
theorem run_eql_cfg (w : World) (a b c d : Int) : (binOp .eql 38 (.agg #[.int .i64 a, .int .i64 b]) (.agg #[.int .i64 c, .int .i64 d])).run Try.prog w = .ok (.bool (decide (a = c ∧ b = d))) w := by
  obtain ⟨f0, f1, hf, n0, n1, t0, t1, o0, o1⟩ := cfg_flds
  rw [run_eql_struct, run_equalIn_struct _ _ _ _ _ cfg_fields cfg_held, hf]
  have hi := Try.underlying3
  simp [Op.eqFields, n0, n1, t0, t1, o0, o1, go_sem, hi]
  by_cases h1 : a = c <;> by_cases h2 : b = d <;> simp [h1, h2]

theorem sn_read_nil : Sn.read [] = ⟨[[]], 0, 1, [], []⟩ := by rfl

set_option maxHeartbeats 1600000 in
theorem script_alive (w : World) : Calls Try.prog 12 #[] w fun e w' => e = .returned (.bool true) ∧ Keeps [] w w' := by
  go_enter Try.func12, Try.ntmps12
  go_wp2_with fail
  refine (script_read _ _ [] [] (GV.nil _ _ _) (by simp)).mono ?_
  rw [sn_read_nil]
  rintro e w1 ⟨cs, U, rfl, ⟨vp, vd, vk, hcs, h1, h2, h3⟩, k1⟩
  simp only at hcs h1 h2 h3
  obtain rfl : cs = #[vp, .int .i64 0, .int .i64 1, vd, vk] := by apply Array.toList_inj.1; exact hcs
  obtain ⟨ap, cp, rfl⟩ := h1.shape
  obtain ⟨ad, cd, rfl⟩ := h2.shape
  obtain ⟨ak, ck, rfl⟩ := h3.shape
  obtain ⟨g, off, _, V, rfl, _, hg, c0, ⟨v2, hv2, g2⟩, _⟩ := h1.one (k := 0) rfl
  cases hv2
  obtain ⟨ao2, cap2, rfl⟩ := g2.shape
  have hrn := fun w => run_eql_cfg w 0 1 0 1
  have hgd := cfg_guard
  have K1 := Lib.hid k1
  clear h1 h2 h3 g2 k1 hcs
  simp only [List.length_nil, List.length_cons, Nat.add_zero, Nat.zero_mul, Nat.zero_add, decide_true, and_self] at *
  go_wp2_with fail
  go_ret
  exact ⟨rfl, K1.out.alloc _⟩

def GrPost (n : Nat) (w : World) (e : Ending) (w' : World) : Prop := ∃ b : Bool, e = .returned (.bool b) ∧ (b = false → n ≤ 400) ∧ Keeps [] w w'

set_option maxHeartbeats 1600000 in
theorem script_great (w : World) (cs : List Value) (s : Sn.Sc) (U : List Nat) (h : scE w cs s U) : Calls Try.prog 13 #[.agg cs.toArray] w (GrPost s.picks.length w) := by
  obtain ⟨vp, vd, vk, rfl, h1, h2, h3⟩ := h
  obtain ⟨p, a, b, ds, ps⟩ := s
  simp only at h1 h2 h3 ⊢
  have hl1 := h1.le
  have hl2 := h2.le
  have hl3 := h3.le
  unfold maxLen at hl1 hl2 hl3
  obtain ⟨ap, cp, rfl⟩ := h1.shape
  obtain ⟨ad, cd, rfl⟩ := h2.shape
  obtain ⟨ak, ck, rfl⟩ := h3.shape
  obtain ⟨w0, hw0⟩ : ∃ w0, w.alloc (.cells #[.slice ap p.length cp, .int .i64 a, .int .i64 b, .slice ad ds.length cd, .slice ak ps.length ck] 42) = w0 := ⟨_, rfl⟩
  have H0 : Hid (Keeps [] w w0) := Lib.hid (hw0 ▸ (Keeps.refl [] w).alloc _)
  have HB : Hid (Blk w0 w.heap.size [.slice ap p.length cp, .int .i64 a, .int .i64 b, .slice ad ds.length cd, .slice ak ps.length ck] 42) := Lib.hid (hw0 ▸ Blk.fresh w _ _ _ rfl)
  have HP := Lib.hid (h1.then opsE_kept H0.out)
  clear h1 h2 h3
  go_enter Try.func13, Try.ntmps13
  have z0 : w0.cell? ⟨w.heap.size, 0, none⟩ = some (.slice ap p.length cp) := HB.out.cell 0
  go_wp2_with fail
  clear hw0 z0
  go_loopw [10] (fun u wr => ∃ k : Nat, k ≤ p.length ∧ u = .int .i64 k ∧ Hid (Keeps [] w0 wr)) (fun u _ => p.length - (intOf u).toNat)
  case atStart => exact ⟨0, Nat.zero_le _, rfl, Lib.hid (Keeps.refl _ _)⟩
  case round =>
    obtain ⟨k, hk, rfl, HI⟩ := hrel
    obtain ⟨wo, rfl⟩ : ∃ wo : World, wo = wr := ⟨_, rfl⟩
    by_cases hlt : k < p.length
    · obtain ⟨l, hx⟩ : ∃ l, p[k]? = some l := ⟨_, List.getElem?_eq_getElem hlt⟩
      obtain ⟨g1, off1, _, U1, rfl, _, _, a0, ⟨v1, hv1, hux⟩, _⟩ := (HP.out.then opsE_kept HI.out).one hx
      cases hv1
      have hlr := hux.le
      unfold maxLen at hlr
      obtain ⟨am, cm, rfl⟩ := hux.shape
      have HU := Lib.hid hux
      clear hx hux
      go_wp2_with fail
      go_loopw [16] (fun u wr => ∃ j : Nat, j ≤ l.length ∧ u = .int .i64 j ∧ Hid (Keeps [] w0 wr ∧ Keeps [] wo wr)) (fun u _ => l.length - (intOf u).toNat)
      case atStart => exact ⟨0, Nat.zero_le _, rfl, Lib.hid ⟨HI.out, Keeps.refl _ _⟩⟩
      case round =>
        obtain ⟨j, hj, rfl, HJ⟩ := hrel
        obtain ⟨wi, rfl⟩ : ∃ wi : World, wi = wr := ⟨_, rfl⟩
        by_cases hlt2 : j < l.length
        · obtain ⟨o, ho⟩ : ∃ o, l[j]? = some o := ⟨_, List.getElem?_eq_getElem hlt2⟩
          obtain ⟨g2, off2, vc, U2, rfl, _, _, ⟨b0, b1, b2, b3, b4, b5⟩, hu, _⟩ := (HU.out.then opE_kept HJ.out.2).op ho
          have hlc := hu.le
          unfold maxLen at hlc
          obtain ⟨ac, cc, rfl⟩ := hu.shape
          clear ho hu
          cases h20 : decide (20 < (o.cases.length : Int)) with
          | true =>
            go_wp2_with fail
            go_ret
            exact ⟨_, rfl, fun h => (by simp at h), H0.out.then (HJ.out.1.alloc _)⟩
          | false =>
            go_wp2_with fail
            go_roundw
            case rel => exact ⟨j + 1, by omega, by go_num, Lib.hid ⟨HJ.out.1.alloc _, HJ.out.2.alloc _⟩⟩
            case measure => simp [intOf]; omega
        · obtain rfl : j = l.length := by omega
          cases h40 : decide (40 < (l.length : Int)) with
          | true =>
            go_wp2_with fail
            go_ret
            exact ⟨_, rfl, fun h => (by simp at h), H0.out.then HJ.out.1⟩
          | false =>
            go_wp2_with fail
            go_roundw
            case rel => exact ⟨k + 1, by omega, by go_num, Lib.hid HJ.out.1⟩
            case measure => simp [intOf]; omega
    · obtain rfl : k = p.length := by omega
      obtain ⟨⟨c0, c1, c2, c3, c4⟩, f0, f1, f2, f3, f4⟩ := Blk.five (HB.out.keep HI.out (by simp))
      cases h1 : decide (20 < (p.length : Int)) <;> cases h2 : decide (400 < (ds.length : Int)) <;> cases h3 : decide (400 < (ps.length : Int))
      all_goals
        have h4 : Hid (decide (400 < (ps.length : Int)) = _) := Lib.hid h3
        go_wp2_with fail
        go_ret
        first
          | exact ⟨_, rfl, fun h => by have := h4.out; simp at this; omega, H0.out.then HI.out⟩
          | exact ⟨_, rfl, fun h => (by simp at h), H0.out.then HI.out⟩
end Go.Proofs.Ytopkfhmdgheghaa
