/-
  A mark, an event, a point is not another one than itself; handoffref19.Same of a list told twice.
  Conditions: none.
-/
import Derived.Test.YtgjpdogjekmemaaTalD
import Derived.Laws.StructEq
namespace Go.Proofs.Ytgjpdogjekmemaa
open Go.RowKit
set_option linter.unusedVariables false
set_option linter.unusedSimpArgs false
set_option linter.unnecessarySimpa false
namespace Fl
set_option maxRecDepth 100000
section
variable {P : Program} {c : Cx} {f : Fm} {L : List Res} {T : TypeId} {ps : String} {af : Array Edge} {gd : Option (Nat × Bool)} {t : Nat}
theorem Qt.neT {x y : Operand} {X Y : Nat} (zs : List Value) (h : evD f x = some (.agg (vs zs))) (hy : evD f y = some (.agg (vs zs))) (hr : ∀ w, (binOp .neq X (.agg zs.toArray) (.agg zs.toArray)).run P w = .ok (.bool false) w) (hg : P.eqGuardType P.depth X = false) : Qt P c [] ⟨t, .binOp .neq X x y Y, T, ps, af, gd⟩ f L (.c (.v (.bool false))) := ⟨fun a w s => by
  have rx := s.ev h
  have ry := s.ev hy
  unfold RD at rx ry
  obtain ⟨v1, e1, r1⟩ := rx
  obtain ⟨v2, e2, r2⟩ := ry
  rw [rc_vsT r1] at e1
  rw [rc_vsT r2] at e2
  refine ⟨.bool false, by unfold RD RA; exact ⟨rfl, rfl⟩, fun w' k => ?_⟩
  simp [execOp, e1, e2, hr, Sem.run_bind, run_eqGuard_agg _ _ _ _ _ _ _ hg]⟩
end
theorem eqRsT_fields : Try.prog.underlying 33 = some (.struct (Try.prog.fieldsOf 33)) := by kernel_rfl
theorem eqRsT_held : Try.prog.stoodInHeld 33 = false := by kernel_rfl
theorem eqRsT_guard : Try.prog.eqGuardType Try.prog.depth 33 = false := by kernel_rfl
theorem eqRsT_flds : ∃ f0 f1 f2 f3 f4 : Field, (Try.prog.fieldsOf 33).toList = [f0, f1, f2, f3, f4] ∧ (f0.name ≠ "_" ∧ f1.name ≠ "_" ∧ f2.name ≠ "_" ∧ f3.name ≠ "_" ∧ f4.name ≠ "_") ∧ (f0.type = 3 ∧ f1.type = 3 ∧ f2.type = 2 ∧ f3.type = 4 ∧ f4.type = 3) ∧ f0.offset = 0 ∧ f1.offset = 1 ∧ f2.offset = 2 ∧ f3.offset = 3 ∧ f4.offset = 4 := by
  unfold Program.fieldsOf
  rw [Try.underlying33]
  exact ⟨_, _, _, _, _, rfl, ⟨by decide, by decide, by decide, by decide, by decide⟩, ⟨rfl, rfl, rfl, rfl, rfl⟩, rfl, rfl, rfl, rfl, rfl⟩
theorem eqMkT_fields : Try.prog.underlying 41 = some (.struct (Try.prog.fieldsOf 41)) := by kernel_rfl
theorem eqMkT_held : Try.prog.stoodInHeld 41 = false := by kernel_rfl
theorem eqMkT_guard : Try.prog.eqGuardType Try.prog.depth 41 = false := by kernel_rfl
theorem eqMkT_flds : ∃ f0 f1 f2 f3 f4 f5 f6 f7 f8 : Field, (Try.prog.fieldsOf 41).toList = [f0, f1, f2, f3, f4, f5, f6, f7, f8] ∧ (f0.name ≠ "_" ∧ f1.name ≠ "_" ∧ f2.name ≠ "_" ∧ f3.name ≠ "_" ∧ f4.name ≠ "_" ∧ f5.name ≠ "_" ∧ f6.name ≠ "_" ∧ f7.name ≠ "_" ∧ f8.name ≠ "_") ∧ (f0.type = 3 ∧ f1.type = 3 ∧ f2.type = 3 ∧ f3.type = 3 ∧ f4.type = 3 ∧ f5.type = 3 ∧ f6.type = 3 ∧ f7.type = 3 ∧ f8.type = 33) ∧ f0.offset = 0 ∧ f1.offset = 1 ∧ f2.offset = 2 ∧ f3.offset = 3 ∧ f4.offset = 4 ∧ f5.offset = 5 ∧ f6.offset = 6 ∧ f7.offset = 7 ∧ f8.offset = 8 := by
  unfold Program.fieldsOf
  rw [Try.underlying41]
  exact ⟨_, _, _, _, _, _, _, _, _, rfl, ⟨by decide, by decide, by decide, by decide, by decide, by decide, by decide, by decide, by decide⟩, ⟨rfl, rfl, rfl, rfl, rfl, rfl, rfl, rfl, rfl⟩, rfl, rfl, rfl, rfl, rfl, rfl, rfl, rfl, rfl⟩
theorem partMkT (w : World) (x0 : Int) (x1 : Int) (x2 : Int) (x3 : Int) (x4 : Int) (x5 : Int) (x6 : Int) (x7 : Int) (y0 : Int) (y1 : Int) (y2 : Int) (y3 : Bool) (y4 : Int) : (part 33 #[.int .i64 x0, .int .i64 x1, .int .i64 x2, .int .i64 x3, .int .i64 x4, .int .i64 x5, .int .i64 x6, .int .i64 x7, .int .i64 y0, .int .i64 y1, .int .i64 y2, .bool y3, .int .i64 y4] 8).run Try.prog w = .ok (.agg #[.int .i64 y0, .int .i64 y1, .int .i64 y2, .bool y3, .int .i64 y4]) w := by
  have hu := Try.underlying33
  have h5 : tySize Try.prog 33 = some 5 := by kernel_rfl
  simp [go_sem, part, hu]
theorem run_ne_MkT (w : World) (x0 : Int) (x1 : Int) (x2 : Int) (x3 : Int) (x4 : Int) (x5 : Int) (x6 : Int) (x7 : Int) (y0 : Int) (y1 : Int) (y2 : Int) (y3 : Bool) (y4 : Int) : (binOp .neq 41 (.agg #[.int .i64 x0, .int .i64 x1, .int .i64 x2, .int .i64 x3, .int .i64 x4, .int .i64 x5, .int .i64 x6, .int .i64 x7, .int .i64 y0, .int .i64 y1, .int .i64 y2, .bool y3, .int .i64 y4]) (.agg #[.int .i64 x0, .int .i64 x1, .int .i64 x2, .int .i64 x3, .int .i64 x4, .int .i64 x5, .int .i64 x6, .int .i64 x7, .int .i64 y0, .int .i64 y1, .int .i64 y2, .bool y3, .int .i64 y4])).run Try.prog w = .ok (.bool false) w := by
  obtain ⟨f0, f1, f2, f3, f4, f5, f6, f7, f8, hf, ⟨n0, n1, n2, n3, n4, n5, n6, n7, n8⟩, ⟨t0, t1, t2, t3, t4, t5, t6, t7, t8⟩, o0, o1, o2, o3, o4, o5, o6, o7, o8⟩ := eqMkT_flds
  obtain ⟨g0, g1, g2, g3, g4, hg, ⟨m0, m1, m2, m3, m4⟩, ⟨s0, s1, s2, s3, s4⟩, q0, q1, q2, q3, q4⟩ := eqRsT_flds
  rw [run_neq_struct, run_equalIn_struct _ _ _ _ _ eqMkT_fields eqMkT_held, hf]
  have hi := Try.underlying3
  have hi2 := Try.underlying2
  have hb := Try.underlying4
  simp [Op.eqFields, n0, t0, o0, n1, t1, o1, n2, t2, o2, n3, t3, o3, n4, t4, o4, n5, t5, o5, n6, t6, o6, n7, t7, o7, n8, t8, o8, partMkT, run_equalIn_struct _ _ _ _ _ eqRsT_fields eqRsT_held, hg, m0, m1, m2, m3, m4, s0, s1, s2, s3, s4, q0, q1, q2, q3, q4, go_sem, hi, hi2, hb]
theorem eqEvT_fields : Try.prog.underlying 35 = some (.struct (Try.prog.fieldsOf 35)) := by kernel_rfl
theorem eqEvT_held : Try.prog.stoodInHeld 35 = false := by kernel_rfl
theorem eqEvT_guard : Try.prog.eqGuardType Try.prog.depth 35 = false := by kernel_rfl
theorem eqEvT_flds : ∃ f0 f1 f2 f3 f4 : Field, (Try.prog.fieldsOf 35).toList = [f0, f1, f2, f3, f4] ∧ (f0.name ≠ "_" ∧ f1.name ≠ "_" ∧ f2.name ≠ "_" ∧ f3.name ≠ "_" ∧ f4.name ≠ "_") ∧ (f0.type = 3 ∧ f1.type = 3 ∧ f2.type = 3 ∧ f3.type = 4 ∧ f4.type = 33) ∧ f0.offset = 0 ∧ f1.offset = 1 ∧ f2.offset = 2 ∧ f3.offset = 3 ∧ f4.offset = 4 := by
  unfold Program.fieldsOf
  rw [Try.underlying35]
  exact ⟨_, _, _, _, _, rfl, ⟨by decide, by decide, by decide, by decide, by decide⟩, ⟨rfl, rfl, rfl, rfl, rfl⟩, rfl, rfl, rfl, rfl, rfl⟩
theorem partEvT (w : World) (x0 : Int) (x1 : Int) (x2 : Int) (x3 : Bool) (y0 : Int) (y1 : Int) (y2 : Int) (y3 : Bool) (y4 : Int) : (part 33 #[.int .i64 x0, .int .i64 x1, .int .i64 x2, .bool x3, .int .i64 y0, .int .i64 y1, .int .i64 y2, .bool y3, .int .i64 y4] 4).run Try.prog w = .ok (.agg #[.int .i64 y0, .int .i64 y1, .int .i64 y2, .bool y3, .int .i64 y4]) w := by
  have hu := Try.underlying33
  have h5 : tySize Try.prog 33 = some 5 := by kernel_rfl
  simp [go_sem, part, hu]
theorem run_ne_EvT (w : World) (x0 : Int) (x1 : Int) (x2 : Int) (x3 : Bool) (y0 : Int) (y1 : Int) (y2 : Int) (y3 : Bool) (y4 : Int) : (binOp .neq 35 (.agg #[.int .i64 x0, .int .i64 x1, .int .i64 x2, .bool x3, .int .i64 y0, .int .i64 y1, .int .i64 y2, .bool y3, .int .i64 y4]) (.agg #[.int .i64 x0, .int .i64 x1, .int .i64 x2, .bool x3, .int .i64 y0, .int .i64 y1, .int .i64 y2, .bool y3, .int .i64 y4])).run Try.prog w = .ok (.bool false) w := by
  obtain ⟨f0, f1, f2, f3, f4, hf, ⟨n0, n1, n2, n3, n4⟩, ⟨t0, t1, t2, t3, t4⟩, o0, o1, o2, o3, o4⟩ := eqEvT_flds
  obtain ⟨g0, g1, g2, g3, g4, hg, ⟨m0, m1, m2, m3, m4⟩, ⟨s0, s1, s2, s3, s4⟩, q0, q1, q2, q3, q4⟩ := eqRsT_flds
  rw [run_neq_struct, run_equalIn_struct _ _ _ _ _ eqEvT_fields eqEvT_held, hf]
  have hi := Try.underlying3
  have hi2 := Try.underlying2
  have hb := Try.underlying4
  simp [Op.eqFields, n0, t0, o0, n1, t1, o1, n2, t2, o2, n3, t3, o3, n4, t4, o4, partEvT, run_equalIn_struct _ _ _ _ _ eqRsT_fields eqRsT_held, hg, m0, m1, m2, m3, m4, s0, s1, s2, s3, s4, q0, q1, q2, q3, q4, go_sem, hi, hi2, hb]
theorem eqPtT_fields : Try.prog.underlying 38 = some (.struct (Try.prog.fieldsOf 38)) := by kernel_rfl
theorem eqPtT_held : Try.prog.stoodInHeld 38 = false := by kernel_rfl
theorem eqPtT_guard : Try.prog.eqGuardType Try.prog.depth 38 = false := by kernel_rfl
theorem eqPtT_flds : ∃ f0 f1 f2 : Field, (Try.prog.fieldsOf 38).toList = [f0, f1, f2] ∧ (f0.name ≠ "_" ∧ f1.name ≠ "_" ∧ f2.name ≠ "_") ∧ (f0.type = 3 ∧ f1.type = 3 ∧ f2.type = 3) ∧ f0.offset = 0 ∧ f1.offset = 1 ∧ f2.offset = 2 := by
  unfold Program.fieldsOf
  rw [Try.underlying38]
  exact ⟨_, _, _, rfl, ⟨by decide, by decide, by decide⟩, ⟨rfl, rfl, rfl⟩, rfl, rfl, rfl⟩
theorem run_ne_PtT (w : World) (x0 : Int) (x1 : Int) (x2 : Int) : (binOp .neq 38 (.agg #[.int .i64 x0, .int .i64 x1, .int .i64 x2]) (.agg #[.int .i64 x0, .int .i64 x1, .int .i64 x2])).run Try.prog w = .ok (.bool false) w := by
  obtain ⟨f0, f1, f2, hf, ⟨n0, n1, n2⟩, ⟨t0, t1, t2⟩, o0, o1, o2⟩ := eqPtT_flds
  rw [run_neq_struct, run_equalIn_struct _ _ _ _ _ eqPtT_fields eqPtT_held, hf]
  have hi := Try.underlying3
  have hi2 := Try.underlying2
  have hb := Try.underlying4
  simp [Op.eqFields, n0, t0, o0, n1, t1, o1, n2, t2, o2, go_sem, hi, hi2, hb]
def vM (x : Sx.Mk) : List Value := [.int .i64 x.g, .int .i64 x.op, .int .i64 x.call, .int .i64 x.arrive, .int .i64 x.point, .int .i64 x.wi, .int .i64 x.fire, .int .i64 x.re, .int .i64 x.res.code, .int .i64 x.res.cs, .int .i64 x.res.v, .bool x.res.ok, .int .i64 x.res.n]
theorem t_same (l : List Sx.Mk) (hs : l.length ≤ 400) : Pure Try.prog 11 [.c (.r 13 (l.map eM)), .c (.r 13 (l.map eM))] (.c (bI true)) := by
  have t0 : ((l.length : Int) != (l.length : Int)) = false := by simp
  refine Con.intro Try.func11 rfl rfl rfl (fun ok e => ?_)
  repeat (first
      | (refine K.move ?_; refine JO.q rfl rfl (Nat.le_of_ble_eq_true rfl) (Qt.move rfl) ?_)
      | (refine K.assign ?_; refine JO.q rfl rfl (Nat.le_of_ble_eq_true rfl) (Qt.assign rfl) ?_)
      | (refine K.binOp ?_; (refine JO.q rfl rfl (Nat.le_of_ble_eq_true rfl) (Qt.cmp rfl rfl (congrArg some t0)) ?_))
      | (refine K.bi ?_; (refine JO.q rfl rfl (Nat.le_of_ble_eq_true rfl) (Qt.lenM rfl) ?_))
      | refine JO.nil ?_
      | refine J.seq ?_
      | refine J.region ?_
      | refine J.block ?_
      | refine J.skip ?_
      | refine J.cond_f rfl ?_)
  refine J.loop (ι := { k : Nat // k ≤ l.length }) (fun q => [(13, .c (nI q.1)), (12, .c (nI l.length)), (0, .c (.r 13 (l.map eM))), (1, .c (.r 13 (l.map eM)))]) (fun q => []) (fun q => l.length - q.1) ⟨0, Nat.zero_le _⟩ (fun X h => h.weak ⟨rfl, rfl, rfl, rfl, trivial⟩) (fun q ih => ?_)
  obtain ⟨k, hk'⟩ := q
  simp only at hk' ih ⊢
  by_cases hk : k < l.length
  · have t1 : decide ((k : Int) < (l.length : Int)) = true := decide_eq_true (by omega)
    obtain ⟨x, hm⟩ : ∃ m, l[k]? = some m := ⟨_, List.getElem?_eq_getElem hk⟩
    have AX := s_at (enc := eM) hm
    repeat (first
        | (refine K.move ?_; refine JO.q rfl rfl (Nat.le_of_ble_eq_true rfl) (Qt.move rfl) ?_)
        | (refine K.assign ?_; refine JO.q rfl rfl (Nat.le_of_ble_eq_true rfl) (Qt.assign rfl) ?_)
        | (refine K.binOp ?_; (refine JO.q rfl rfl (Nat.le_of_ble_eq_true rfl) (Qt.cmp rfl rfl (congrArg some t1)) ?_))
        | refine JO.nil ?_
        | refine J.seq ?_
        | refine J.region ?_
        | refine J.block ?_
        | refine J.skip ?_
        | refine J.cond_t rfl ?_)
    refine J.draw (by kernel_rfl) rfl ?_
    refine JW.base none ?_
    refine JD.take 0 rfl rfl (by kernel_rfl) rfl (Nat.le_of_ble_eq_true rfl) (Qt.move rfl) rfl ?_
    refine JD.take 1 rfl rfl (by kernel_rfl) rfl (Nat.le_of_ble_eq_true rfl) (Qt.move rfl) rfl ?_
    refine JD.take 2 rfl rfl (by kernel_rfl) rfl (Nat.le_of_ble_eq_true rfl) (Qt.indexR rfl rfl (by omega) AX) rfl ?_
    (refine JD.take 3 rfl rfl (by kernel_rfl) rfl (Nat.le_of_ble_eq_true rfl) (Qt.loadW rfl .el rfl) rfl ?_)
    refine JD.take 4 rfl rfl (by kernel_rfl) rfl (Nat.le_of_ble_eq_true rfl) (Qt.move rfl) rfl ?_
    refine JD.take 5 rfl rfl (by kernel_rfl) rfl (Nat.le_of_ble_eq_true rfl) (Qt.move rfl) rfl ?_
    refine JD.take 6 rfl rfl (by kernel_rfl) rfl (Nat.le_of_ble_eq_true rfl) (Qt.indexR rfl rfl (by omega) AX) rfl ?_
    (refine JD.take 7 rfl rfl (by kernel_rfl) rfl (Nat.le_of_ble_eq_true rfl) (Qt.loadW rfl .el rfl) rfl ?_)
    refine JD.take 8 rfl rfl (by kernel_rfl) rfl (Nat.le_of_ble_eq_true rfl) (Qt.neT (vM x) rfl rfl (fun w => run_ne_MkT w _ _ _ _ _ _ _ _ _ _ _ _ _) eqMkT_guard) rfl ?_
    refine JD.done (by kernel_rfl) ?_
    repeat (first
        | (refine K.move ?_; refine JO.q rfl rfl (Nat.le_of_ble_eq_true rfl) (Qt.move rfl) ?_)
        | (refine K.binOp ?_; (refine JO.q rfl rfl (Nat.le_of_ble_eq_true rfl) (Qt.ari rfl rfl rfl (w64 (by omega) (by omega))) ?_))
        | refine JO.nil ?_
        | refine J.region ?_
        | refine J.inBlock ?_
        | refine J.skip ?_
        | refine J.cond_f rfl ?_)
    exact (ih ⟨k + 1, by omega⟩ (by simp only; omega)).weak ⟨rfl, rfl, rfl, rfl, trivial⟩
  · obtain rfl : k = l.length := by omega
    have t1 : decide ((l.length : Int) < (l.length : Int)) = false := decide_eq_false (by omega)
    repeat (first
        | (refine K.assign ?_; refine JO.q rfl rfl (Nat.le_of_ble_eq_true rfl) (Qt.assign rfl) ?_)
        | (refine K.binOp ?_; (refine JO.q rfl rfl (Nat.le_of_ble_eq_true rfl) (Qt.cmp rfl rfl (congrArg some t1)) ?_))
        | refine JO.nil ?_
        | refine J.seq ?_
        | refine J.region ?_
        | refine J.exit rfl ?_
        | refine J.cond_f rfl ?_)
    exact J.ret Try.func11 rfl (.cons (.tmp rfl) .nil) () (by (exact .refl)) [] .nil rfl rfl
end Fl
end Go.Proofs.Ytgjpdogjekmemaa
