/-
  The walk of the law TaleTells.
  Conditions: none.
-/
import Derived.Test.YtgjpdogjekmemaaTalD
import Derived.Test.YtgjpdogjekmemaaTalE
import Derived.Test.YtgjpdogjekmemaaTalF
import Derived.Test.YtgjpdogjekmemaaOpM
namespace Go.Proofs.Ytgjpdogjekmemaa
open Go.RowKit
set_option linter.unusedVariables false
set_option linter.unusedSimpArgs false
set_option linter.unnecessarySimpa false
namespace Fl
set_option maxRecDepth 100000
set_option maxHeartbeats 4000000
def vEv (x : Ta.Ev) : List Value := [.int .i64 x.step, .int .i64 x.g, .int .i64 x.op, .bool x.ans, .int .i64 x.res.code, .int .i64 x.res.cs, .int .i64 x.res.v, .bool x.res.ok, .int .i64 x.res.n]
def vPt (x : Ta.Pt) : List Value := [.int .i64 x.step, .int .i64 x.kind, .int .i64 x.at_]
theorem t_tells (l : List Sx.Mk) (s : Int) : Pure Try.prog 3 [.c (.r 13 (l.map eM)), .c (nI s)] (.c (bI true)) := by
  have CA := t_alive
  refine Con.intro Try.func3 rfl rfl rfl (fun ok e => ?_)
  by_cases h : 200 < l.length
  · have t0 : decide ((l.length : Int) > 200) = true := decide_eq_true (by omega)
    repeat (first
        | (refine K.move ?_; refine JO.q rfl rfl (Nat.le_of_ble_eq_true rfl) (Qt.move rfl) ?_)
        | (refine K.assign ?_; refine JO.q rfl rfl (Nat.le_of_ble_eq_true rfl) (Qt.assign rfl) ?_)
        | (refine K.binOp ?_; (refine JO.q rfl rfl (Nat.le_of_ble_eq_true rfl) (Qt.cmp rfl rfl (congrArg some t0)) ?_))
        | (refine K.call ?_; (refine JO.pure (CA) rfl (Nat.le_of_ble_eq_true rfl) rfl ?_ ?_; focus ((repeat ((exact LeDs.nil))); done)))
        | (refine K.unOp ?_; refine JO.q rfl rfl (Nat.le_of_ble_eq_true rfl) (Qt.not rfl) ?_)
        | (refine K.bi ?_; (refine JO.q rfl rfl (Nat.le_of_ble_eq_true rfl) (Qt.lenM rfl) ?_))
        | refine JO.nil ?_
        | refine J.seq ?_
        | refine J.region ?_
        | refine J.skip ?_
        | refine J.cond_t rfl ?_
        | refine J.cond_f rfl ?_)
    exact J.ret Try.func3 rfl (.cons (.tmp rfl) .nil) () (by (exact .refl)) [] .nil rfl rfl
  have t0 : decide ((l.length : Int) > 200) = false := decide_eq_false (by omega)
  have C1 := t_history l (by omega)
  have C2 := t_refHistory l (by omega)
  have C3 := t_points l (by omega)
  have C4 := t_refPoints l (by omega)
  have C5 := t_upto l s (by omega)
  have C6 := t_refUpto l s (by omega)
  have lu := Ta.up_len s l
  have C7 := t_same (l.flatMap (Ta.up s)) (by omega)
  have lh : (Ta.hist l).length ≤ 400 := by have := Ta.evs_len l; unfold Ta.hist; rw [Ss.srt_len]; omega
  have lp : (Ta.points l).length ≤ 400 := by have := Ta.ptsTo_len l l.length; unfold Ta.points; rw [Ss.srt_len]; omega
  generalize Ta.hist l = hh at C1 C2 lh
  generalize Ta.points l = pp at C3 C4 lp
  have t3 : ((hh.length : Int) != (hh.length : Int)) = false := by simp
  have t4 : ((pp.length : Int) != (pp.length : Int)) = false := by simp
  repeat (first
      | (refine K.move ?_; refine JO.q rfl rfl (Nat.le_of_ble_eq_true rfl) (Qt.move rfl) ?_)
      | (refine K.assign ?_; refine JO.q rfl rfl (Nat.le_of_ble_eq_true rfl) (Qt.assign rfl) ?_)
      | (refine K.binOp ?_; first | refine JO.q rfl rfl (Nat.le_of_ble_eq_true rfl) (Qt.cmp rfl rfl (congrArg some t0)) ?_ | refine JO.q rfl rfl (Nat.le_of_ble_eq_true rfl) (Qt.cmp rfl rfl (congrArg some t3)) ?_ | refine JO.q rfl rfl (Nat.le_of_ble_eq_true rfl) (Qt.cmp rfl rfl (congrArg some t4)) ?_)
      | (refine K.call ?_; first | (refine JO.pure (CA) rfl (Nat.le_of_ble_eq_true rfl) rfl ?_ ?_; focus ((repeat ((exact LeDs.nil))); done)) | (refine JO.pure (C1) rfl (Nat.le_of_ble_eq_true rfl) rfl ?_ ?_; focus ((repeat (first | exact LeDs.nil | refine LeDs.cons LeD.refl ?_)); done)) | (refine JO.pure (C2) rfl (Nat.le_of_ble_eq_true rfl) rfl ?_ ?_; focus ((repeat (first | exact LeDs.nil | refine LeDs.cons LeD.refl ?_)); done)) | (refine JO.pure (C3) rfl (Nat.le_of_ble_eq_true rfl) rfl ?_ ?_; focus ((repeat (first | exact LeDs.nil | refine LeDs.cons LeD.refl ?_)); done)) | (refine JO.pure (C4) rfl (Nat.le_of_ble_eq_true rfl) rfl ?_ ?_; focus ((repeat (first | exact LeDs.nil | refine LeDs.cons LeD.refl ?_)); done)))
      | (refine K.unOp ?_; refine JO.q rfl rfl (Nat.le_of_ble_eq_true rfl) (Qt.not rfl) ?_)
      | (refine K.bi ?_; (refine JO.q rfl rfl (Nat.le_of_ble_eq_true rfl) (Qt.lenM rfl) ?_))
      | (refine K.pick ?_; refine JO.q rfl rfl (Nat.le_of_ble_eq_true rfl) (Qt.pick rfl rfl) ?_)
      | refine JO.nil ?_
      | refine J.seq ?_
      | refine J.region ?_
      | refine J.block ?_
      | refine J.skip ?_
      | refine J.cond_f rfl ?_)
  refine J.loop (ι := { k : Nat // k ≤ hh.length }) (fun q => [(42, .c (nI q.1)), (41, .c (nI hh.length)), (5, .c (.r 9 (hh.map eEv))), (6, .c (.r 9 (hh.map eEv))), (7, .c (.r 3 (pp.map ePt))), (8, .c (.r 3 (pp.map ePt))), (0, .c (.r 13 (l.map eM))), (1, .c (nI s))]) (fun q => []) (fun q => hh.length - q.1) ⟨0, Nat.zero_le _⟩ (fun X h => h.weak ⟨rfl, rfl, rfl, rfl, rfl, rfl, rfl, rfl, trivial⟩) (fun q ih => ?_)
  obtain ⟨k, hk'⟩ := q
  simp only at hk' ih ⊢
  by_cases hk : k < hh.length
  · have t1 : decide ((k : Int) < (hh.length : Int)) = true := decide_eq_true (by omega)
    obtain ⟨x, hm⟩ : ∃ m, hh[k]? = some m := ⟨_, List.getElem?_eq_getElem hk⟩
    have AX := s_at (enc := eEv) hm
    repeat (first
        | (refine K.move ?_; refine JO.q rfl rfl (Nat.le_of_ble_eq_true rfl) (Qt.move rfl) ?_)
        | (refine K.assign ?_; refine JO.q rfl rfl (Nat.le_of_ble_eq_true rfl) (Qt.assign rfl) ?_)
        | (refine K.binOp ?_; (refine JO.q rfl rfl (Nat.le_of_ble_eq_true rfl) (Qt.cmp rfl rfl (congrArg some t1)) ?_))
        | refine JO.nil ?_
        | refine J.seq ?_
        | refine J.region ?_
        | refine J.block ?_
        | refine J.skip ?_
        | refine J.cond_t rfl ?_)
    refine J.draw (by kernel_rfl) rfl ?_
    refine JW.base none ?_
    refine JD.take 0 rfl rfl (by kernel_rfl) rfl (Nat.le_of_ble_eq_true rfl) (Qt.move rfl) rfl ?_
    refine JD.take 1 rfl rfl (by kernel_rfl) rfl (Nat.le_of_ble_eq_true rfl) (Qt.move rfl) rfl ?_
    refine JD.take 2 rfl rfl (by kernel_rfl) rfl (Nat.le_of_ble_eq_true rfl) (Qt.indexR rfl rfl (by omega) AX) rfl ?_
    (refine JD.take 3 rfl rfl (by kernel_rfl) rfl (Nat.le_of_ble_eq_true rfl) (Qt.loadW rfl .el rfl) rfl ?_)
    refine JD.take 4 rfl rfl (by kernel_rfl) rfl (Nat.le_of_ble_eq_true rfl) (Qt.move rfl) rfl ?_
    refine JD.take 5 rfl rfl (by kernel_rfl) rfl (Nat.le_of_ble_eq_true rfl) (Qt.move rfl) rfl ?_
    refine JD.take 6 rfl rfl (by kernel_rfl) rfl (Nat.le_of_ble_eq_true rfl) (Qt.indexR rfl rfl (by omega) AX) rfl ?_
    (refine JD.take 7 rfl rfl (by kernel_rfl) rfl (Nat.le_of_ble_eq_true rfl) (Qt.loadW rfl .el rfl) rfl ?_)
    refine JD.take 8 rfl rfl (by kernel_rfl) rfl (Nat.le_of_ble_eq_true rfl) (Qt.neT (vEv x) rfl rfl (fun w => run_ne_EvT w _ _ _ _ _ _ _ _ _) eqEvT_guard) rfl ?_
    refine JD.done (by kernel_rfl) ?_
    repeat (first
        | (refine K.move ?_; refine JO.q rfl rfl (Nat.le_of_ble_eq_true rfl) (Qt.move rfl) ?_)
        | (refine K.binOp ?_; (refine JO.q rfl rfl (Nat.le_of_ble_eq_true rfl) (Qt.ari rfl rfl rfl (w64 (by omega) (by omega))) ?_))
        | refine JO.nil ?_
        | refine J.region ?_
        | refine J.inBlock ?_
        | refine J.skip ?_
        | refine J.cond_f rfl ?_)
    exact (ih ⟨k + 1, by omega⟩ (by simp only; omega)).weak ⟨rfl, rfl, rfl, rfl, rfl, rfl, rfl, rfl, trivial⟩
  obtain rfl : k = hh.length := by omega
  have t1 : decide ((hh.length : Int) < (hh.length : Int)) = false := decide_eq_false (by omega)
  clear ih
  repeat (first
      | (refine K.move ?_; refine JO.q rfl rfl (Nat.le_of_ble_eq_true rfl) (Qt.move rfl) ?_)
      | (refine K.binOp ?_; (refine JO.q rfl rfl (Nat.le_of_ble_eq_true rfl) (Qt.cmp rfl rfl (congrArg some t1)) ?_))
      | (refine K.bi ?_; (refine JO.q rfl rfl (Nat.le_of_ble_eq_true rfl) (Qt.lenM rfl) ?_))
      | refine JO.nil ?_
      | refine J.seq ?_
      | refine J.region ?_
      | refine J.block ?_
      | refine J.exit rfl ?_
      | refine J.cond_f rfl ?_)
  refine J.loop (ι := { k : Nat // k ≤ pp.length }) (fun q => [(57, .c (nI q.1)), (56, .c (nI pp.length)), (7, .c (.r 3 (pp.map ePt))), (8, .c (.r 3 (pp.map ePt))), (0, .c (.r 13 (l.map eM))), (1, .c (nI s))]) (fun q => []) (fun q => pp.length - q.1) ⟨0, Nat.zero_le _⟩ (fun X h => h.weak ⟨rfl, rfl, rfl, rfl, rfl, rfl, trivial⟩) (fun q ih => ?_)
  obtain ⟨k, hk'⟩ := q
  simp only at hk' ih ⊢
  by_cases hk : k < pp.length
  · have t1 : decide ((k : Int) < (pp.length : Int)) = true := decide_eq_true (by omega)
    obtain ⟨x, hm⟩ : ∃ m, pp[k]? = some m := ⟨_, List.getElem?_eq_getElem hk⟩
    have AX := s_at (enc := ePt) hm
    repeat (first
        | (refine K.move ?_; refine JO.q rfl rfl (Nat.le_of_ble_eq_true rfl) (Qt.move rfl) ?_)
        | (refine K.assign ?_; refine JO.q rfl rfl (Nat.le_of_ble_eq_true rfl) (Qt.assign rfl) ?_)
        | (refine K.binOp ?_; (refine JO.q rfl rfl (Nat.le_of_ble_eq_true rfl) (Qt.cmp rfl rfl (congrArg some t1)) ?_))
        | refine JO.nil ?_
        | refine J.seq ?_
        | refine J.region ?_
        | refine J.block ?_
        | refine J.skip ?_
        | refine J.cond_t rfl ?_)
    refine J.draw (by kernel_rfl) rfl ?_
    refine JW.base none ?_
    refine JD.take 0 rfl rfl (by kernel_rfl) rfl (Nat.le_of_ble_eq_true rfl) (Qt.move rfl) rfl ?_
    refine JD.take 1 rfl rfl (by kernel_rfl) rfl (Nat.le_of_ble_eq_true rfl) (Qt.move rfl) rfl ?_
    refine JD.take 2 rfl rfl (by kernel_rfl) rfl (Nat.le_of_ble_eq_true rfl) (Qt.indexR rfl rfl (by omega) AX) rfl ?_
    (refine JD.take 3 rfl rfl (by kernel_rfl) rfl (Nat.le_of_ble_eq_true rfl) (Qt.loadW rfl .el rfl) rfl ?_)
    refine JD.take 4 rfl rfl (by kernel_rfl) rfl (Nat.le_of_ble_eq_true rfl) (Qt.move rfl) rfl ?_
    refine JD.take 5 rfl rfl (by kernel_rfl) rfl (Nat.le_of_ble_eq_true rfl) (Qt.move rfl) rfl ?_
    refine JD.take 6 rfl rfl (by kernel_rfl) rfl (Nat.le_of_ble_eq_true rfl) (Qt.indexR rfl rfl (by omega) AX) rfl ?_
    (refine JD.take 7 rfl rfl (by kernel_rfl) rfl (Nat.le_of_ble_eq_true rfl) (Qt.loadW rfl .el rfl) rfl ?_)
    refine JD.take 8 rfl rfl (by kernel_rfl) rfl (Nat.le_of_ble_eq_true rfl) (Qt.neT (vPt x) rfl rfl (fun w => run_ne_PtT w _ _ _) eqPtT_guard) rfl ?_
    refine JD.done (by kernel_rfl) ?_
    repeat (first
        | (refine K.move ?_; refine JO.q rfl rfl (Nat.le_of_ble_eq_true rfl) (Qt.move rfl) ?_)
        | (refine K.binOp ?_; (refine JO.q rfl rfl (Nat.le_of_ble_eq_true rfl) (Qt.ari rfl rfl rfl (w64 (by omega) (by omega))) ?_))
        | refine JO.nil ?_
        | refine J.region ?_
        | refine J.inBlock ?_
        | refine J.skip ?_
        | refine J.cond_f rfl ?_)
    exact (ih ⟨k + 1, by omega⟩ (by simp only; omega)).weak ⟨rfl, rfl, rfl, rfl, rfl, rfl, trivial⟩
  obtain rfl : k = pp.length := by omega
  have t1 : decide ((pp.length : Int) < (pp.length : Int)) = false := decide_eq_false (by omega)
  clear ih
  repeat (first
      | (refine K.move ?_; refine JO.q rfl rfl (Nat.le_of_ble_eq_true rfl) (Qt.move rfl) ?_)
      | (refine K.binOp ?_; (refine JO.q rfl rfl (Nat.le_of_ble_eq_true rfl) (Qt.cmp rfl rfl (congrArg some t1)) ?_))
      | (refine K.bi ?_; (refine JO.q rfl rfl (Nat.le_of_ble_eq_true rfl) (Qt.lenM rfl) ?_))
      | refine JO.nil ?_
      | refine J.seq ?_
      | refine J.region ?_
      | refine J.block ?_
      | refine J.exit rfl ?_
      | refine J.cond_f rfl ?_)
  refine J.loop (ι := { k : Nat // k ≤ l.length }) (fun q => [(72, .c (nI q.1)), (71, .c (nI l.length)), (70, .c (.r 13 (l.map eM))), (0, .c (.r 13 (l.map eM))), (1, .c (nI s))]) (fun q => []) (fun q => l.length - q.1) ⟨0, Nat.zero_le _⟩ (fun X h => h.weak ⟨rfl, rfl, rfl, rfl, rfl, trivial⟩) (fun q ih => ?_)
  obtain ⟨k, hk'⟩ := q
  simp only at hk' ih ⊢
  by_cases hk : k < l.length
  · have t1 : decide ((k : Int) < (l.length : Int)) = true := decide_eq_true (by omega)
    obtain ⟨x, hm⟩ : ∃ m, l[k]? = some m := ⟨_, List.getElem?_eq_getElem hk⟩
    have AX := s_at (enc := eM) hm
    repeat (first
        | (refine K.load ?_; (refine JO.q rfl rfl (Nat.le_of_ble_eq_true rfl) (Qt.loadW rfl .el rfl) ?_))
        | (refine K.move ?_; refine JO.q rfl rfl (Nat.le_of_ble_eq_true rfl) (Qt.move rfl) ?_)
        | (refine K.store ?_; (refine JO.ld (Ld.storeW rfl rfl rfl (by exact rfl) (by exact rfl)) rfl (fun _ => ?_)))
        | (refine K.indexAddr ?_; refine JO.q rfl rfl (Nat.le_of_ble_eq_true rfl) (Qt.indexR rfl rfl (by omega) (AX)) ?_)
        | (refine K.binOp ?_; (refine JO.q rfl rfl (Nat.le_of_ble_eq_true rfl) (Qt.cmp rfl rfl (congrArg some t1)) ?_))
        | (refine K.bi ?_; (refine JO.q rfl rfl (Nat.le_of_ble_eq_true rfl) (Qt.lenM rfl) ?_))
        | (refine JO.alloc rfl (Nat.le_of_ble_eq_true rfl) ?_; intro _)
        | refine JO.nil ?_
        | refine J.seq ?_
        | refine J.region ?_
        | refine J.block ?_
        | refine J.skip ?_
        | refine J.cond_t rfl ?_)
    rename_i b _
    refine J.loop (ι := { j : Nat // j ≤ l.length }) (fun q => [(78, .c (nI q.1)), (77, .c (nI l.length)), (76, .c (.r 13 (l.map eM))), (12, .c (.v (.pointer (some ⟨b, 0, none⟩)))), (72, .c (nI k)), (71, .c (nI l.length)), (70, .c (.r 13 (l.map eM))), (0, .c (.r 13 (l.map eM))), (1, .c (nI s))]) (fun q => [.box b 41 (eM x)]) (fun q => l.length - q.1) ⟨0, Nat.zero_le _⟩ (fun X h => h.weak ⟨rfl, rfl, rfl, rfl, rfl, rfl, rfl, rfl, rfl, trivial⟩) (fun q ih2 => ?_)
    obtain ⟨j, hj'⟩ := q
    simp only at hj' ih2 ⊢
    by_cases hj : j < l.length
    · have t2 : decide ((j : Int) < (l.length : Int)) = true := decide_eq_true (by omega)
      obtain ⟨y, hm2⟩ : ∃ m, l[j]? = some m := ⟨_, List.getElem?_eq_getElem hj⟩
      have AY := s_at (enc := eM) hm2
      have CB := t_before x y
      repeat (first
          | (refine K.load ?_; (refine JO.q rfl rfl (Nat.le_of_ble_eq_true rfl) (Qt.loadW rfl .el rfl) ?_))
          | (refine K.store ?_; (refine JO.ld (Ld.storeW rfl rfl rfl (by exact rfl) (by exact rfl)) rfl (fun _ => ?_)))
          | (refine K.indexAddr ?_; refine JO.q rfl rfl (Nat.le_of_ble_eq_true rfl) (Qt.indexR rfl rfl (by omega) (AY)) ?_)
          | (refine K.binOp ?_; (refine JO.q rfl rfl (Nat.le_of_ble_eq_true rfl) (Qt.cmp rfl rfl (congrArg some t2)) ?_))
          | (refine JO.alloc rfl (Nat.le_of_ble_eq_true rfl) ?_; intro _)
          | refine JO.nil ?_
          | refine J.seq ?_
          | refine J.region ?_
          | refine J.block ?_
          | refine J.skip ?_
          | refine J.cond_t rfl ?_)
      cases t5 : (x.re != 0) <;> cases t6 : decide (x.re < y.call)
      all_goals
        rw [t5, t6] at CB
        refine J.draw (by kernel_rfl) rfl ?_
        refine JW.base none ?_
        (refine JD.take 0 rfl rfl (by kernel_rfl) rfl (Nat.le_of_ble_eq_true rfl) (Qt.loadWb rfl (by exact rfl)) rfl ?_)
        (refine JD.take 1 rfl rfl (by kernel_rfl) rfl (Nat.le_of_ble_eq_true rfl) (Qt.loadWb rfl (by exact rfl)) rfl ?_)
        refine JD.take 3 rfl rfl (by kernel_rfl) rfl (Nat.le_of_ble_eq_true rfl) (Qt.fieldAddr rfl rfl) rfl ?_
        (refine JD.take 4 rfl rfl (by kernel_rfl) rfl (Nat.le_of_ble_eq_true rfl) (Qt.load1b rfl (by exact rfl)) rfl ?_)
        refine JD.take 5 rfl rfl (by kernel_rfl) rfl (Nat.le_of_ble_eq_true rfl) (Qt.cmp rfl rfl (congrArg some t5)) rfl ?_
        refine JD.each1 (i := 2) (by kernel_rfl) ?_
        refine JS.loud rfl rfl rfl (Nat.le_of_ble_eq_true rfl) (Ld.pure (CB) (Nat.le_of_ble_eq_true rfl) rfl (by repeat (first | exact LeDs.nil | refine LeDs.cons (LeD.agg (by repeat (first | exact .nil | refine .cons .refl ?_))) ?_))) (by (exact .none)) (fun _ => ?_)
        refine JD.each1 (i := 6) (by kernel_rfl) ?_
        refine JS.q rfl rfl rfl (Nat.le_of_ble_eq_true rfl) (Qt.move rfl) ?_
        refine JD.rebase ?_
        first
          | refine JD.take 7 rfl rfl (by kernel_rfl) rfl (Nat.le_of_ble_eq_true rfl) (Qt.fieldAddr rfl rfl) rfl ?_
          | refine JD.skip 7 rfl rfl (by kernel_rfl) rfl (Nat.le_of_ble_eq_true rfl) ?_
        first
          | refine JD.take 8 rfl rfl (by kernel_rfl) rfl (Nat.le_of_ble_eq_true rfl) (Qt.load1b rfl (by exact rfl)) rfl ?_
          | refine JD.skip 8 rfl rfl (by kernel_rfl) rfl (Nat.le_of_ble_eq_true rfl) ?_
        first
          | refine JD.take 9 rfl rfl (by kernel_rfl) rfl (Nat.le_of_ble_eq_true rfl) (Qt.fieldAddr rfl rfl) rfl ?_
          | refine JD.skip 9 rfl rfl (by kernel_rfl) rfl (Nat.le_of_ble_eq_true rfl) ?_
        first
          | refine JD.take 10 rfl rfl (by kernel_rfl) rfl (Nat.le_of_ble_eq_true rfl) (Qt.load1b rfl (by exact rfl)) rfl ?_
          | refine JD.skip 10 rfl rfl (by kernel_rfl) rfl (Nat.le_of_ble_eq_true rfl) ?_
        first
          | refine JD.take 11 rfl rfl (by kernel_rfl) rfl (Nat.le_of_ble_eq_true rfl) (Qt.cmp rfl rfl (congrArg some t6)) rfl ?_
          | refine JD.skip 11 rfl rfl (by kernel_rfl) rfl (Nat.le_of_ble_eq_true rfl) ?_
        refine JD.each1 (i := 12) (by kernel_rfl) ?_
        refine JS.q rfl rfl rfl (Nat.le_of_ble_eq_true rfl) (Qt.pick rfl rfl) ?_
        refine JD.each1 (i := 13) (by kernel_rfl) ?_
        (refine JS.q rfl rfl rfl (Nat.le_of_ble_eq_true rfl) (Qt.neB rfl rfl) ?_)
        refine JD.done (by kernel_rfl) ?_
        repeat (first
            | (refine K.move ?_; refine JO.q rfl rfl (Nat.le_of_ble_eq_true rfl) (Qt.move rfl) ?_)
            | (refine K.binOp ?_; (refine JO.q rfl rfl (Nat.le_of_ble_eq_true rfl) (Qt.ari rfl rfl rfl (w64 (by omega) (by omega))) ?_))
            | refine JO.nil ?_
            | refine J.region ?_
            | refine J.inBlock ?_
            | refine J.skip ?_
            | refine J.cond_f rfl ?_)
        refine J.dropN 0 ?_
        exact (ih2 ⟨j + 1, by omega⟩ (by simp only; omega)).weak ⟨rfl, rfl, rfl, rfl, rfl, rfl, rfl, rfl, rfl, trivial⟩
    · have t2 : decide ((j : Int) < (l.length : Int)) = false := decide_eq_false (by omega)
      repeat (first
          | (refine K.move ?_; refine JO.q rfl rfl (Nat.le_of_ble_eq_true rfl) (Qt.move rfl) ?_)
          | (refine K.binOp ?_; first | refine JO.q rfl rfl (Nat.le_of_ble_eq_true rfl) (Qt.cmp rfl rfl (congrArg some t2)) ?_ | refine JO.q rfl rfl (Nat.le_of_ble_eq_true rfl) (Qt.ari rfl rfl rfl (w64 (by omega) (by omega))) ?_)
          | refine JO.nil ?_
          | refine J.seq ?_
          | refine J.region ?_
          | refine J.inBlock ?_
          | refine J.exit rfl ?_
          | refine J.cond_f rfl ?_)
      refine J.dropN 0 ?_
      exact (ih ⟨k + 1, by omega⟩ (by simp only; omega)).weak ⟨rfl, rfl, rfl, rfl, rfl, trivial⟩
  have t1 : decide ((k : Int) < (l.length : Int)) = false := decide_eq_false (by omega)
  repeat (first
      | (refine K.move ?_; refine JO.q rfl rfl (Nat.le_of_ble_eq_true rfl) (Qt.move rfl) ?_)
      | (refine K.assign ?_; refine JO.q rfl rfl (Nat.le_of_ble_eq_true rfl) (Qt.assign rfl) ?_)
      | (refine K.binOp ?_; (refine JO.q rfl rfl (Nat.le_of_ble_eq_true rfl) (Qt.cmp rfl rfl (congrArg some t1)) ?_))
      | (refine K.call ?_; first | (refine JO.pure (C5) rfl (Nat.le_of_ble_eq_true rfl) rfl ?_ ?_; focus ((repeat (first | exact LeDs.nil | refine LeDs.cons LeD.refl ?_)); done)) | (refine JO.pure (C6) rfl (Nat.le_of_ble_eq_true rfl) rfl ?_ ?_; focus ((repeat (first | exact LeDs.nil | refine LeDs.cons LeD.refl ?_)); done)) | (refine JO.pure (C7) rfl (Nat.le_of_ble_eq_true rfl) rfl ?_ ?_; focus ((repeat (first | exact LeDs.nil | refine LeDs.cons LeD.refl ?_)); done)))
      | refine JO.nil ?_
      | refine J.seq ?_
      | refine J.region ?_
      | refine J.exit rfl ?_
      | refine J.cond_f rfl ?_)
  exact J.ret Try.func3 rfl (.cons (.tmp rfl) .nil) () (by (exact .refl)) [] .nil rfl rfl
theorem taleTells_walk (w : World) (v : Value) (l : List Sx.Mk) (S : List Nat) (hl : GV markE 13 w v l S) (n : Int) (wn : (Lit.int .i64 n).wf = true) :
    Calls Try.prog 3 #[v, .int .i64 n] w fun e w' => e = .returned (.bool true) ∧ Keeps [] w w' :=
  law1 (t_tells l n) (xs := [v, .int .i64 n]) (RDs.cons (by unfold RD; exact si_mark.ra hl fun _ _ => trivial) (RDs.cons (RD.v rfl) RDs.nil))
end Fl
end Go.Proofs.Ytgjpdogjekmemaa
