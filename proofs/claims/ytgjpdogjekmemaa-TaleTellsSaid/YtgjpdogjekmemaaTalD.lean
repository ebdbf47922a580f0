/-
  What is told up to a step; Before.
  Conditions: none.
-/
import Derived.Test.YtgjpdogjekmemaaTalC
namespace Go.Proofs.Ytgjpdogjekmemaa
open Go.RowKit
set_option linter.unusedVariables false
set_option linter.unusedSimpArgs false
set_option linter.unnecessarySimpa false
namespace Ta
def md (b1 b2 b3 : Bool) (m : Sx.Mk) : Sx.Mk := { g := m.g, op := m.op, call := m.call, arrive := if b2 then 0 else m.arrive, point := if b3 then 0 else m.point, wi := if b3 then -1 else m.wi, fire := if b3 then -1 else m.fire, re := if b1 then 0 else m.re, res := if b1 then ⟨0, -1, 0, false, 0⟩ else m.res }
def up (s : Int) (m : Sx.Mk) : List Sx.Mk := if decide (m.call > s) then [] else [md (decide (m.re > s)) (decide (m.arrive > s)) (decide (m.point > s)) m]
theorem up_len (s : Int) : ∀ l : List Sx.Mk, (l.flatMap (up s)).length ≤ l.length
  | [] => Nat.le_refl _
  | m :: l => by
    have := up_len s l
    have h : (up s m).length ≤ 1 := by unfold up; split <;> simp
    simp only [List.flatMap_cons, List.length_append, List.length_cons]; omega
end Ta
namespace Fl
set_option maxRecDepth 100000
set_option maxHeartbeats 4000000
theorem t_before (a b : Sx.Mk) : Pure Try.prog 10 [.agg (eM a), .agg (eM b)] (.c (bI ((a.re != 0) && decide (a.re < b.call)))) := by
  refine Con.intro Try.func10 rfl rfl rfl (fun ok e => ?_)
  cases t2 : (a.re != 0) <;> cases t3 : decide (a.re < b.call)
  all_goals
    repeat (first
        | (refine K.fieldAddr ?_; refine JO.q rfl rfl (Nat.le_of_ble_eq_true rfl) (Qt.fieldAddr rfl rfl) ?_)
        | (refine K.load ?_; (refine JO.q rfl rfl (Nat.le_of_ble_eq_true rfl) (Qt.load1b rfl (by exact rfl)) ?_))
        | (refine K.move ?_; refine JO.q rfl rfl (Nat.le_of_ble_eq_true rfl) (Qt.move rfl) ?_)
        | (refine K.assign ?_; refine JO.q rfl rfl (Nat.le_of_ble_eq_true rfl) (Qt.assign rfl) ?_)
        | (refine K.binOp ?_; first | refine JO.q rfl rfl (Nat.le_of_ble_eq_true rfl) (Qt.cmp rfl rfl (congrArg some t2)) ?_ | refine JO.q rfl rfl (Nat.le_of_ble_eq_true rfl) (Qt.cmp rfl rfl (congrArg some t3)) ?_)
        | (refine JO.box rfl (Nat.le_of_ble_eq_true rfl) rfl rfl ?_; intro _)
        | (refine K.pick ?_; refine JO.q rfl rfl (Nat.le_of_ble_eq_true rfl) (Qt.pick rfl rfl) ?_)
        | refine JO.nil ?_
        | refine J.seq ?_
        | refine J.region ?_
        | refine JO.no rfl rfl (Nat.le_of_ble_eq_true rfl) ?_)
    (exact J.retE [_, _] rfl Try.func10 rfl (.cons (.tmp rfl) .nil) () (by (exact .refl)) rfl)
theorem t_upto (l : List Sx.Mk) (s : Int) (hs : l.length ≤ 400) : Pure Try.prog 12 [.c (.r 13 (l.map eM)), .c (nI s)] (.c (.r 13 ((l.flatMap (Ta.up s)).map eM))) := by
  refine Con.intro Try.func12 rfl rfl rfl (fun ok e => ?_)
  repeat (first
      | (refine K.move ?_; refine JO.q rfl rfl (Nat.le_of_ble_eq_true rfl) (Qt.move rfl) ?_)
      | (refine K.assign ?_; refine JO.q rfl rfl (Nat.le_of_ble_eq_true rfl) (Qt.assign rfl) ?_)
      | (refine K.bi ?_; (refine JO.q rfl rfl (Nat.le_of_ble_eq_true rfl) (Qt.lenM rfl) ?_))
      | refine JO.nil ?_
      | refine J.seq ?_
      | refine J.region ?_
      | refine J.block ?_)
  refine J.nilR 41 13 ?_
  refine J.loop (ι := { q : Nat × Value // q.1 ≤ l.length }) (fun q => [(10, .c (nI q.1.1)), (9, .c (nI l.length)), (8, .c (.r 13 (l.map eM))), (5, .c (.v q.1.2)), (1, .c (nI s))]) (fun q => [.row q.1.2 41 13 (((l.take q.1.1).flatMap (Ta.up s)).map eM)]) (fun q => l.length - q.1.1) ⟨(0, .slice none 0 0), Nat.zero_le _⟩ (fun X h => h.weak ⟨rfl, rfl, rfl, rfl, rfl, trivial⟩) (fun q ih => ?_)
  obtain ⟨⟨k, v⟩, hk'⟩ := q
  simp only at hk' ih ⊢
  by_cases hk : k < l.length
  · have t1 : decide ((k : Int) < (l.length : Int)) = true := decide_eq_true (by omega)
    obtain ⟨m, hm⟩ : ∃ m, l[k]? = some m := ⟨_, List.getElem?_eq_getElem hk⟩
    have AX := s_at (enc := eM) hm
    have fe := Ta.up_len s (l.take k)
    have ft := List.length_take_le k l
    have fs := Ta.flat_snoc (f := Ta.up s) hm
    have n1 : (((l.take k).flatMap (Ta.up s)).map eM).length = ((l.take k).flatMap (Ta.up s)).length := List.length_map ..
    generalize hE : ((l.take k).flatMap (Ta.up s)).map eM = E at n1 ⊢
    have ev : Ta.up s m = if decide (m.call > s) then [] else [Ta.md (decide (m.re > s)) (decide (m.arrive > s)) (decide (m.point > s)) m] := rfl
    cases t2 : decide (m.call > s)
    · cases t3 : decide (m.re > s) <;> cases t4 : decide (m.arrive > s) <;> cases t5 : decide (m.point > s)
      all_goals
        rw [ev, t2, t3, t4, t5, if_neg (by simp)] at fs
        repeat (first
            | (refine K.fieldAddr ?_; refine JO.q rfl rfl (Nat.le_of_ble_eq_true rfl) (Qt.fieldAddr rfl rfl) ?_)
            | (refine K.load ?_; first | refine JO.q rfl rfl (Nat.le_of_ble_eq_true rfl) (Qt.loadW rfl .el rfl) ?_ | refine JO.q rfl rfl (Nat.le_of_ble_eq_true rfl) (Qt.load1b rfl (by exact rfl)) ?_ | refine JO.q rfl rfl (Nat.le_of_ble_eq_true rfl) (Qt.loadWb rfl (by exact rfl)) ?_)
            | (refine K.move ?_; refine JO.q rfl rfl (Nat.le_of_ble_eq_true rfl) (Qt.move rfl) ?_)
            | (refine K.store ?_; first | refine JO.ld (Ld.storeW rfl rfl rfl (by exact rfl) (by exact rfl)) rfl (fun _ => ?_) | refine JO.ld (Ld.store1 rfl rfl (by exact rfl)) rfl (fun _ => ?_) | refine JO.ld (Ld.storeN rfl rfl rfl (by exact rfl) (by exact rfl)) rfl (fun _ => ?_))
            | (refine K.assign ?_; refine JO.q rfl rfl (Nat.le_of_ble_eq_true rfl) (Qt.assign rfl) ?_)
            | (refine K.indexAddr ?_; refine JO.q rfl rfl (Nat.le_of_ble_eq_true rfl) (Qt.indexR rfl rfl (by omega) (AX)) ?_)
            | (refine K.binOp ?_; first | refine JO.q rfl rfl (Nat.le_of_ble_eq_true rfl) (Qt.cmp rfl rfl (congrArg some t1)) ?_ | refine JO.q rfl rfl (Nat.le_of_ble_eq_true rfl) (Qt.cmp rfl rfl (congrArg some t2)) ?_ | refine JO.q rfl rfl (Nat.le_of_ble_eq_true rfl) (Qt.cmp rfl rfl (congrArg some t3)) ?_ | refine JO.q rfl rfl (Nat.le_of_ble_eq_true rfl) (Qt.cmp rfl rfl (congrArg some t4)) ?_ | refine JO.q rfl rfl (Nat.le_of_ble_eq_true rfl) (Qt.cmp rfl rfl (congrArg some t5)) ?_ | refine JO.q rfl rfl (Nat.le_of_ble_eq_true rfl) (Qt.ari rfl rfl rfl (w64 (by omega) (by omega))) ?_)
            | (refine JO.alloc rfl (Nat.le_of_ble_eq_true rfl) ?_; intro _)
            | (refine K.build ?_; refine JO.q rfl rfl (Nat.le_of_ble_eq_true rfl) (Qt.build rfl (by kernel_rfl)) ?_)
            | (refine K.lit ?_; ((refine JO.ld (Ld.lit1R (Nat.le_of_ble_eq_true rfl) rfl rfl rfl rfl rfl) rfl (fun _ => ?_))))
            | (refine K.bi ?_; ((refine JO.ld (Ld.appOw (Nat.le_of_ble_eq_true rfl) rfl rfl .read (by (simp; omega))) rfl (fun _ => ?_))))
            | refine JO.nil ?_
            | refine J.seq ?_
            | refine J.region ?_
            | refine J.block ?_
            | refine J.inBlock ?_
            | refine J.skip ?_
            | refine J.cond_t rfl ?_
            | refine J.cond_f rfl ?_)
        refine J.dropN 1 ?_
        refine J.congL ?_ ((ih ⟨(k + 1, _), by simp only; omega⟩ (by simp only; omega)).weak ⟨rfl, rfl, rfl, rfl, rfl, trivial⟩)
        simp only
        rw [fs, List.map_append, hE]
        rfl
    · rw [ev, t2, if_pos rfl, List.append_nil] at fs
      repeat (first
          | (refine K.fieldAddr ?_; refine JO.q rfl rfl (Nat.le_of_ble_eq_true rfl) (Qt.fieldAddr rfl rfl) ?_)
          | (refine K.load ?_; first | refine JO.q rfl rfl (Nat.le_of_ble_eq_true rfl) (Qt.loadW rfl .el rfl) ?_ | refine JO.q rfl rfl (Nat.le_of_ble_eq_true rfl) (Qt.load1b rfl (by exact rfl)) ?_)
          | (refine K.move ?_; refine JO.q rfl rfl (Nat.le_of_ble_eq_true rfl) (Qt.move rfl) ?_)
          | (refine K.store ?_; (refine JO.ld (Ld.storeW rfl rfl rfl (by exact rfl) (by exact rfl)) rfl (fun _ => ?_)))
          | (refine K.indexAddr ?_; refine JO.q rfl rfl (Nat.le_of_ble_eq_true rfl) (Qt.indexR rfl rfl (by omega) (AX)) ?_)
          | (refine K.binOp ?_; first | refine JO.q rfl rfl (Nat.le_of_ble_eq_true rfl) (Qt.cmp rfl rfl (congrArg some t1)) ?_ | refine JO.q rfl rfl (Nat.le_of_ble_eq_true rfl) (Qt.cmp rfl rfl (congrArg some t2)) ?_ | refine JO.q rfl rfl (Nat.le_of_ble_eq_true rfl) (Qt.ari rfl rfl rfl (w64 (by omega) (by omega))) ?_)
          | (refine JO.alloc rfl (Nat.le_of_ble_eq_true rfl) ?_; intro _)
          | refine JO.nil ?_
          | refine J.seq ?_
          | refine J.region ?_
          | refine J.block ?_
          | refine J.skip ?_
          | refine J.exit rfl ?_
          | refine J.cond_t rfl ?_)
      refine J.dropN 0 ?_
      refine J.congL ?_ ((ih ⟨(k + 1, _), by simp only; omega⟩ (by simp only; omega)).weak ⟨rfl, rfl, rfl, rfl, rfl, trivial⟩)
      simp only
      rw [fs, hE]
  · obtain rfl : k = l.length := by omega
    have t1 : decide ((l.length : Int) < (l.length : Int)) = false := decide_eq_false (by omega)
    rw [List.take_length]
    repeat (first
        | (refine K.move ?_; refine JO.q rfl rfl (Nat.le_of_ble_eq_true rfl) (Qt.move rfl) ?_)
        | (refine K.assign ?_; refine JO.q rfl rfl (Nat.le_of_ble_eq_true rfl) (Qt.assign rfl) ?_)
        | (refine K.binOp ?_; (refine JO.q rfl rfl (Nat.le_of_ble_eq_true rfl) (Qt.cmp rfl rfl (congrArg some t1)) ?_))
        | refine JO.nil ?_
        | refine J.seq ?_
        | refine J.region ?_
        | refine J.exit rfl ?_
        | refine J.cond_f rfl ?_)
    refine J.frzS 4 rfl ?_
    exact J.ret Try.func12 rfl (.cons (.tmp rfl) .nil) () (by (exact .refl)) [] .nil rfl rfl
theorem t_refUpto (l : List Sx.Mk) (s : Int) (hs : l.length ≤ 400) : Pure Try.prog 13 [.c (.r 13 (l.map eM)), .c (nI s)] (.c (.r 13 ((l.flatMap (Ta.up s)).map eM))) := by
  refine Con.intro Try.func13 rfl rfl rfl (fun ok e => ?_)
  repeat (first
      | (refine K.move ?_; refine JO.q rfl rfl (Nat.le_of_ble_eq_true rfl) (Qt.move rfl) ?_)
      | (refine K.assign ?_; refine JO.q rfl rfl (Nat.le_of_ble_eq_true rfl) (Qt.assign rfl) ?_)
      | (refine K.bi ?_; (refine JO.q rfl rfl (Nat.le_of_ble_eq_true rfl) (Qt.lenM rfl) ?_))
      | (refine K.lit ?_; (refine JO.lit0 rfl (Nat.le_of_ble_eq_true rfl) ?_; intro _))
      | refine JO.nil ?_
      | refine J.seq ?_
      | refine J.region ?_
      | refine J.block ?_)
  rename_i b
  refine J.loop (ι := { q : Nat × Value // q.1 ≤ l.length }) (fun q => [(11, .c (nI q.1.1)), (10, .c (nI l.length)), (9, .c (.r 13 (l.map eM))), (5, .c (.v q.1.2)), (1, .c (nI s))]) (fun q => [.row q.1.2 41 13 (((l.take q.1.1).flatMap (Ta.up s)).map eM)]) (fun q => l.length - q.1.1) ⟨(0, .slice (some ⟨b, 0, none⟩) 0 0), Nat.zero_le _⟩ (fun X h => h.weak ⟨rfl, rfl, rfl, rfl, rfl, trivial⟩) (fun q ih => ?_)
  obtain ⟨⟨k, v⟩, hk'⟩ := q
  simp only at hk' ih ⊢
  by_cases hk : k < l.length
  · have t1 : decide ((k : Int) < (l.length : Int)) = true := decide_eq_true (by omega)
    obtain ⟨m, hm⟩ : ∃ m, l[k]? = some m := ⟨_, List.getElem?_eq_getElem hk⟩
    have AX := s_at (enc := eM) hm
    have fe := Ta.up_len s (l.take k)
    have ft := List.length_take_le k l
    have fs := Ta.flat_snoc (f := Ta.up s) hm
    have n1 : (((l.take k).flatMap (Ta.up s)).map eM).length = ((l.take k).flatMap (Ta.up s)).length := List.length_map ..
    generalize hE : ((l.take k).flatMap (Ta.up s)).map eM = E at n1 ⊢
    have ev : Ta.up s m = if decide (m.call > s) then [] else [Ta.md (decide (m.re > s)) (decide (m.arrive > s)) (decide (m.point > s)) m] := rfl
    cases t2 : decide (m.call > s)
    · cases t3 : decide (m.re > s) <;> cases t4 : decide (m.arrive > s) <;> cases t5 : decide (m.point > s)
      all_goals
        rw [ev, t2, t3, t4, t5, if_neg (by simp)] at fs
        repeat (first
            | (refine K.fieldAddr ?_; refine JO.q rfl rfl (Nat.le_of_ble_eq_true rfl) (Qt.fieldAddr rfl rfl) ?_)
            | (refine K.load ?_; first | refine JO.q rfl rfl (Nat.le_of_ble_eq_true rfl) (Qt.loadW rfl .el rfl) ?_ | refine JO.q rfl rfl (Nat.le_of_ble_eq_true rfl) (Qt.load1b rfl (by exact rfl)) ?_ | refine JO.q rfl rfl (Nat.le_of_ble_eq_true rfl) (Qt.loadWb rfl (by exact rfl)) ?_)
            | (refine K.move ?_; refine JO.q rfl rfl (Nat.le_of_ble_eq_true rfl) (Qt.move rfl) ?_)
            | (refine K.store ?_; first | refine JO.ld (Ld.storeW rfl rfl rfl (by exact rfl) (by exact rfl)) rfl (fun _ => ?_) | refine JO.ld (Ld.store1 rfl rfl (by exact rfl)) rfl (fun _ => ?_) | refine JO.ld (Ld.storeN rfl rfl rfl (by exact rfl) (by exact rfl)) rfl (fun _ => ?_))
            | (refine K.assign ?_; refine JO.q rfl rfl (Nat.le_of_ble_eq_true rfl) (Qt.assign rfl) ?_)
            | (refine K.indexAddr ?_; refine JO.q rfl rfl (Nat.le_of_ble_eq_true rfl) (Qt.indexR rfl rfl (by omega) (AX)) ?_)
            | (refine K.binOp ?_; first | refine JO.q rfl rfl (Nat.le_of_ble_eq_true rfl) (Qt.cmp rfl rfl (congrArg some t1)) ?_ | refine JO.q rfl rfl (Nat.le_of_ble_eq_true rfl) (Qt.cmp rfl rfl (congrArg some t2)) ?_ | refine JO.q rfl rfl (Nat.le_of_ble_eq_true rfl) (Qt.cmp rfl rfl (congrArg some t3)) ?_ | refine JO.q rfl rfl (Nat.le_of_ble_eq_true rfl) (Qt.cmp rfl rfl (congrArg some t4)) ?_ | refine JO.q rfl rfl (Nat.le_of_ble_eq_true rfl) (Qt.cmp rfl rfl (congrArg some t5)) ?_ | refine JO.q rfl rfl (Nat.le_of_ble_eq_true rfl) (Qt.ari rfl rfl rfl (w64 (by omega) (by omega))) ?_)
            | (refine JO.alloc rfl (Nat.le_of_ble_eq_true rfl) ?_; intro _)
            | (refine K.build ?_; refine JO.q rfl rfl (Nat.le_of_ble_eq_true rfl) (Qt.build rfl (by kernel_rfl)) ?_)
            | (refine K.lit ?_; ((refine JO.ld (Ld.lit1R (Nat.le_of_ble_eq_true rfl) rfl rfl rfl rfl rfl) rfl (fun _ => ?_))))
            | (refine K.bi ?_; ((refine JO.ld (Ld.appOw (Nat.le_of_ble_eq_true rfl) rfl rfl .read (by (simp; omega))) rfl (fun _ => ?_))))
            | refine JO.nil ?_
            | refine J.seq ?_
            | refine J.region ?_
            | refine J.block ?_
            | refine J.inBlock ?_
            | refine J.skip ?_
            | refine J.cond_t rfl ?_
            | refine J.cond_f rfl ?_)
        refine J.dropN 1 ?_
        refine J.congL ?_ ((ih ⟨(k + 1, _), by simp only; omega⟩ (by simp only; omega)).weak ⟨rfl, rfl, rfl, rfl, rfl, trivial⟩)
        simp only
        rw [fs, List.map_append, hE]
        rfl
    · rw [ev, t2, if_pos rfl, List.append_nil] at fs
      repeat (first
          | (refine K.fieldAddr ?_; refine JO.q rfl rfl (Nat.le_of_ble_eq_true rfl) (Qt.fieldAddr rfl rfl) ?_)
          | (refine K.load ?_; first | refine JO.q rfl rfl (Nat.le_of_ble_eq_true rfl) (Qt.loadW rfl .el rfl) ?_ | refine JO.q rfl rfl (Nat.le_of_ble_eq_true rfl) (Qt.load1b rfl (by exact rfl)) ?_)
          | (refine K.move ?_; refine JO.q rfl rfl (Nat.le_of_ble_eq_true rfl) (Qt.move rfl) ?_)
          | (refine K.store ?_; (refine JO.ld (Ld.storeW rfl rfl rfl (by exact rfl) (by exact rfl)) rfl (fun _ => ?_)))
          | (refine K.indexAddr ?_; refine JO.q rfl rfl (Nat.le_of_ble_eq_true rfl) (Qt.indexR rfl rfl (by omega) (AX)) ?_)
          | (refine K.binOp ?_; first | refine JO.q rfl rfl (Nat.le_of_ble_eq_true rfl) (Qt.cmp rfl rfl (congrArg some t1)) ?_ | refine JO.q rfl rfl (Nat.le_of_ble_eq_true rfl) (Qt.cmp rfl rfl (congrArg some t2)) ?_ | refine JO.q rfl rfl (Nat.le_of_ble_eq_true rfl) (Qt.ari rfl rfl rfl (w64 (by omega) (by omega))) ?_)
          | (refine JO.alloc rfl (Nat.le_of_ble_eq_true rfl) ?_; intro _)
          | refine JO.nil ?_
          | refine J.seq ?_
          | refine J.region ?_
          | refine J.block ?_
          | refine J.skip ?_
          | refine J.exit rfl ?_
          | refine J.cond_t rfl ?_)
      refine J.dropN 0 ?_
      refine J.congL ?_ ((ih ⟨(k + 1, _), by simp only; omega⟩ (by simp only; omega)).weak ⟨rfl, rfl, rfl, rfl, rfl, trivial⟩)
      simp only
      rw [fs, hE]
  · obtain rfl : k = l.length := by omega
    have t1 : decide ((l.length : Int) < (l.length : Int)) = false := decide_eq_false (by omega)
    rw [List.take_length]
    repeat (first
        | (refine K.move ?_; refine JO.q rfl rfl (Nat.le_of_ble_eq_true rfl) (Qt.move rfl) ?_)
        | (refine K.assign ?_; refine JO.q rfl rfl (Nat.le_of_ble_eq_true rfl) (Qt.assign rfl) ?_)
        | (refine K.binOp ?_; (refine JO.q rfl rfl (Nat.le_of_ble_eq_true rfl) (Qt.cmp rfl rfl (congrArg some t1)) ?_))
        | refine JO.nil ?_
        | refine J.seq ?_
        | refine J.region ?_
        | refine J.exit rfl ?_
        | refine J.cond_f rfl ?_)
    refine J.frzS 4 rfl ?_
    exact J.ret Try.func13 rfl (.cons (.tmp rfl) .nil) () (by (exact .refl)) [] .nil rfl rfl
end Fl
end Go.Proofs.Ytgjpdogjekmemaa
