/-
  The tale's history and points: what they are.
  Conditions: none.
-/
import Derived.Test.YtgjpdogjekmemaaTalB
namespace Go.Proofs.Ytgjpdogjekmemaa
open Go.RowKit
set_option linter.unusedVariables false
set_option linter.unusedSimpArgs false
set_option linter.unnecessarySimpa false
namespace Ta
def ev1 (m : Sx.Mk) : Ev := ⟨m.call, m.g, m.op, false, ⟨0, 0, 0, false, 0⟩⟩
def ev2 (m : Sx.Mk) : Ev := ⟨m.re, m.g, m.op, true, m.res⟩
def evs (m : Sx.Mk) : List Ev := if (m.re != 0) = true then [ev1 m, ev2 m] else [ev1 m]
def hist (l : List Sx.Mk) : List Ev := Ss.srt (fun e : Ev => e.step) (l.flatMap evs)
theorem evs_len : ∀ l : List Sx.Mk, (l.flatMap evs).length ≤ 2 * l.length
  | [] => Nat.le_refl _
  | m :: l => by
    have := evs_len l
    have h : (evs m).length ≤ 2 := by unfold evs; split <;> simp
    simp only [List.flatMap_cons, List.length_append, List.length_cons]; omega
theorem flat_snoc {α β : Type} {f : α → List β} {l : List α} {k : Nat} {m : α} (h : l[k]? = some m) : (l.take (k + 1)).flatMap f = (l.take k).flatMap f ++ f m := by
  rw [List.take_add_one, h]; simp
def pt1 (k : Nat) (m : Sx.Mk) : Pt := ⟨m.arrive, 1, k⟩
def pt2 (k : Nat) (m : Sx.Mk) : Pt := ⟨m.point, 2, k⟩
def ptOf (k : Nat) (m : Sx.Mk) : List Pt := (if (m.arrive != 0) = true then [pt1 k m] else []) ++ (if (m.point != 0) = true then [pt2 k m] else [])
def ptAt (l : List Sx.Mk) (k : Nat) : List Pt := match l[k]? with
  | some m => ptOf k m
  | none => []
def ptsTo (l : List Sx.Mk) : Nat → List Pt
  | 0 => []
  | k + 1 => ptsTo l k ++ ptAt l k
def points (l : List Sx.Mk) : List Pt := Ss.srt (fun e : Pt => e.step) (ptsTo l l.length)
theorem ptsTo_snoc {l : List Sx.Mk} {k : Nat} {m : Sx.Mk} (h : l[k]? = some m) : ptsTo l (k + 1) = ptsTo l k ++ ptOf k m := by
  rw [ptsTo]; unfold ptAt; rw [h]
theorem ptOf_len (k : Nat) (m : Sx.Mk) : (ptOf k m).length ≤ 2 := by unfold ptOf; split <;> split <;> simp
theorem ptsTo_len (l : List Sx.Mk) : ∀ k, (ptsTo l k).length ≤ 2 * k
  | 0 => Nat.le_refl _
  | k + 1 => by
    have := ptsTo_len l k
    have h : (ptAt l k).length ≤ 2 := by unfold ptAt; split; exact ptOf_len _ _; simp
    rw [ptsTo, List.length_append]; omega
end Ta
namespace Fl
set_option maxRecDepth 100000
set_option maxHeartbeats 4000000
theorem t_history (l : List Sx.Mk) (hs : l.length ≤ 400) : Pure Try.prog 6 [.c (.r 13 (l.map eM))] (.c (.r 9 ((Ta.hist l).map eEv))) := by
  refine Con.intro Try.func6 rfl rfl rfl (fun ok e => ?_)
  repeat (first
      | (refine K.move ?_; refine JO.q rfl rfl (Nat.le_of_ble_eq_true rfl) (Qt.move rfl) ?_)
      | (refine K.assign ?_; refine JO.q rfl rfl (Nat.le_of_ble_eq_true rfl) (Qt.assign rfl) ?_)
      | (refine K.bi ?_; (refine JO.q rfl rfl (Nat.le_of_ble_eq_true rfl) (Qt.lenM rfl) ?_))
      | refine JO.nil ?_
      | refine J.seq ?_
      | refine J.region ?_
      | refine J.block ?_)
  refine J.nilR 35 9 ?_
  refine J.loop (ι := { q : Nat × Value // q.1 ≤ l.length }) (fun q => [(8, .c (nI q.1.1)), (7, .c (nI l.length)), (6, .c (.r 13 (l.map eM))), (3, .c (.v q.1.2))]) (fun q => [.row q.1.2 35 9 (((l.take q.1.1).flatMap Ta.evs).map eEv)]) (fun q => l.length - q.1.1) ⟨(0, .slice none 0 0), Nat.zero_le _⟩ (fun X h => h.weak ⟨rfl, rfl, rfl, rfl, trivial⟩) (fun q ih => ?_)
  obtain ⟨⟨k, v⟩, hk'⟩ := q
  simp only at hk' ih ⊢
  by_cases hk : k < l.length
  · have t1 : decide ((k : Int) < (l.length : Int)) = true := decide_eq_true (by omega)
    obtain ⟨m, hm⟩ : ∃ m, l[k]? = some m := ⟨_, List.getElem?_eq_getElem hk⟩
    have AX := s_at (enc := eM) hm
    have fe := Ta.evs_len (l.take k)
    have ft := List.length_take_le k l
    have n1 : (((l.take k).flatMap Ta.evs).map eEv).length = ((l.take k).flatMap Ta.evs).length := List.length_map ..
    have n2 : (((l.take k).flatMap Ta.evs).map eEv ++ [eEv (Ta.ev1 m)]).length = ((l.take k).flatMap Ta.evs).length + 1 := by simp
    generalize hE : ((l.take k).flatMap Ta.evs).map eEv = E at n1 n2 ⊢
    have fs := Ta.flat_snoc (f := Ta.evs) hm
    have ev : Ta.evs m = if (m.re != 0) = true then [Ta.ev1 m, Ta.ev2 m] else [Ta.ev1 m] := rfl
    cases t2 : (m.re != 0) with
    | true =>
      rw [ev, t2, if_pos rfl] at fs
      repeat (first
          | (refine K.fieldAddr ?_; refine JO.q rfl rfl (Nat.le_of_ble_eq_true rfl) (Qt.fieldAddr rfl rfl) ?_)
          | (refine K.load ?_; first | refine JO.q rfl rfl (Nat.le_of_ble_eq_true rfl) (Qt.loadW rfl .el rfl) ?_ | refine JO.q rfl rfl (Nat.le_of_ble_eq_true rfl) (Qt.load1b rfl (by exact rfl)) ?_ | refine JO.q rfl rfl (Nat.le_of_ble_eq_true rfl) (Qt.loadNb rfl (by exact rfl) (by exact rfl)) ?_)
          | (refine K.move ?_; refine JO.q rfl rfl (Nat.le_of_ble_eq_true rfl) (Qt.move rfl) ?_)
          | (refine K.store ?_; (refine JO.ld (Ld.storeW rfl rfl rfl (by exact rfl) (by exact rfl)) rfl (fun _ => ?_)))
          | (refine K.assign ?_; refine JO.q rfl rfl (Nat.le_of_ble_eq_true rfl) (Qt.assign rfl) ?_)
          | (refine K.indexAddr ?_; refine JO.q rfl rfl (Nat.le_of_ble_eq_true rfl) (Qt.indexR rfl rfl (by omega) (AX)) ?_)
          | (refine K.binOp ?_; first | refine JO.q rfl rfl (Nat.le_of_ble_eq_true rfl) (Qt.cmp rfl rfl (congrArg some t1)) ?_ | refine JO.q rfl rfl (Nat.le_of_ble_eq_true rfl) (Qt.cmp rfl rfl (congrArg some t2)) ?_ | refine JO.q rfl rfl (Nat.le_of_ble_eq_true rfl) (Qt.ari rfl rfl rfl (w64 (by omega) (by omega))) ?_)
          | (refine JO.alloc rfl (Nat.le_of_ble_eq_true rfl) ?_; intro _)
          | (refine K.build ?_; first | refine JO.q rfl rfl (Nat.le_of_ble_eq_true rfl) (((Qt.build rfl (by kernel_rfl)).eq (show _ = D.agg (eEv (Ta.ev1 m)) from rfl))) ?_ | refine JO.q rfl rfl (Nat.le_of_ble_eq_true rfl) (((Qt.build rfl (by kernel_rfl)).eq (show _ = D.agg (eEv (Ta.ev2 m)) from rfl))) ?_)
          | (refine K.lit ?_; ((refine JO.ld (Ld.lit1R (Nat.le_of_ble_eq_true rfl) rfl rfl rfl rfl rfl) rfl (fun _ => ?_))))
          | (refine K.bi ?_; ((refine JO.ld (Ld.appOw (Nat.le_of_ble_eq_true rfl) rfl rfl .read (by (simp; omega))) rfl (fun _ => ?_))))
          | refine JO.nil ?_
          | refine J.seq ?_
          | refine J.region ?_
          | refine J.block ?_
          | refine J.inBlock ?_
          | refine J.skip ?_
          | refine J.cond_t rfl ?_)
      refine J.dropN 1 ?_
      refine J.congL ?_ ((ih ⟨(k + 1, _), by simp only; omega⟩ (by simp only; omega)).weak ⟨rfl, rfl, rfl, rfl, trivial⟩)
      simp only
      rw [fs, List.map_append, hE]
      simp
      try rfl
    | false =>
      rw [ev, t2, if_neg (by simp)] at fs
      repeat (first
          | (refine K.fieldAddr ?_; refine JO.q rfl rfl (Nat.le_of_ble_eq_true rfl) (Qt.fieldAddr rfl rfl) ?_)
          | (refine K.load ?_; first | refine JO.q rfl rfl (Nat.le_of_ble_eq_true rfl) (Qt.loadW rfl .el rfl) ?_ | refine JO.q rfl rfl (Nat.le_of_ble_eq_true rfl) (Qt.load1b rfl (by exact rfl)) ?_)
          | (refine K.move ?_; refine JO.q rfl rfl (Nat.le_of_ble_eq_true rfl) (Qt.move rfl) ?_)
          | (refine K.store ?_; (refine JO.ld (Ld.storeW rfl rfl rfl (by exact rfl) (by exact rfl)) rfl (fun _ => ?_)))
          | (refine K.assign ?_; refine JO.q rfl rfl (Nat.le_of_ble_eq_true rfl) (Qt.assign rfl) ?_)
          | (refine K.indexAddr ?_; refine JO.q rfl rfl (Nat.le_of_ble_eq_true rfl) (Qt.indexR rfl rfl (by omega) (AX)) ?_)
          | (refine K.binOp ?_; first | refine JO.q rfl rfl (Nat.le_of_ble_eq_true rfl) (Qt.cmp rfl rfl (congrArg some t1)) ?_ | refine JO.q rfl rfl (Nat.le_of_ble_eq_true rfl) (Qt.cmp rfl rfl (congrArg some t2)) ?_ | refine JO.q rfl rfl (Nat.le_of_ble_eq_true rfl) (Qt.ari rfl rfl rfl (w64 (by omega) (by omega))) ?_)
          | (refine JO.alloc rfl (Nat.le_of_ble_eq_true rfl) ?_; intro _)
          | (refine K.build ?_; (refine JO.q rfl rfl (Nat.le_of_ble_eq_true rfl) (((Qt.build rfl (by kernel_rfl)).eq (show _ = D.agg (eEv (Ta.ev1 m)) from rfl))) ?_))
          | (refine K.lit ?_; ((refine JO.ld (Ld.lit1R (Nat.le_of_ble_eq_true rfl) rfl rfl rfl rfl rfl) rfl (fun _ => ?_))))
          | (refine K.bi ?_; ((refine JO.ld (Ld.appOw (Nat.le_of_ble_eq_true rfl) rfl rfl .read (by (simp; omega))) rfl (fun _ => ?_))))
          | refine JO.nil ?_
          | refine J.seq ?_
          | refine J.region ?_
          | refine J.block ?_
          | refine J.inBlock ?_
          | refine J.skip ?_
          | refine J.cond_t rfl ?_
          | refine J.cond_f rfl ?_)
      refine J.dropN 1 ?_
      refine J.congL ?_ ((ih ⟨(k + 1, _), by simp only; omega⟩ (by simp only; omega)).weak ⟨rfl, rfl, rfl, rfl, trivial⟩)
      simp only
      rw [fs, List.map_append, hE]
      simp
      try rfl
  · obtain rfl : k = l.length := by omega
    have t1 : decide ((l.length : Int) < (l.length : Int)) = false := decide_eq_false (by omega)
    rw [List.take_length]
    have fe := Ta.evs_len l
    repeat (first
        | (refine K.move ?_; refine JO.q rfl rfl (Nat.le_of_ble_eq_true rfl) (Qt.move rfl) ?_)
        | (refine K.assign ?_; refine JO.q rfl rfl (Nat.le_of_ble_eq_true rfl) (Qt.assign rfl) ?_)
        | (refine K.binOp ?_; (refine JO.q rfl rfl (Nat.le_of_ble_eq_true rfl) (Qt.cmp rfl rfl (congrArg some t1)) ?_))
        | (refine K.call ?_; (refine JO.ld (Ld.callA ((t_sortEv v (l.flatMap Ta.evs) (by omega))) (Nat.le_of_ble_eq_true rfl) rfl (by (exact LeDs.cons .refl (.cons .refl .nil)))) rfl ?_; intro _))
        | refine JO.nil ?_
        | refine J.seq ?_
        | refine J.region ?_
        | refine J.exit rfl ?_
        | refine J.cond_f rfl ?_)
    refine J.frzS 2 rfl ?_
    exact J.ret Try.func6 rfl (.cons (.tmp rfl) .nil) () (by (exact .refl)) [] .nil rfl rfl
theorem t_refHistory (l : List Sx.Mk) (hs : l.length ≤ 400) : Pure Try.prog 7 [.c (.r 13 (l.map eM))] (.c (.r 9 ((Ta.hist l).map eEv))) := by
  refine Con.intro Try.func7 rfl rfl rfl (fun ok e => ?_)
  repeat (first
      | (refine K.move ?_; refine JO.q rfl rfl (Nat.le_of_ble_eq_true rfl) (Qt.move rfl) ?_)
      | (refine K.assign ?_; refine JO.q rfl rfl (Nat.le_of_ble_eq_true rfl) (Qt.assign rfl) ?_)
      | (refine K.bi ?_; (refine JO.q rfl rfl (Nat.le_of_ble_eq_true rfl) (Qt.lenM rfl) ?_))
      | (refine K.lit ?_; ((refine JO.ld (Ld.lit0R (Nat.le_of_ble_eq_true rfl)) rfl (fun _ => ?_))))
      | refine JO.nil ?_
      | refine J.seq ?_
      | refine J.region ?_
      | refine J.block ?_)
  refine J.loop (ι := { k : Nat // k ≤ l.length }) (fun q => [(9, .c (nI q.1)), (8, .c (nI l.length)), (7, .c (.r 13 (l.map eM))), (3, .c (.r 9 ((Ta.hist (l.take q.1)).map eEv)))]) (fun q => []) (fun q => l.length - q.1) ⟨0, Nat.zero_le _⟩ (fun X h => h.weak ⟨rfl, rfl, rfl, rfl, trivial⟩) (fun q ih => ?_)
  obtain ⟨k, hk'⟩ := q
  simp only at hk' ih ⊢
  by_cases hk : k < l.length
  · have t1 : decide ((k : Int) < (l.length : Int)) = true := decide_eq_true (by omega)
    obtain ⟨m, hm⟩ : ∃ m, l[k]? = some m := ⟨_, List.getElem?_eq_getElem hk⟩
    have AX := s_at (enc := eM) hm
    have fe := Ta.evs_len (l.take k)
    have ft := List.length_take_le k l
    have fs := Ta.flat_snoc (f := Ta.evs) hm
    have ev : Ta.evs m = if (m.re != 0) = true then [Ta.ev1 m, Ta.ev2 m] else [Ta.ev1 m] := rfl
    have hl : (Ta.hist (l.take k)).length = ((l.take k).flatMap Ta.evs).length := Ss.srt_len _
    have ih1 := ih ⟨k + 1, by omega⟩ (by simp only; omega)
    clear ih
    simp only at ih1
    unfold Ta.hist at ih1
    have C1 := t_putEv (Ta.hist (l.take k)) (Ta.ev1 m) (by omega)
    have hi := Ss.ins_len (key := fun e : Ta.Ev => e.step) (Ta.ev1 m) (Ta.hist (l.take k))
    have C2 := t_putEv (Ss.ins (fun e : Ta.Ev => e.step) (Ta.hist (l.take k)) (Ta.ev1 m)) (Ta.ev2 m) (by omega)
    cases t2 : (m.re != 0) with
    | true =>
      rw [fs, ev, t2, if_pos rfl, show (l.take k).flatMap Ta.evs ++ [Ta.ev1 m, Ta.ev2 m] = ((l.take k).flatMap Ta.evs ++ [Ta.ev1 m]) ++ [Ta.ev2 m] by simp, Ss.srt_snoc, Ss.srt_snoc] at ih1
      repeat (first
          | (refine K.fieldAddr ?_; refine JO.q rfl rfl (Nat.le_of_ble_eq_true rfl) (Qt.fieldAddr rfl rfl) ?_)
          | (refine K.load ?_; first | refine JO.q rfl rfl (Nat.le_of_ble_eq_true rfl) (Qt.loadW rfl .el rfl) ?_ | refine JO.q rfl rfl (Nat.le_of_ble_eq_true rfl) (Qt.load1b rfl (by exact rfl)) ?_ | refine JO.q rfl rfl (Nat.le_of_ble_eq_true rfl) (Qt.loadNb rfl (by exact rfl) (by exact rfl)) ?_)
          | (refine K.move ?_; refine JO.q rfl rfl (Nat.le_of_ble_eq_true rfl) (Qt.move rfl) ?_)
          | (refine K.store ?_; (refine JO.ld (Ld.storeW rfl rfl rfl (by exact rfl) (by exact rfl)) rfl (fun _ => ?_)))
          | (refine K.assign ?_; refine JO.q rfl rfl (Nat.le_of_ble_eq_true rfl) (Qt.assign rfl) ?_)
          | (refine K.indexAddr ?_; refine JO.q rfl rfl (Nat.le_of_ble_eq_true rfl) (Qt.indexR rfl rfl (by omega) (AX)) ?_)
          | (refine K.binOp ?_; first | refine JO.q rfl rfl (Nat.le_of_ble_eq_true rfl) (Qt.cmp rfl rfl (congrArg some t1)) ?_ | refine JO.q rfl rfl (Nat.le_of_ble_eq_true rfl) (Qt.cmp rfl rfl (congrArg some t2)) ?_ | refine JO.q rfl rfl (Nat.le_of_ble_eq_true rfl) (Qt.ari rfl rfl rfl (w64 (by omega) (by omega))) ?_)
          | (refine K.call ?_; first | (refine JO.pure (C1) rfl (Nat.le_of_ble_eq_true rfl) rfl ?_ ?_; focus ((repeat (first | exact LeDs.nil | refine LeDs.cons (LeD.agg (by repeat (first | exact .nil | refine .cons .refl ?_))) ?_ | refine LeDs.cons LeD.refl ?_)); done)) | (refine JO.pure (C2) rfl (Nat.le_of_ble_eq_true rfl) rfl ?_ ?_; focus ((repeat (first | exact LeDs.nil | refine LeDs.cons (LeD.agg (by repeat (first | exact .nil | refine .cons .refl ?_))) ?_ | refine LeDs.cons LeD.refl ?_)); done)))
          | (refine JO.alloc rfl (Nat.le_of_ble_eq_true rfl) ?_; intro _)
          | (refine K.build ?_; first | refine JO.q rfl rfl (Nat.le_of_ble_eq_true rfl) (((Qt.build rfl (by kernel_rfl)).eq (show _ = D.agg (eEv (Ta.ev1 m)) from rfl))) ?_ | refine JO.q rfl rfl (Nat.le_of_ble_eq_true rfl) (((Qt.build rfl (by kernel_rfl)).eq (show _ = D.agg (eEv (Ta.ev2 m)) from rfl))) ?_)
          | refine JO.nil ?_
          | refine J.seq ?_
          | refine J.region ?_
          | refine J.block ?_
          | refine J.inBlock ?_
          | refine J.skip ?_
          | refine J.cond_t rfl ?_)
      refine J.dropN 0 ?_
      exact ih1.weak ⟨rfl, rfl, rfl, rfl, trivial⟩
    | false =>
      rw [fs, ev, t2, if_neg (by simp), Ss.srt_snoc] at ih1
      repeat (first
          | (refine K.fieldAddr ?_; refine JO.q rfl rfl (Nat.le_of_ble_eq_true rfl) (Qt.fieldAddr rfl rfl) ?_)
          | (refine K.load ?_; first | refine JO.q rfl rfl (Nat.le_of_ble_eq_true rfl) (Qt.loadW rfl .el rfl) ?_ | refine JO.q rfl rfl (Nat.le_of_ble_eq_true rfl) (Qt.load1b rfl (by exact rfl)) ?_)
          | (refine K.move ?_; refine JO.q rfl rfl (Nat.le_of_ble_eq_true rfl) (Qt.move rfl) ?_)
          | (refine K.store ?_; (refine JO.ld (Ld.storeW rfl rfl rfl (by exact rfl) (by exact rfl)) rfl (fun _ => ?_)))
          | (refine K.assign ?_; refine JO.q rfl rfl (Nat.le_of_ble_eq_true rfl) (Qt.assign rfl) ?_)
          | (refine K.indexAddr ?_; refine JO.q rfl rfl (Nat.le_of_ble_eq_true rfl) (Qt.indexR rfl rfl (by omega) (AX)) ?_)
          | (refine K.binOp ?_; first | refine JO.q rfl rfl (Nat.le_of_ble_eq_true rfl) (Qt.cmp rfl rfl (congrArg some t1)) ?_ | refine JO.q rfl rfl (Nat.le_of_ble_eq_true rfl) (Qt.cmp rfl rfl (congrArg some t2)) ?_ | refine JO.q rfl rfl (Nat.le_of_ble_eq_true rfl) (Qt.ari rfl rfl rfl (w64 (by omega) (by omega))) ?_)
          | (refine K.call ?_; (refine JO.pure (C1) rfl (Nat.le_of_ble_eq_true rfl) rfl ?_ ?_; focus ((repeat (first | exact LeDs.nil | refine LeDs.cons (LeD.agg (by repeat (first | exact .nil | refine .cons .refl ?_))) ?_ | refine LeDs.cons LeD.refl ?_)); done)))
          | (refine JO.alloc rfl (Nat.le_of_ble_eq_true rfl) ?_; intro _)
          | (refine K.build ?_; (refine JO.q rfl rfl (Nat.le_of_ble_eq_true rfl) (((Qt.build rfl (by kernel_rfl)).eq (show _ = D.agg (eEv (Ta.ev1 m)) from rfl))) ?_))
          | refine JO.nil ?_
          | refine J.seq ?_
          | refine J.region ?_
          | refine J.block ?_
          | refine J.inBlock ?_
          | refine J.skip ?_
          | refine J.cond_t rfl ?_
          | refine J.cond_f rfl ?_)
      refine J.dropN 0 ?_
      exact ih1.weak ⟨rfl, rfl, rfl, rfl, trivial⟩
  · obtain rfl : k = l.length := by omega
    have t1 : decide ((l.length : Int) < (l.length : Int)) = false := decide_eq_false (by omega)
    rw [List.take_length]
    repeat (first
        | (refine K.move ?_; refine JO.q rfl rfl (Nat.le_of_ble_eq_true rfl) (Qt.move rfl) ?_)
        | (refine K.assign ?_; refine JO.q rfl rfl (Nat.le_of_ble_eq_true rfl) (Qt.assign rfl) ?_)
        | (refine K.binOp ?_; (refine JO.q rfl rfl (Nat.le_of_ble_eq_true rfl) (Qt.cmp rfl rfl (congrArg some t1)) ?_))
        | refine JO.nil ?_
        | refine J.seq ?_
        | refine J.region ?_
        | refine J.exit rfl ?_
        | refine J.cond_f rfl ?_)
    exact J.ret Try.func7 rfl (.cons (.tmp rfl) .nil) () (by (exact .refl)) [] .nil rfl rfl
theorem t_points (l : List Sx.Mk) (hs : l.length ≤ 400) : Pure Try.prog 8 [.c (.r 13 (l.map eM))] (.c (.r 3 ((Ta.points l).map ePt))) := by
  refine Con.intro Try.func8 rfl rfl rfl (fun ok e => ?_)
  repeat (first
      | (refine K.move ?_; refine JO.q rfl rfl (Nat.le_of_ble_eq_true rfl) (Qt.move rfl) ?_)
      | (refine K.assign ?_; refine JO.q rfl rfl (Nat.le_of_ble_eq_true rfl) (Qt.assign rfl) ?_)
      | (refine K.bi ?_; (refine JO.q rfl rfl (Nat.le_of_ble_eq_true rfl) (Qt.lenM rfl) ?_))
      | refine JO.nil ?_
      | refine J.seq ?_
      | refine J.region ?_
      | refine J.block ?_)
  refine J.nilR 38 3 ?_
  refine J.loop (ι := { q : Nat × Value // q.1 ≤ l.length }) (fun q => [(8, .c (nI q.1.1)), (7, .c (nI l.length)), (6, .c (.r 13 (l.map eM))), (3, .c (.v q.1.2))]) (fun q => [.row q.1.2 38 3 ((Ta.ptsTo l q.1.1).map ePt)]) (fun q => l.length - q.1.1) ⟨(0, .slice none 0 0), Nat.zero_le _⟩ (fun X h => h.weak ⟨rfl, rfl, rfl, rfl, trivial⟩) (fun q ih => ?_)
  obtain ⟨⟨k, v⟩, hk'⟩ := q
  simp only at hk' ih ⊢
  by_cases hk : k < l.length
  · have t1 : decide ((k : Int) < (l.length : Int)) = true := decide_eq_true (by omega)
    obtain ⟨m, hm⟩ : ∃ m, l[k]? = some m := ⟨_, List.getElem?_eq_getElem hk⟩
    have AX := s_at (enc := eM) hm
    have fe := Ta.ptsTo_len l k
    have n1 : ((Ta.ptsTo l k).map ePt).length = (Ta.ptsTo l k).length := List.length_map ..
    generalize hE : (Ta.ptsTo l k).map ePt = E at n1 ⊢
    have fs := Ta.ptsTo_snoc hm
    have ev : Ta.ptOf k m = (if (m.arrive != 0) = true then [Ta.pt1 k m] else []) ++ (if (m.point != 0) = true then [Ta.pt2 k m] else []) := rfl
    cases t2 : (m.arrive != 0) <;> cases t3 : (m.point != 0)
    all_goals
      rw [ev, t2, t3] at fs
      repeat (first
          | (refine K.fieldAddr ?_; refine JO.q rfl rfl (Nat.le_of_ble_eq_true rfl) (Qt.fieldAddr rfl rfl) ?_)
          | (refine K.load ?_; first | refine JO.q rfl rfl (Nat.le_of_ble_eq_true rfl) (Qt.loadW rfl .el rfl) ?_ | refine JO.q rfl rfl (Nat.le_of_ble_eq_true rfl) (Qt.load1b rfl (by exact rfl)) ?_)
          | (refine K.move ?_; refine JO.q rfl rfl (Nat.le_of_ble_eq_true rfl) (Qt.move rfl) ?_)
          | (refine K.store ?_; (refine JO.ld (Ld.storeW rfl rfl rfl (by exact rfl) (by exact rfl)) rfl (fun _ => ?_)))
          | (refine K.assign ?_; refine JO.q rfl rfl (Nat.le_of_ble_eq_true rfl) (Qt.assign rfl) ?_)
          | (refine K.indexAddr ?_; refine JO.q rfl rfl (Nat.le_of_ble_eq_true rfl) (Qt.indexR rfl rfl (by omega) (AX)) ?_)
          | (refine K.binOp ?_; first | refine JO.q rfl rfl (Nat.le_of_ble_eq_true rfl) (Qt.cmp rfl rfl (congrArg some t1)) ?_ | refine JO.q rfl rfl (Nat.le_of_ble_eq_true rfl) (Qt.cmp rfl rfl (congrArg some t2)) ?_ | refine JO.q rfl rfl (Nat.le_of_ble_eq_true rfl) (Qt.cmp rfl rfl (congrArg some t3)) ?_ | refine JO.q rfl rfl (Nat.le_of_ble_eq_true rfl) (Qt.ari rfl rfl rfl (w64 (by omega) (by omega))) ?_)
          | (refine JO.alloc rfl (Nat.le_of_ble_eq_true rfl) ?_; intro _)
          | (refine K.build ?_; first | refine JO.q rfl rfl (Nat.le_of_ble_eq_true rfl) (((Qt.build rfl (by kernel_rfl)).eq (show _ = D.agg (ePt (Ta.pt1 k m)) from rfl))) ?_ | refine JO.q rfl rfl (Nat.le_of_ble_eq_true rfl) (((Qt.build rfl (by kernel_rfl)).eq (show _ = D.agg (ePt (Ta.pt2 k m)) from rfl))) ?_)
          | (refine K.lit ?_; ((refine JO.ld (Ld.lit1R (Nat.le_of_ble_eq_true rfl) rfl rfl rfl rfl rfl) rfl (fun _ => ?_))))
          | (refine K.bi ?_; ((refine JO.ld (Ld.appOw (Nat.le_of_ble_eq_true rfl) rfl rfl .read (by (simp; omega))) rfl (fun _ => ?_))))
          | refine JO.nil ?_
          | refine J.seq ?_
          | refine J.region ?_
          | refine J.block ?_
          | refine J.inBlock ?_
          | refine J.skip ?_
          | refine J.cond_t rfl ?_
          | refine J.cond_f rfl ?_)
      refine J.pullS 3 rfl ?_
      refine J.dropN 1 ?_
      refine J.congL ?_ ((ih ⟨(k + 1, _), by simp only; omega⟩ (by simp only; omega)).weak ⟨rfl, rfl, rfl, rfl, trivial⟩)
      simp only
      rw [fs, List.map_append, hE]
      simp
      try rfl
  · obtain rfl : k = l.length := by omega
    have t1 : decide ((l.length : Int) < (l.length : Int)) = false := decide_eq_false (by omega)
    have fe := Ta.ptsTo_len l l.length
    repeat (first
        | (refine K.move ?_; refine JO.q rfl rfl (Nat.le_of_ble_eq_true rfl) (Qt.move rfl) ?_)
        | (refine K.assign ?_; refine JO.q rfl rfl (Nat.le_of_ble_eq_true rfl) (Qt.assign rfl) ?_)
        | (refine K.binOp ?_; (refine JO.q rfl rfl (Nat.le_of_ble_eq_true rfl) (Qt.cmp rfl rfl (congrArg some t1)) ?_))
        | (refine K.call ?_; (refine JO.ld (Ld.callA ((t_sortPt v (Ta.ptsTo l l.length) (by omega))) (Nat.le_of_ble_eq_true rfl) rfl (by (exact LeDs.cons .refl (.cons .refl .nil)))) rfl ?_; intro _))
        | refine JO.nil ?_
        | refine J.seq ?_
        | refine J.region ?_
        | refine J.exit rfl ?_
        | refine J.cond_f rfl ?_)
    refine J.frzS 2 rfl ?_
    exact J.ret Try.func8 rfl (.cons (.tmp rfl) .nil) () (by (exact .refl)) [] .nil rfl rfl
theorem t_refPoints (l : List Sx.Mk) (hs : l.length ≤ 400) : Pure Try.prog 9 [.c (.r 13 (l.map eM))] (.c (.r 3 ((Ta.points l).map ePt))) := by
  refine Con.intro Try.func9 rfl rfl rfl (fun ok e => ?_)
  repeat (first
      | (refine K.move ?_; refine JO.q rfl rfl (Nat.le_of_ble_eq_true rfl) (Qt.move rfl) ?_)
      | (refine K.assign ?_; refine JO.q rfl rfl (Nat.le_of_ble_eq_true rfl) (Qt.assign rfl) ?_)
      | (refine K.bi ?_; (refine JO.q rfl rfl (Nat.le_of_ble_eq_true rfl) (Qt.lenM rfl) ?_))
      | (refine K.lit ?_; ((refine JO.ld (Ld.lit0R (Nat.le_of_ble_eq_true rfl)) rfl (fun _ => ?_))))
      | refine JO.nil ?_
      | refine J.seq ?_
      | refine J.region ?_
      | refine J.block ?_)
  refine J.loop (ι := { k : Nat // k ≤ l.length }) (fun q => [(9, .c (nI q.1)), (8, .c (nI l.length)), (7, .c (.r 13 (l.map eM))), (3, .c (.r 3 ((Ss.srt (fun e : Ta.Pt => e.step) (Ta.ptsTo l q.1)).map ePt)))]) (fun q => []) (fun q => l.length - q.1) ⟨0, Nat.zero_le _⟩ (fun X h => h.weak ⟨rfl, rfl, rfl, rfl, trivial⟩) (fun q ih => ?_)
  obtain ⟨k, hk'⟩ := q
  simp only at hk' ih ⊢
  by_cases hk : k < l.length
  · have t1 : decide ((k : Int) < (l.length : Int)) = true := decide_eq_true (by omega)
    obtain ⟨m, hm⟩ : ∃ m, l[k]? = some m := ⟨_, List.getElem?_eq_getElem hk⟩
    have AX := s_at (enc := eM) hm
    have fe := Ta.ptsTo_len l k
    have fs := Ta.ptsTo_snoc hm
    have ev : Ta.ptOf k m = (if (m.arrive != 0) = true then [Ta.pt1 k m] else []) ++ (if (m.point != 0) = true then [Ta.pt2 k m] else []) := rfl
    have hl : (Ss.srt (fun e : Ta.Pt => e.step) (Ta.ptsTo l k)).length = (Ta.ptsTo l k).length := Ss.srt_len _
    have ih1 := ih ⟨k + 1, by omega⟩ (by simp only; omega)
    clear ih
    simp only at ih1
    have C1 := t_putPt (Ss.srt (fun e : Ta.Pt => e.step) (Ta.ptsTo l k)) (Ta.pt1 k m) (by omega)
    have C3 := t_putPt (Ss.srt (fun e : Ta.Pt => e.step) (Ta.ptsTo l k)) (Ta.pt2 k m) (by omega)
    have hi := Ss.ins_len (key := fun e : Ta.Pt => e.step) (Ta.pt1 k m) (Ss.srt (fun e : Ta.Pt => e.step) (Ta.ptsTo l k))
    have C2 := t_putPt (Ss.ins (fun e : Ta.Pt => e.step) (Ss.srt (fun e : Ta.Pt => e.step) (Ta.ptsTo l k)) (Ta.pt1 k m)) (Ta.pt2 k m) (by omega)
    cases t2 : (m.arrive != 0) <;> cases t3 : (m.point != 0)
    · rw [fs, ev, t2, t3, if_neg (by simp), if_neg (by simp), List.append_nil, List.append_nil] at ih1
      repeat (first
          | (refine K.fieldAddr ?_; refine JO.q rfl rfl (Nat.le_of_ble_eq_true rfl) (Qt.fieldAddr rfl rfl) ?_)
          | (refine K.load ?_; first | refine JO.q rfl rfl (Nat.le_of_ble_eq_true rfl) (Qt.loadW rfl .el rfl) ?_ | refine JO.q rfl rfl (Nat.le_of_ble_eq_true rfl) (Qt.load1b rfl (by exact rfl)) ?_)
          | (refine K.move ?_; refine JO.q rfl rfl (Nat.le_of_ble_eq_true rfl) (Qt.move rfl) ?_)
          | (refine K.store ?_; (refine JO.ld (Ld.storeW rfl rfl rfl (by exact rfl) (by exact rfl)) rfl (fun _ => ?_)))
          | (refine K.assign ?_; refine JO.q rfl rfl (Nat.le_of_ble_eq_true rfl) (Qt.assign rfl) ?_)
          | (refine K.indexAddr ?_; refine JO.q rfl rfl (Nat.le_of_ble_eq_true rfl) (Qt.indexR rfl rfl (by omega) (AX)) ?_)
          | (refine K.binOp ?_; first | refine JO.q rfl rfl (Nat.le_of_ble_eq_true rfl) (Qt.cmp rfl rfl (congrArg some t1)) ?_ | refine JO.q rfl rfl (Nat.le_of_ble_eq_true rfl) (Qt.cmp rfl rfl (congrArg some t2)) ?_ | refine JO.q rfl rfl (Nat.le_of_ble_eq_true rfl) (Qt.cmp rfl rfl (congrArg some t3)) ?_ | refine JO.q rfl rfl (Nat.le_of_ble_eq_true rfl) (Qt.ari rfl rfl rfl (w64 (by omega) (by omega))) ?_)
          | (refine JO.alloc rfl (Nat.le_of_ble_eq_true rfl) ?_; intro _)
          | refine JO.nil ?_
          | refine J.seq ?_
          | refine J.region ?_
          | refine J.block ?_
          | refine J.inBlock ?_
          | refine J.skip ?_
          | refine J.cond_t rfl ?_
          | refine J.cond_f rfl ?_)
      refine J.dropN 0 ?_
      exact ih1.weak ⟨rfl, rfl, rfl, rfl, trivial⟩
    · rw [fs, ev, t2, t3, if_neg (by simp), if_pos rfl, List.nil_append, Ss.srt_snoc] at ih1
      repeat (first
          | (refine K.fieldAddr ?_; refine JO.q rfl rfl (Nat.le_of_ble_eq_true rfl) (Qt.fieldAddr rfl rfl) ?_)
          | (refine K.load ?_; first | refine JO.q rfl rfl (Nat.le_of_ble_eq_true rfl) (Qt.loadW rfl .el rfl) ?_ | refine JO.q rfl rfl (Nat.le_of_ble_eq_true rfl) (Qt.load1b rfl (by exact rfl)) ?_)
          | (refine K.move ?_; refine JO.q rfl rfl (Nat.le_of_ble_eq_true rfl) (Qt.move rfl) ?_)
          | (refine K.store ?_; (refine JO.ld (Ld.storeW rfl rfl rfl (by exact rfl) (by exact rfl)) rfl (fun _ => ?_)))
          | (refine K.assign ?_; refine JO.q rfl rfl (Nat.le_of_ble_eq_true rfl) (Qt.assign rfl) ?_)
          | (refine K.indexAddr ?_; refine JO.q rfl rfl (Nat.le_of_ble_eq_true rfl) (Qt.indexR rfl rfl (by omega) (AX)) ?_)
          | (refine K.binOp ?_; first | refine JO.q rfl rfl (Nat.le_of_ble_eq_true rfl) (Qt.cmp rfl rfl (congrArg some t1)) ?_ | refine JO.q rfl rfl (Nat.le_of_ble_eq_true rfl) (Qt.cmp rfl rfl (congrArg some t2)) ?_ | refine JO.q rfl rfl (Nat.le_of_ble_eq_true rfl) (Qt.cmp rfl rfl (congrArg some t3)) ?_ | refine JO.q rfl rfl (Nat.le_of_ble_eq_true rfl) (Qt.ari rfl rfl rfl (w64 (by omega) (by omega))) ?_)
          | (refine K.call ?_; (refine JO.pure (C3) rfl (Nat.le_of_ble_eq_true rfl) rfl ?_ ?_; focus ((repeat (first | exact LeDs.nil | refine LeDs.cons (LeD.agg (by repeat (first | exact .nil | refine .cons .refl ?_))) ?_ | refine LeDs.cons LeD.refl ?_)); done)))
          | (refine JO.alloc rfl (Nat.le_of_ble_eq_true rfl) ?_; intro _)
          | (refine K.build ?_; (refine JO.q rfl rfl (Nat.le_of_ble_eq_true rfl) (((Qt.build rfl (by kernel_rfl)).eq (show _ = D.agg (ePt (Ta.pt2 k m)) from rfl))) ?_))
          | refine JO.nil ?_
          | refine J.seq ?_
          | refine J.region ?_
          | refine J.block ?_
          | refine J.inBlock ?_
          | refine J.skip ?_
          | refine J.cond_t rfl ?_
          | refine J.cond_f rfl ?_)
      refine J.dropN 0 ?_
      exact ih1.weak ⟨rfl, rfl, rfl, rfl, trivial⟩
    · rw [fs, ev, t2, t3, if_pos rfl, if_neg (by simp), List.append_nil, Ss.srt_snoc] at ih1
      repeat (first
          | (refine K.fieldAddr ?_; refine JO.q rfl rfl (Nat.le_of_ble_eq_true rfl) (Qt.fieldAddr rfl rfl) ?_)
          | (refine K.load ?_; first | refine JO.q rfl rfl (Nat.le_of_ble_eq_true rfl) (Qt.loadW rfl .el rfl) ?_ | refine JO.q rfl rfl (Nat.le_of_ble_eq_true rfl) (Qt.load1b rfl (by exact rfl)) ?_)
          | (refine K.move ?_; refine JO.q rfl rfl (Nat.le_of_ble_eq_true rfl) (Qt.move rfl) ?_)
          | (refine K.store ?_; (refine JO.ld (Ld.storeW rfl rfl rfl (by exact rfl) (by exact rfl)) rfl (fun _ => ?_)))
          | (refine K.assign ?_; refine JO.q rfl rfl (Nat.le_of_ble_eq_true rfl) (Qt.assign rfl) ?_)
          | (refine K.indexAddr ?_; refine JO.q rfl rfl (Nat.le_of_ble_eq_true rfl) (Qt.indexR rfl rfl (by omega) (AX)) ?_)
          | (refine K.binOp ?_; first | refine JO.q rfl rfl (Nat.le_of_ble_eq_true rfl) (Qt.cmp rfl rfl (congrArg some t1)) ?_ | refine JO.q rfl rfl (Nat.le_of_ble_eq_true rfl) (Qt.cmp rfl rfl (congrArg some t2)) ?_ | refine JO.q rfl rfl (Nat.le_of_ble_eq_true rfl) (Qt.cmp rfl rfl (congrArg some t3)) ?_ | refine JO.q rfl rfl (Nat.le_of_ble_eq_true rfl) (Qt.ari rfl rfl rfl (w64 (by omega) (by omega))) ?_)
          | (refine K.call ?_; (refine JO.pure (C1) rfl (Nat.le_of_ble_eq_true rfl) rfl ?_ ?_; focus ((repeat (first | exact LeDs.nil | refine LeDs.cons (LeD.agg (by repeat (first | exact .nil | refine .cons .refl ?_))) ?_ | refine LeDs.cons LeD.refl ?_)); done)))
          | (refine JO.alloc rfl (Nat.le_of_ble_eq_true rfl) ?_; intro _)
          | (refine K.build ?_; (refine JO.q rfl rfl (Nat.le_of_ble_eq_true rfl) (((Qt.build rfl (by kernel_rfl)).eq (show _ = D.agg (ePt (Ta.pt1 k m)) from rfl))) ?_))
          | refine JO.nil ?_
          | refine J.seq ?_
          | refine J.region ?_
          | refine J.block ?_
          | refine J.inBlock ?_
          | refine J.skip ?_
          | refine J.cond_t rfl ?_
          | refine J.cond_f rfl ?_)
      refine J.dropN 0 ?_
      exact ih1.weak ⟨rfl, rfl, rfl, rfl, trivial⟩
    · rw [fs, ev, t2, t3, if_pos rfl, if_pos rfl, ← List.append_assoc, Ss.srt_snoc, Ss.srt_snoc] at ih1
      repeat (first
          | (refine K.fieldAddr ?_; refine JO.q rfl rfl (Nat.le_of_ble_eq_true rfl) (Qt.fieldAddr rfl rfl) ?_)
          | (refine K.load ?_; first | refine JO.q rfl rfl (Nat.le_of_ble_eq_true rfl) (Qt.loadW rfl .el rfl) ?_ | refine JO.q rfl rfl (Nat.le_of_ble_eq_true rfl) (Qt.load1b rfl (by exact rfl)) ?_)
          | (refine K.move ?_; refine JO.q rfl rfl (Nat.le_of_ble_eq_true rfl) (Qt.move rfl) ?_)
          | (refine K.store ?_; (refine JO.ld (Ld.storeW rfl rfl rfl (by exact rfl) (by exact rfl)) rfl (fun _ => ?_)))
          | (refine K.assign ?_; refine JO.q rfl rfl (Nat.le_of_ble_eq_true rfl) (Qt.assign rfl) ?_)
          | (refine K.indexAddr ?_; refine JO.q rfl rfl (Nat.le_of_ble_eq_true rfl) (Qt.indexR rfl rfl (by omega) (AX)) ?_)
          | (refine K.binOp ?_; first | refine JO.q rfl rfl (Nat.le_of_ble_eq_true rfl) (Qt.cmp rfl rfl (congrArg some t1)) ?_ | refine JO.q rfl rfl (Nat.le_of_ble_eq_true rfl) (Qt.cmp rfl rfl (congrArg some t2)) ?_ | refine JO.q rfl rfl (Nat.le_of_ble_eq_true rfl) (Qt.cmp rfl rfl (congrArg some t3)) ?_ | refine JO.q rfl rfl (Nat.le_of_ble_eq_true rfl) (Qt.ari rfl rfl rfl (w64 (by omega) (by omega))) ?_)
          | (refine K.call ?_; first | (refine JO.pure (C1) rfl (Nat.le_of_ble_eq_true rfl) rfl ?_ ?_; focus ((repeat (first | exact LeDs.nil | refine LeDs.cons (LeD.agg (by repeat (first | exact .nil | refine .cons .refl ?_))) ?_ | refine LeDs.cons LeD.refl ?_)); done)) | (refine JO.pure (C2) rfl (Nat.le_of_ble_eq_true rfl) rfl ?_ ?_; focus ((repeat (first | exact LeDs.nil | refine LeDs.cons (LeD.agg (by repeat (first | exact .nil | refine .cons .refl ?_))) ?_ | refine LeDs.cons LeD.refl ?_)); done)))
          | (refine JO.alloc rfl (Nat.le_of_ble_eq_true rfl) ?_; intro _)
          | (refine K.build ?_; first | refine JO.q rfl rfl (Nat.le_of_ble_eq_true rfl) (((Qt.build rfl (by kernel_rfl)).eq (show _ = D.agg (ePt (Ta.pt1 k m)) from rfl))) ?_ | refine JO.q rfl rfl (Nat.le_of_ble_eq_true rfl) (((Qt.build rfl (by kernel_rfl)).eq (show _ = D.agg (ePt (Ta.pt2 k m)) from rfl))) ?_)
          | refine JO.nil ?_
          | refine J.seq ?_
          | refine J.region ?_
          | refine J.block ?_
          | refine J.inBlock ?_
          | refine J.skip ?_
          | refine J.cond_t rfl ?_)
      refine J.dropN 0 ?_
      exact ih1.weak ⟨rfl, rfl, rfl, rfl, trivial⟩
  · obtain rfl : k = l.length := by omega
    have t1 : decide ((l.length : Int) < (l.length : Int)) = false := decide_eq_false (by omega)
    repeat (first
        | (refine K.move ?_; refine JO.q rfl rfl (Nat.le_of_ble_eq_true rfl) (Qt.move rfl) ?_)
        | (refine K.assign ?_; refine JO.q rfl rfl (Nat.le_of_ble_eq_true rfl) (Qt.assign rfl) ?_)
        | (refine K.binOp ?_; (refine JO.q rfl rfl (Nat.le_of_ble_eq_true rfl) (Qt.cmp rfl rfl (congrArg some t1)) ?_))
        | refine JO.nil ?_
        | refine J.seq ?_
        | refine J.region ?_
        | refine J.exit rfl ?_
        | refine J.cond_f rfl ?_)
    exact J.ret Try.func9 rfl (.cons (.tmp rfl) .nil) () (by (exact .refl)) [] .nil rfl rfl
end Fl
end Go.Proofs.Ytgjpdogjekmemaa
