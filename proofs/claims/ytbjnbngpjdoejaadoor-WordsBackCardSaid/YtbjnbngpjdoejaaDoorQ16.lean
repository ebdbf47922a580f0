/-
  Texts RdB RdF of this claim, put together: what they show stands at their heads.
  Conditions: none but those that each theorem states.
-/
import Derived.Test.YtbjnbngpjdoejaaDoorQ15
namespace Go.Proofs.YtbjnbngpjdoejaaDoor
open Go.RowKit
set_option linter.unusedVariables false
set_option linter.unusedSimpArgs false
set_option linter.unnecessarySimpa false
namespace Wr
def numsL (w : List W) (m : Nat) : List Int := if w.all (fun x => decide (0 ≤ digN x)) = true ∧ w.length = m then w.map digN else []
def small (w : List W) : Prop := w.length ≤ 3001 ∧ ∀ x ∈ w, x.length ≤ 3000
theorem digN_some {s : W} {n : Nat} (h : digs s = some n) : digN s = n := by unfold digN; rw [h]
theorem digN_none {s : W} (h : digs s = none) : digN s = -1 := by unfold digN; rw [h]
theorem digN_lt (s : W) : digN s < 1000 := by
  unfold digN
  split
  · rename_i n h
    have := (itoa_digs h).2
    omega
  · omega
end Wr
namespace Fl
set_option maxRecDepth 100000
set_option maxHeartbeats 4000000
theorem at_m {α : Type} {enc : α → List A} {l : List α} {i : Nat} {x : α} (h : l[i]? = some x) : (l.map enc)[((i : Nat) : Int).toNat]? = some (enc x) := by rw [Int.toNat_natCast, List.getElem?_map, h]; rfl
set_option maxHeartbeats 2000000 in
theorem c_nums (w : List Wr.W) (m : Nat) (hw : Wr.small w) (hm : m ≤ 10) : Pure Tryd.prog 35 [.c (.r 1 (w.map eW)), .c (nI m)] (.c (.r 1 ((Wr.numsL w m).map fun n => [nI n]))) := by
  have US := Tryd.underlying9
  refine Con.intro Tryd.func35 rfl rfl rfl (fun ok e => ?_)
  repeat (first
      | (refine K.move ?_; refine JO.q rfl rfl (Nat.le_of_ble_eq_true rfl) (Qt.move rfl) ?_)
      | (refine K.assign ?_; refine JO.q rfl rfl (Nat.le_of_ble_eq_true rfl) (Qt.assign rfl) ?_)
      | (refine K.bi ?_; (refine JO.q rfl rfl (Nat.le_of_ble_eq_true rfl) (Qt.lenM rfl) ?_))
      | (refine K.lit ?_; (refine JO.lit0 rfl (Nat.le_of_ble_eq_true rfl) ?_; intro _))
      | refine JO.nil ?_
      | refine J.seq ?_
      | refine J.region ?_
      | refine J.block ?_)
  refine J.loop (ι := { q : Nat × Value // q.1 ≤ w.length ∧ (w.take q.1).all (fun x => decide (0 ≤ Wr.digN x)) = true }) (fun q => [(12, .c (nI q.1.1)), (11, .c (nI w.length)), (10, .c (.r 1 (w.map eW))), (5, .c (.v q.1.2)), (1, .c (nI m))]) (fun q => [.row q.1.2 3 1 ((w.take q.1.1).map fun x => [nI (Wr.digN x)])]) (fun q => w.length - q.1.1) ⟨(0, _), by simp⟩ (fun X h => h.weak ⟨rfl, rfl, rfl, rfl, rfl, trivial⟩) (fun q ih => ?_)
  obtain ⟨⟨i, v⟩, hI, hd⟩ := q
  simp only at hI hd ih ⊢
  have ln : ((w.take i).map fun x => [nI (Wr.digN x)]).length = i := by simp; omega
  have hw1 := hw.1
  by_cases hi : i < w.length
  · have t1 : decide ((i : Int) < (w.length : Int)) = true := decide_eq_true (by omega)
    obtain ⟨x, hx⟩ : ∃ x, w[i]? = some x := ⟨_, List.getElem?_eq_getElem hi⟩
    have AX := at_m (enc := eW) hx
    have CD := c_digits x (hw.2 x (List.mem_of_getElem? hx))
    have bd := Wr.digN_lt x
    by_cases g : Wr.digN x < 0
    · have t2 : decide (Wr.digN x < 0) = true := decide_eq_true g
      have e1 : Wr.numsL w m = [] := by
        unfold Wr.numsL
        rw [if_neg]
        intro e
        have := List.all_eq_true.1 e.1 x (List.mem_of_getElem? hx)
        simp at this; omega
      rw [e1]
      repeat (first
          | (refine K.load ?_; (refine JO.q rfl rfl (Nat.le_of_ble_eq_true rfl) (Qt.load1 rfl .el rfl) ?_))
          | (refine K.move ?_; refine JO.q rfl rfl (Nat.le_of_ble_eq_true rfl) (Qt.move rfl) ?_)
          | (refine K.assign ?_; refine JO.q rfl rfl (Nat.le_of_ble_eq_true rfl) (Qt.assign rfl) ?_)
          | (refine K.indexAddr ?_; refine JO.q rfl rfl (Nat.le_of_ble_eq_true rfl) (Qt.indexR rfl rfl (by omega) (AX)) ?_)
          | (refine K.binOp ?_; first | refine JO.q rfl rfl (Nat.le_of_ble_eq_true rfl) (Qt.cmp rfl rfl (congrArg some t1)) ?_ | refine JO.q rfl rfl (Nat.le_of_ble_eq_true rfl) (Qt.cmp rfl rfl (congrArg some t2)) ?_)
          | (refine K.call ?_; (refine JO.pure (CD) rfl (Nat.le_of_ble_eq_true rfl) rfl ?_ ?_; focus ((repeat (first | exact LeDs.nil | refine LeDs.cons LeD.refl ?_)); done)))
          | refine JO.nil ?_
          | refine J.seq ?_
          | refine J.region ?_
          | refine J.block ?_
          | refine J.skip ?_
          | refine J.cond_t rfl ?_)
      exact J.ret Tryd.func35 rfl (.cons (.tmp rfl) .nil) () (by (exact .c .nil)) [] .nil rfl rfl
    · have t2 : decide (Wr.digN x < 0) = false := decide_eq_false g
      have tk : w.take (i + 1) = w.take i ++ [x] := by rw [List.take_add_one, hx]; rfl
      have dd : (w.take (i + 1)).all (fun x => decide (0 ≤ Wr.digN x)) = true := by
        rw [tk, List.all_append, hd]
        simp; omega
      generalize hE : ((w.take i).map fun x => [nI (Wr.digN x)]) = E at ln
      repeat (first
          | (refine K.load ?_; (refine JO.q rfl rfl (Nat.le_of_ble_eq_true rfl) (Qt.load1 rfl .el rfl) ?_))
          | (refine K.move ?_; refine JO.q rfl rfl (Nat.le_of_ble_eq_true rfl) (Qt.move rfl) ?_)
          | (refine K.assign ?_; refine JO.q rfl rfl (Nat.le_of_ble_eq_true rfl) (Qt.assign rfl) ?_)
          | (refine K.indexAddr ?_; refine JO.q rfl rfl (Nat.le_of_ble_eq_true rfl) (Qt.indexR rfl rfl (by omega) (AX)) ?_)
          | (refine K.binOp ?_; first | refine JO.q rfl rfl (Nat.le_of_ble_eq_true rfl) (Qt.cmp rfl rfl (congrArg some t1)) ?_ | refine JO.q rfl rfl (Nat.le_of_ble_eq_true rfl) (Qt.cmp rfl rfl (congrArg some t2)) ?_ | refine JO.q rfl rfl (Nat.le_of_ble_eq_true rfl) (Qt.ari rfl rfl rfl (w64 (by omega) (by omega))) ?_)
          | (refine K.call ?_; (refine JO.pure (CD) rfl (Nat.le_of_ble_eq_true rfl) rfl ?_ ?_; focus ((repeat (first | exact LeDs.nil | refine LeDs.cons LeD.refl ?_)); done)))
          | (refine K.lit ?_; (refine JO.lit1 rfl (Nat.le_of_ble_eq_true rfl) rfl rfl rfl rfl rfl ?_; intro _))
          | (refine K.bi ?_; ((refine JO.ld (Ld.appOw (Nat.le_of_ble_eq_true rfl) rfl rfl .ownC (by (simp; omega))) rfl (fun _ => ?_))))
          | refine JO.nil ?_
          | refine J.seq ?_
          | refine J.region ?_
          | refine J.block ?_
          | refine J.inBlock ?_
          | refine J.skip ?_
          | refine J.cond_t rfl ?_
          | refine J.cond_f rfl ?_)
      refine J.dropN 1 ?_
      refine J.congL ?_ ((ih ⟨(i + 1, _), by omega, dd⟩ (by simp only; omega)).weak ⟨rfl, rfl, rfl, rfl, rfl, trivial⟩)
      simp only
      rw [tk, List.map_append, hE]
      rfl
  · obtain rfl : i = w.length := by omega
    have t1 : decide ((w.length : Int) < (w.length : Int)) = false := decide_eq_false (by omega)
    rw [List.take_length] at hd ln ⊢
    by_cases g : w.length = m
    · have t2 : ((w.length : Int) != (m : Int)) = false := by rw [g]; simp
      have e1 : Wr.numsL w m = w.map Wr.digN := by unfold Wr.numsL; rw [if_pos ⟨hd, g⟩]
      rw [e1]
      generalize hE : (w.map fun x => [nI (Wr.digN x)]) = E at ln ⊢
      have t3 : ((E.length : Int) != (m : Int)) = false := by rw [ln]; exact t2
      repeat (first
          | (refine K.move ?_; refine JO.q rfl rfl (Nat.le_of_ble_eq_true rfl) (Qt.move rfl) ?_)
          | (refine K.assign ?_; refine JO.q rfl rfl (Nat.le_of_ble_eq_true rfl) (Qt.assign rfl) ?_)
          | (refine K.binOp ?_; first | refine JO.q rfl rfl (Nat.le_of_ble_eq_true rfl) (Qt.cmp rfl rfl (congrArg some t1)) ?_ | refine JO.q rfl rfl (Nat.le_of_ble_eq_true rfl) (Qt.cmp rfl rfl (congrArg some t3)) ?_)
          | (refine K.bi ?_; (refine JO.q rfl rfl (Nat.le_of_ble_eq_true rfl) (Qt.lenO rfl) ?_))
          | refine JO.nil ?_
          | refine J.seq ?_
          | refine J.region ?_
          | refine J.skip ?_
          | refine J.exit rfl ?_
          | refine J.cond_f rfl ?_)
      refine J.frzS 4 rfl ?_
      refine J.ret Tryd.func35 rfl (.cons (.tmp rfl) .nil) () (.of_eq ?_) [] .nil rfl rfl
      rw [← hE]; simp [oneD]
    · have t2 : ((w.length : Int) != (m : Int)) = true := by simp; omega
      have e1 : Wr.numsL w m = [] := by unfold Wr.numsL; rw [if_neg (fun e => g e.2)]
      rw [e1]
      generalize hE : (w.map fun x => [nI (Wr.digN x)]) = E at ln ⊢
      have t3 : ((E.length : Int) != (m : Int)) = true := by rw [ln]; exact t2
      repeat (first
          | (refine K.move ?_; refine JO.q rfl rfl (Nat.le_of_ble_eq_true rfl) (Qt.move rfl) ?_)
          | (refine K.assign ?_; refine JO.q rfl rfl (Nat.le_of_ble_eq_true rfl) (Qt.assign rfl) ?_)
          | (refine K.binOp ?_; first | refine JO.q rfl rfl (Nat.le_of_ble_eq_true rfl) (Qt.cmp rfl rfl (congrArg some t1)) ?_ | refine JO.q rfl rfl (Nat.le_of_ble_eq_true rfl) (Qt.cmp rfl rfl (congrArg some t3)) ?_)
          | (refine K.bi ?_; (refine JO.q rfl rfl (Nat.le_of_ble_eq_true rfl) (Qt.lenO rfl) ?_))
          | refine JO.nil ?_
          | refine J.seq ?_
          | refine J.region ?_
          | refine J.exit rfl ?_
          | refine J.cond_t rfl ?_
          | refine J.cond_f rfl ?_)
      exact J.ret Tryd.func35 rfl (.cons (.tmp rfl) .nil) () (by (exact .c .nil)) [] .nil rfl rfl
def oneV (w : List Wr.W) : Pn.Cs := (Wr.one w).getD ⟨false, 0, 0⟩
def oneB (w : List Wr.W) : Bool := (Wr.one w).isSome
set_option maxHeartbeats 2000000 in
theorem c_one (w : List Wr.W) (hw : Wr.small w) : Pure Tryd.prog 48 [.c (.r 1 (w.map eW))] (.tup [.agg (eCs (oneV w)), .c (bI (oneB w))]) := by
  have US := Tryd.underlying9
  refine Con.intro Tryd.func48 rfl rfl rfl (fun ok e => ?_)
  unfold oneV oneB
  by_cases g3 : w.length = 3
  · obtain ⟨a, b, c, rfl⟩ : ∃ a b c, w = [a, b, c] := by
      match w, g3 with
      | [a, b, c], _ => exact ⟨a, b, c, rfl⟩
    have s2 : Wr.small [b, c] := ⟨by simp, fun x hx => hw.2 x (List.mem_cons_of_mem _ hx)⟩
    have CN := c_nums [b, c] 2 s2 (by omega)
    by_cases g : a = Wd.kind 2
    · subst g
      have e1 : (Wd.kind 2 == [115, 101, 110, 100]) = true := rfl
      cases hb : Wr.digs b with
      | none =>
        have e2 : Wr.numsL [b, c] 2 = [] := by unfold Wr.numsL; rw [if_neg]; simp [Wr.digN_none hb]
        have e3 : Wr.one [Wd.kind 2, b, c] = none := by simp [Wr.one, hb]
        rw [e2] at CN
        rw [e3]
        repeat (first
            | (refine K.load ?_; (refine JO.q rfl rfl (Nat.le_of_ble_eq_true rfl) (Qt.load1 rfl .el rfl) ?_))
            | (refine K.move ?_; refine JO.q rfl rfl (Nat.le_of_ble_eq_true rfl) (Qt.move rfl) ?_)
            | (refine K.store ?_; (refine JO.ld (Ld.storeW rfl rfl rfl (by exact rfl) (by exact rfl)) rfl (fun _ => ?_)))
            | (refine K.assign ?_; refine JO.q rfl rfl (Nat.le_of_ble_eq_true rfl) (Qt.assign rfl) ?_)
            | (refine K.indexAddr ?_; refine JO.q rfl rfl (Nat.le_of_ble_eq_true rfl) (Qt.indexR rfl rfl (by omega) (rfl)) ?_)
            | (refine K.binOp ?_; first | refine JO.q rfl rfl (Nat.le_of_ble_eq_true rfl) ((Qt.strE rfl rfl).eq (congrArg (fun z => D.c (.v (.bool z))) (e1))) ?_ | refine JO.q rfl rfl (Nat.le_of_ble_eq_true rfl) (Qt.cmp rfl rfl rfl) ?_)
            | (refine K.call ?_; (refine JO.pure (CN) rfl (Nat.le_of_ble_eq_true rfl) rfl ?_ ?_; focus ((repeat (first | exact LeDs.nil | refine LeDs.cons LeD.refl ?_)); done)))
            | (refine K.bi ?_; (refine JO.q rfl rfl (Nat.le_of_ble_eq_true rfl) (Qt.lenM rfl) ?_))
            | (refine JO.alloc rfl (Nat.le_of_ble_eq_true rfl) ?_; intro _)
            | (refine K.pick ?_; refine JO.q rfl rfl (Nat.le_of_ble_eq_true rfl) (Qt.pick rfl rfl) ?_)
            | (refine K.build ?_; refine JO.q rfl rfl (Nat.le_of_ble_eq_true rfl) (Qt.build rfl (by kernel_rfl)) ?_)
            | (refine K.slice ?_; refine JO.q rfl rfl (Nat.le_of_ble_eq_true rfl) (((Qt.sliceR rfl rfl rfl (by omega) (by simp) (by simp)).eq (show _ = D.c (.r 1 ([b, c].map eW)) from rfl))) ?_)
            | refine JO.nil ?_
            | refine J.seq ?_
            | refine J.region ?_
            | refine J.skip ?_
            | refine J.cond_t rfl ?_
            | refine J.cond_f rfl ?_
            | refine JO.no rfl rfl (Nat.le_of_ble_eq_true rfl) ?_)
        (exact J.ret Tryd.func48 rfl (.cons (.cell 0 rfl rfl rfl) (.cons (.tmp rfl) .nil)) () (by (exact .refl)) [] .nil rfl rfl)
      | some x =>
        cases hc : Wr.digs c with
        | none =>
          have e2 : Wr.numsL [b, c] 2 = [] := by unfold Wr.numsL; rw [if_neg]; simp [Wr.digN_none hc]
          have e3 : Wr.one [Wd.kind 2, b, c] = none := by simp [Wr.one, hb, hc]
          rw [e2] at CN
          rw [e3]
          repeat (first
              | (refine K.load ?_; (refine JO.q rfl rfl (Nat.le_of_ble_eq_true rfl) (Qt.load1 rfl .el rfl) ?_))
              | (refine K.move ?_; refine JO.q rfl rfl (Nat.le_of_ble_eq_true rfl) (Qt.move rfl) ?_)
              | (refine K.store ?_; (refine JO.ld (Ld.storeW rfl rfl rfl (by exact rfl) (by exact rfl)) rfl (fun _ => ?_)))
              | (refine K.assign ?_; refine JO.q rfl rfl (Nat.le_of_ble_eq_true rfl) (Qt.assign rfl) ?_)
              | (refine K.indexAddr ?_; refine JO.q rfl rfl (Nat.le_of_ble_eq_true rfl) (Qt.indexR rfl rfl (by omega) (rfl)) ?_)
              | (refine K.binOp ?_; first | refine JO.q rfl rfl (Nat.le_of_ble_eq_true rfl) ((Qt.strE rfl rfl).eq (congrArg (fun z => D.c (.v (.bool z))) (e1))) ?_ | refine JO.q rfl rfl (Nat.le_of_ble_eq_true rfl) (Qt.cmp rfl rfl rfl) ?_)
              | (refine K.call ?_; (refine JO.pure (CN) rfl (Nat.le_of_ble_eq_true rfl) rfl ?_ ?_; focus ((repeat (first | exact LeDs.nil | refine LeDs.cons LeD.refl ?_)); done)))
              | (refine K.bi ?_; (refine JO.q rfl rfl (Nat.le_of_ble_eq_true rfl) (Qt.lenM rfl) ?_))
              | (refine JO.alloc rfl (Nat.le_of_ble_eq_true rfl) ?_; intro _)
              | (refine K.pick ?_; refine JO.q rfl rfl (Nat.le_of_ble_eq_true rfl) (Qt.pick rfl rfl) ?_)
              | (refine K.build ?_; refine JO.q rfl rfl (Nat.le_of_ble_eq_true rfl) (Qt.build rfl (by kernel_rfl)) ?_)
              | (refine K.slice ?_; refine JO.q rfl rfl (Nat.le_of_ble_eq_true rfl) (((Qt.sliceR rfl rfl rfl (by omega) (by simp) (by simp)).eq (show _ = D.c (.r 1 ([b, c].map eW)) from rfl))) ?_)
              | refine JO.nil ?_
              | refine J.seq ?_
              | refine J.region ?_
              | refine J.skip ?_
              | refine J.cond_t rfl ?_
              | refine J.cond_f rfl ?_
              | refine JO.no rfl rfl (Nat.le_of_ble_eq_true rfl) ?_)
          (exact J.ret Tryd.func48 rfl (.cons (.cell 0 rfl rfl rfl) (.cons (.tmp rfl) .nil)) () (by (exact .refl)) [] .nil rfl rfl)
        | some y =>
          have e2 : Wr.numsL [b, c] 2 = [(x : Int), (y : Int)] := by unfold Wr.numsL; rw [if_pos]; simp [Wr.digN_some hb, Wr.digN_some hc]; simp [Wr.digN_some hb, Wr.digN_some hc]
          have e3 : Wr.one [Wd.kind 2, b, c] = some ⟨true, x, y⟩ := by simp [Wr.one, hb, hc]
          rw [e2] at CN
          rw [e3]
          repeat (first
              | (refine K.load ?_; (refine JO.q rfl rfl (Nat.le_of_ble_eq_true rfl) (Qt.load1 rfl .el rfl) ?_))
              | (refine K.move ?_; refine JO.q rfl rfl (Nat.le_of_ble_eq_true rfl) (Qt.move rfl) ?_)
              | (refine K.assign ?_; refine JO.q rfl rfl (Nat.le_of_ble_eq_true rfl) (Qt.assign rfl) ?_)
              | (refine K.indexAddr ?_; refine JO.q rfl rfl (Nat.le_of_ble_eq_true rfl) (Qt.indexR rfl rfl (by omega) (rfl)) ?_)
              | (refine K.binOp ?_; first | refine JO.q rfl rfl (Nat.le_of_ble_eq_true rfl) ((Qt.strE rfl rfl).eq (congrArg (fun z => D.c (.v (.bool z))) (e1))) ?_ | refine JO.q rfl rfl (Nat.le_of_ble_eq_true rfl) (Qt.cmp rfl rfl rfl) ?_)
              | (refine K.call ?_; (refine JO.pure (CN) rfl (Nat.le_of_ble_eq_true rfl) rfl ?_ ?_; focus ((repeat (first | exact LeDs.nil | refine LeDs.cons LeD.refl ?_)); done)))
              | (refine K.bi ?_; (refine JO.q rfl rfl (Nat.le_of_ble_eq_true rfl) (Qt.lenM rfl) ?_))
              | (refine JO.alloc rfl (Nat.le_of_ble_eq_true rfl) ?_; intro _)
              | (refine K.pick ?_; refine JO.q rfl rfl (Nat.le_of_ble_eq_true rfl) (Qt.pick rfl rfl) ?_)
              | (refine K.slice ?_; refine JO.q rfl rfl (Nat.le_of_ble_eq_true rfl) (((Qt.sliceR rfl rfl rfl (by omega) (by simp) (by simp)).eq (show _ = D.c (.r 1 ([b, c].map eW)) from rfl))) ?_)
              | refine JO.nil ?_
              | refine J.seq ?_
              | refine J.region ?_
              | refine J.cond_t rfl ?_)
          refine J.draw (by kernel_rfl) rfl ?_
          refine JW.base (some 7) ?_
          refine JD.take 0 rfl rfl (by kernel_rfl) rfl (Nat.le_of_ble_eq_true rfl) (Qt.move rfl) rfl ?_
          refine JD.take 1 rfl rfl (by kernel_rfl) rfl (Nat.le_of_ble_eq_true rfl) (Qt.indexR rfl rfl (by omega) rfl) rfl ?_
          (refine JD.take 2 rfl rfl (by kernel_rfl) rfl (Nat.le_of_ble_eq_true rfl) (Qt.load1 rfl .el rfl) rfl ?_)
          refine JD.take 3 rfl rfl (by kernel_rfl) rfl (Nat.le_of_ble_eq_true rfl) (Qt.move rfl) rfl ?_
          refine JD.take 4 rfl rfl (by kernel_rfl) rfl (Nat.le_of_ble_eq_true rfl) (Qt.indexR rfl rfl (by omega) rfl) rfl ?_
          (refine JD.take 5 rfl rfl (by kernel_rfl) rfl (Nat.le_of_ble_eq_true rfl) (Qt.load1 rfl .el rfl) rfl ?_)
          refine JD.take 6 rfl rfl (by kernel_rfl) rfl (Nat.le_of_ble_eq_true rfl) (Qt.build rfl (by kernel_rfl)) rfl ?_
          refine JD.each1 (i := 7) (by kernel_rfl) ?_
          (refine JS.last rfl rfl (Ld.storeW rfl rfl rfl (by exact rfl) (by exact rfl)) (fun _ => ?_))
          refine JW.base none ?_
          refine JD.take 8 rfl rfl (by kernel_rfl) rfl (Nat.le_of_ble_eq_true rfl) (Qt.assign rfl) rfl ?_
          refine JD.done (by kernel_rfl) ?_
          all_goals
            (exact J.ret Tryd.func48 rfl (.cons (.cell 0 rfl rfl rfl) (.cons (.tmp rfl) .nil)) () (by (exact .refl)) [] .nil rfl rfl)
    · have e1 : (a == [115, 101, 110, 100]) = false := by rw [beq_eq_false_iff_ne]; exact g
      have e3 : Wr.one [a, b, c] = none := by simp [Wr.one, g]
      rw [e3]
      repeat (first
          | (refine K.load ?_; (refine JO.q rfl rfl (Nat.le_of_ble_eq_true rfl) (Qt.load1 rfl .el rfl) ?_))
          | (refine K.move ?_; refine JO.q rfl rfl (Nat.le_of_ble_eq_true rfl) (Qt.move rfl) ?_)
          | (refine K.store ?_; (refine JO.ld (Ld.storeW rfl rfl rfl (by exact rfl) (by exact rfl)) rfl (fun _ => ?_)))
          | (refine K.assign ?_; refine JO.q rfl rfl (Nat.le_of_ble_eq_true rfl) (Qt.assign rfl) ?_)
          | (refine K.indexAddr ?_; refine JO.q rfl rfl (Nat.le_of_ble_eq_true rfl) (Qt.indexR rfl rfl (by omega) (rfl)) ?_)
          | (refine K.binOp ?_; first | refine JO.q rfl rfl (Nat.le_of_ble_eq_true rfl) ((Qt.strE rfl rfl).eq (congrArg (fun z => D.c (.v (.bool z))) (e1))) ?_ | refine JO.q rfl rfl (Nat.le_of_ble_eq_true rfl) (Qt.cmp rfl rfl rfl) ?_)
          | (refine K.bi ?_; (refine JO.q rfl rfl (Nat.le_of_ble_eq_true rfl) (Qt.lenM rfl) ?_))
          | (refine JO.alloc rfl (Nat.le_of_ble_eq_true rfl) ?_; intro _)
          | (refine K.pick ?_; refine JO.q rfl rfl (Nat.le_of_ble_eq_true rfl) (Qt.pick rfl rfl) ?_)
          | (refine K.build ?_; refine JO.q rfl rfl (Nat.le_of_ble_eq_true rfl) (Qt.build rfl (by kernel_rfl)) ?_)
          | refine JO.nil ?_
          | refine J.seq ?_
          | refine J.region ?_
          | refine J.skip ?_
          | refine J.cond_f rfl ?_
          | refine JO.no rfl rfl (Nat.le_of_ble_eq_true rfl) ?_)
      (exact J.ret Tryd.func48 rfl (.cons (.cell 0 rfl rfl rfl) (.cons (.tmp rfl) .nil)) () (by (exact .refl)) [] .nil rfl rfl)
  · have t3 : ((w.length : Int) == 3) = false := by rw [beq_eq_false_iff_ne]; omega
    by_cases g2 : w.length = 2
    · obtain ⟨a, b, rfl⟩ : ∃ a b, w = [a, b] := by
        match w, g2 with
        | [a, b], _ => exact ⟨a, b, rfl⟩
      have s2 : Wr.small [b] := ⟨by simp, fun x hx => hw.2 x (List.mem_cons_of_mem _ hx)⟩
      have CN := c_nums [b] 1 s2 (by omega)
      by_cases g : a = Wd.kind 3
      · subst g
        have e1 : (Wd.kind 3 == [114, 101, 99, 118]) = true := rfl
        cases hb : Wr.digs b with
        | none =>
          have e2 : Wr.numsL [b] 1 = [] := by unfold Wr.numsL; rw [if_neg]; simp [Wr.digN_none hb]
          have e3 : Wr.one [Wd.kind 3, b] = none := by simp [Wr.one, hb]
          rw [e2] at CN
          rw [e3]
          repeat (first
              | (refine K.load ?_; (refine JO.q rfl rfl (Nat.le_of_ble_eq_true rfl) (Qt.load1 rfl .el rfl) ?_))
              | (refine K.move ?_; refine JO.q rfl rfl (Nat.le_of_ble_eq_true rfl) (Qt.move rfl) ?_)
              | (refine K.store ?_; (refine JO.ld (Ld.storeW rfl rfl rfl (by exact rfl) (by exact rfl)) rfl (fun _ => ?_)))
              | (refine K.assign ?_; refine JO.q rfl rfl (Nat.le_of_ble_eq_true rfl) (Qt.assign rfl) ?_)
              | (refine K.indexAddr ?_; refine JO.q rfl rfl (Nat.le_of_ble_eq_true rfl) (Qt.indexR rfl rfl (by omega) (rfl)) ?_)
              | (refine K.binOp ?_; first | refine JO.q rfl rfl (Nat.le_of_ble_eq_true rfl) ((Qt.strE rfl rfl).eq (congrArg (fun z => D.c (.v (.bool z))) (e1))) ?_ | refine JO.q rfl rfl (Nat.le_of_ble_eq_true rfl) (Qt.cmp rfl rfl rfl) ?_)
              | (refine K.call ?_; (refine JO.pure (CN) rfl (Nat.le_of_ble_eq_true rfl) rfl ?_ ?_; focus ((repeat (first | exact LeDs.nil | refine LeDs.cons LeD.refl ?_)); done)))
              | (refine K.bi ?_; (refine JO.q rfl rfl (Nat.le_of_ble_eq_true rfl) (Qt.lenM rfl) ?_))
              | (refine JO.alloc rfl (Nat.le_of_ble_eq_true rfl) ?_; intro _)
              | (refine K.pick ?_; refine JO.q rfl rfl (Nat.le_of_ble_eq_true rfl) (Qt.pick rfl rfl) ?_)
              | (refine K.build ?_; refine JO.q rfl rfl (Nat.le_of_ble_eq_true rfl) (Qt.build rfl (by kernel_rfl)) ?_)
              | (refine K.slice ?_; refine JO.q rfl rfl (Nat.le_of_ble_eq_true rfl) (((Qt.sliceR rfl rfl rfl (by omega) (by simp) (by simp)).eq (show _ = D.c (.r 1 ([b].map eW)) from rfl))) ?_)
              | refine JO.nil ?_
              | refine J.seq ?_
              | refine J.region ?_
              | refine J.skip ?_
              | refine J.cond_t rfl ?_
              | refine J.cond_f rfl ?_
              | refine JO.no rfl rfl (Nat.le_of_ble_eq_true rfl) ?_)
          (exact J.ret Tryd.func48 rfl (.cons (.cell 0 rfl rfl rfl) (.cons (.tmp rfl) .nil)) () (by (exact .refl)) [] .nil rfl rfl)
        | some x =>
          have e2 : Wr.numsL [b] 1 = [(x : Int)] := by unfold Wr.numsL; rw [if_pos]; simp [Wr.digN_some hb]; simp [Wr.digN_some hb]
          have e3 : Wr.one [Wd.kind 3, b] = some ⟨false, x, 0⟩ := by simp [Wr.one, hb]
          rw [e2] at CN
          rw [e3]
          repeat (first
              | (refine K.load ?_; (refine JO.q rfl rfl (Nat.le_of_ble_eq_true rfl) (Qt.load1 rfl .el rfl) ?_))
              | (refine K.move ?_; refine JO.q rfl rfl (Nat.le_of_ble_eq_true rfl) (Qt.move rfl) ?_)
              | (refine K.store ?_; (refine JO.ld (Ld.storeW rfl rfl rfl (by exact rfl) (by exact rfl)) rfl (fun _ => ?_)))
              | (refine K.assign ?_; refine JO.q rfl rfl (Nat.le_of_ble_eq_true rfl) (Qt.assign rfl) ?_)
              | (refine K.indexAddr ?_; refine JO.q rfl rfl (Nat.le_of_ble_eq_true rfl) (Qt.indexR rfl rfl (by omega) (rfl)) ?_)
              | (refine K.binOp ?_; first | refine JO.q rfl rfl (Nat.le_of_ble_eq_true rfl) ((Qt.strE rfl rfl).eq (congrArg (fun z => D.c (.v (.bool z))) (e1))) ?_ | refine JO.q rfl rfl (Nat.le_of_ble_eq_true rfl) (Qt.cmp rfl rfl rfl) ?_)
              | (refine K.call ?_; (refine JO.pure (CN) rfl (Nat.le_of_ble_eq_true rfl) rfl ?_ ?_; focus ((repeat (first | exact LeDs.nil | refine LeDs.cons LeD.refl ?_)); done)))
              | (refine K.bi ?_; (refine JO.q rfl rfl (Nat.le_of_ble_eq_true rfl) (Qt.lenM rfl) ?_))
              | (refine JO.alloc rfl (Nat.le_of_ble_eq_true rfl) ?_; intro _)
              | (refine K.pick ?_; refine JO.q rfl rfl (Nat.le_of_ble_eq_true rfl) (Qt.pick rfl rfl) ?_)
              | (refine K.build ?_; refine JO.q rfl rfl (Nat.le_of_ble_eq_true rfl) (Qt.build rfl (by kernel_rfl)) ?_)
              | (refine K.slice ?_; refine JO.q rfl rfl (Nat.le_of_ble_eq_true rfl) (((Qt.sliceR rfl rfl rfl (by omega) (by simp) (by simp)).eq (show _ = D.c (.r 1 ([b].map eW)) from rfl))) ?_)
              | refine JO.nil ?_
              | refine J.seq ?_
              | refine J.region ?_
              | refine J.skip ?_
              | refine J.cond_t rfl ?_
              | refine J.cond_f rfl ?_
              | refine JO.no rfl rfl (Nat.le_of_ble_eq_true rfl) ?_)
          (exact J.ret Tryd.func48 rfl (.cons (.cell 0 rfl rfl rfl) (.cons (.tmp rfl) .nil)) () (by (exact .refl)) [] .nil rfl rfl)
      · have e1 : (a == [114, 101, 99, 118]) = false := by rw [beq_eq_false_iff_ne]; exact g
        have e3 : Wr.one [a, b] = none := by simp [Wr.one, g]
        rw [e3]
        repeat (first
            | (refine K.load ?_; (refine JO.q rfl rfl (Nat.le_of_ble_eq_true rfl) (Qt.load1 rfl .el rfl) ?_))
            | (refine K.move ?_; refine JO.q rfl rfl (Nat.le_of_ble_eq_true rfl) (Qt.move rfl) ?_)
            | (refine K.store ?_; (refine JO.ld (Ld.storeW rfl rfl rfl (by exact rfl) (by exact rfl)) rfl (fun _ => ?_)))
            | (refine K.assign ?_; refine JO.q rfl rfl (Nat.le_of_ble_eq_true rfl) (Qt.assign rfl) ?_)
            | (refine K.indexAddr ?_; refine JO.q rfl rfl (Nat.le_of_ble_eq_true rfl) (Qt.indexR rfl rfl (by omega) (rfl)) ?_)
            | (refine K.binOp ?_; first | refine JO.q rfl rfl (Nat.le_of_ble_eq_true rfl) ((Qt.strE rfl rfl).eq (congrArg (fun z => D.c (.v (.bool z))) (e1))) ?_ | refine JO.q rfl rfl (Nat.le_of_ble_eq_true rfl) (Qt.cmp rfl rfl rfl) ?_)
            | (refine K.bi ?_; (refine JO.q rfl rfl (Nat.le_of_ble_eq_true rfl) (Qt.lenM rfl) ?_))
            | (refine JO.alloc rfl (Nat.le_of_ble_eq_true rfl) ?_; intro _)
            | (refine K.pick ?_; refine JO.q rfl rfl (Nat.le_of_ble_eq_true rfl) (Qt.pick rfl rfl) ?_)
            | (refine K.build ?_; refine JO.q rfl rfl (Nat.le_of_ble_eq_true rfl) (Qt.build rfl (by kernel_rfl)) ?_)
            | refine JO.nil ?_
            | refine J.seq ?_
            | refine J.region ?_
            | refine J.skip ?_
            | refine J.cond_f rfl ?_
            | refine JO.no rfl rfl (Nat.le_of_ble_eq_true rfl) ?_)
        (exact J.ret Tryd.func48 rfl (.cons (.cell 0 rfl rfl rfl) (.cons (.tmp rfl) .nil)) () (by (exact .refl)) [] .nil rfl rfl)
    · have t2 : ((w.length : Int) == 2) = false := by rw [beq_eq_false_iff_ne]; omega
      have e3 : Wr.one w = none := by
        match w, g3, g2 with
        | [], _, _ => rfl
        | [_], _, _ => rfl
        | _ :: _ :: _ :: _ :: _, _, _ => rfl
      rw [e3]
      repeat (first
          | (refine K.move ?_; refine JO.q rfl rfl (Nat.le_of_ble_eq_true rfl) (Qt.move rfl) ?_)
          | (refine K.store ?_; (refine JO.ld (Ld.storeW rfl rfl rfl (by exact rfl) (by exact rfl)) rfl (fun _ => ?_)))
          | (refine K.assign ?_; refine JO.q rfl rfl (Nat.le_of_ble_eq_true rfl) (Qt.assign rfl) ?_)
          | (refine K.binOp ?_; first | refine JO.q rfl rfl (Nat.le_of_ble_eq_true rfl) (Qt.cmp rfl rfl (congrArg some t3)) ?_ | refine JO.q rfl rfl (Nat.le_of_ble_eq_true rfl) (Qt.cmp rfl rfl (congrArg some t2)) ?_)
          | (refine K.bi ?_; (refine JO.q rfl rfl (Nat.le_of_ble_eq_true rfl) (Qt.lenM rfl) ?_))
          | (refine JO.alloc rfl (Nat.le_of_ble_eq_true rfl) ?_; intro _)
          | (refine K.pick ?_; refine JO.q rfl rfl (Nat.le_of_ble_eq_true rfl) (Qt.pick rfl rfl) ?_)
          | (refine K.build ?_; refine JO.q rfl rfl (Nat.le_of_ble_eq_true rfl) (Qt.build rfl (by kernel_rfl)) ?_)
          | refine JO.nil ?_
          | refine J.seq ?_
          | refine J.region ?_
          | refine J.skip ?_
          | refine J.cond_f rfl ?_
          | refine JO.no rfl rfl (Nat.le_of_ble_eq_true rfl) ?_)
      (exact J.ret Tryd.func48 rfl (.cons (.cell 0 rfl rfl rfl) (.cons (.tmp rfl) .nil)) () (by (exact .refl)) [] .nil rfl rfl)
end Fl
end Go.Proofs.YtbjnbngpjdoejaaDoor
namespace Go.Proofs.YtbjnbngpjdoejaaDoor
open Go.RowKit
set_option linter.unusedVariables false
set_option linter.unusedSimpArgs false
set_option linter.unnecessarySimpa false
namespace Fl
set_option maxRecDepth 100000
set_option maxHeartbeats 4000000
set_option maxHeartbeats 2000000 in
theorem c_readNums (s : Wr.W) (hs : s.length ≤ 60000) : PureW Hw Tryd.prog 31 [.c (sA s)] (.tup [.c (nI (Wr.nums s).1), .c (nI (Wr.nums s).2)]) := by
  have CS := l_splitN s [32] 4 (by omega) (by simp) (by omega) (by omega)
  have ln := Wr.spl_count (sep := [32]) 3 s
  have sm := Wr.spl_small (sep := [32]) 3 s
  unfold Wr.nums
  generalize Wr.spl [32] 3 s = l at CS ln sm ⊢
  refine ConW.intro Tryd.func31 rfl rfl rfl (fun ok e hT => ?_)
  have hW : ∀ w, Keeps [] e w → Hw w := fun w k => hT.grows k
  rcases l with _ | ⟨a, _ | ⟨b, _ | ⟨c, t⟩⟩⟩
  · repeat (first
      | (refine K.move ?_; refine JO.q rfl rfl (Nat.le_of_ble_eq_true rfl) (Qt.move rfl) ?_)
      | (refine K.assign ?_; refine JO.q rfl rfl (Nat.le_of_ble_eq_true rfl) (Qt.assign rfl) ?_)
      | (refine K.binOp ?_; (refine JO.q rfl rfl (Nat.le_of_ble_eq_true rfl) (Qt.cmp rfl rfl rfl) ?_))
      | (refine K.call ?_; (refine JO.ld (Ld.pureW hW (CS) (Nat.le_of_ble_eq_true rfl) rfl ?_) rfl (fun _ => ?_); focus ((repeat (first | exact LeDs.nil | refine LeDs.cons LeD.refl ?_)); done)))
      | (refine K.bi ?_; (refine JO.q rfl rfl (Nat.le_of_ble_eq_true rfl) (Qt.lenM rfl) ?_))
      | refine JO.nil ?_
      | refine J.seq ?_
      | refine J.region ?_
      | refine J.skip ?_
      | refine J.cond_f rfl ?_)
    exact J.ret Tryd.func31 rfl (.cons (.tmp rfl) (.cons (.tmp rfl) .nil)) () (by (exact .refl)) [] .nil rfl rfl
  · repeat (first
      | (refine K.move ?_; refine JO.q rfl rfl (Nat.le_of_ble_eq_true rfl) (Qt.move rfl) ?_)
      | (refine K.assign ?_; refine JO.q rfl rfl (Nat.le_of_ble_eq_true rfl) (Qt.assign rfl) ?_)
      | (refine K.binOp ?_; (refine JO.q rfl rfl (Nat.le_of_ble_eq_true rfl) (Qt.cmp rfl rfl rfl) ?_))
      | (refine K.call ?_; (refine JO.ld (Ld.pureW hW (CS) (Nat.le_of_ble_eq_true rfl) rfl ?_) rfl (fun _ => ?_); focus ((repeat (first | exact LeDs.nil | refine LeDs.cons LeD.refl ?_)); done)))
      | (refine K.bi ?_; (refine JO.q rfl rfl (Nat.le_of_ble_eq_true rfl) (Qt.lenM rfl) ?_))
      | refine JO.nil ?_
      | refine J.seq ?_
      | refine J.region ?_
      | refine J.skip ?_
      | refine J.cond_f rfl ?_)
    exact J.ret Tryd.func31 rfl (.cons (.tmp rfl) (.cons (.tmp rfl) .nil)) () (by (exact .refl)) [] .nil rfl rfl
  · have CB := l_atoi b (by have := sm b (by simp); omega)
    repeat (first
        | (refine K.load ?_; (refine JO.q rfl rfl (Nat.le_of_ble_eq_true rfl) (Qt.load1 rfl .el rfl) ?_))
        | (refine K.move ?_; refine JO.q rfl rfl (Nat.le_of_ble_eq_true rfl) (Qt.move rfl) ?_)
        | (refine K.assign ?_; refine JO.q rfl rfl (Nat.le_of_ble_eq_true rfl) (Qt.assign rfl) ?_)
        | (refine K.indexAddr ?_; refine JO.q rfl rfl (Nat.le_of_ble_eq_true rfl) (Qt.indexR rfl rfl (by omega) (rfl)) ?_)
        | (refine K.binOp ?_; (refine JO.q rfl rfl (Nat.le_of_ble_eq_true rfl) (Qt.cmp rfl rfl rfl) ?_))
        | (refine K.call ?_; first | (refine JO.ld (Ld.pureW hW (CS) (Nat.le_of_ble_eq_true rfl) rfl ?_) rfl (fun _ => ?_); focus ((repeat (first | exact LeDs.nil | refine LeDs.cons LeD.refl ?_)); done)) | (refine JO.ld (Ld.pureW hW (CB) (Nat.le_of_ble_eq_true rfl) rfl ?_) rfl (fun _ => ?_); focus ((repeat (first | exact LeDs.nil | refine LeDs.cons LeD.refl ?_)); done)))
        | (refine K.bi ?_; (refine JO.q rfl rfl (Nat.le_of_ble_eq_true rfl) (Qt.lenM rfl) ?_))
        | (refine K.extract ?_; refine JO.q rfl rfl (Nat.le_of_ble_eq_true rfl) (Qt.extract rfl rfl) ?_)
        | refine JO.nil ?_
        | refine J.seq ?_
        | refine J.region ?_
        | refine J.skip ?_
        | refine J.cond_t rfl ?_
        | refine J.cond_f rfl ?_)
    exact J.ret Tryd.func31 rfl (.cons (.tmp rfl) (.cons (.tmp rfl) .nil)) () (by (exact .refl)) [] .nil rfl rfl
  · have CB := l_atoi b (by have := sm b (by simp); omega)
    have CC := l_atoi c (by have := sm c (by simp); omega)
    have u1 : decide ((1 : Int) < ((a :: b :: c :: t).length : Int)) = true := decide_eq_true (by simp; omega)
    have u2 : decide ((2 : Int) < ((a :: b :: c :: t).length : Int)) = true := decide_eq_true (by simp; omega)
    rw [if_pos (by simp), if_pos (by simp)]
    repeat (first
        | (refine K.load ?_; (refine JO.q rfl rfl (Nat.le_of_ble_eq_true rfl) (Qt.load1 rfl .el rfl) ?_))
        | (refine K.move ?_; refine JO.q rfl rfl (Nat.le_of_ble_eq_true rfl) (Qt.move rfl) ?_)
        | (refine K.assign ?_; refine JO.q rfl rfl (Nat.le_of_ble_eq_true rfl) (Qt.assign rfl) ?_)
        | (refine K.indexAddr ?_; refine JO.q rfl rfl (Nat.le_of_ble_eq_true rfl) (Qt.indexR rfl rfl (by omega) (rfl)) ?_)
        | (refine K.binOp ?_; first | refine JO.q rfl rfl (Nat.le_of_ble_eq_true rfl) (Qt.cmp rfl rfl (congrArg some u1)) ?_ | refine JO.q rfl rfl (Nat.le_of_ble_eq_true rfl) (Qt.cmp rfl rfl (congrArg some u2)) ?_)
        | (refine K.call ?_; first | (refine JO.ld (Ld.pureW hW (CS) (Nat.le_of_ble_eq_true rfl) rfl ?_) rfl (fun _ => ?_); focus ((repeat (first | exact LeDs.nil | refine LeDs.cons LeD.refl ?_)); done)) | (refine JO.ld (Ld.pureW hW (CB) (Nat.le_of_ble_eq_true rfl) rfl ?_) rfl (fun _ => ?_); focus ((repeat (first | exact LeDs.nil | refine LeDs.cons LeD.refl ?_)); done)) | (refine JO.ld (Ld.pureW hW (CC) (Nat.le_of_ble_eq_true rfl) rfl ?_) rfl (fun _ => ?_); focus ((repeat (first | exact LeDs.nil | refine LeDs.cons LeD.refl ?_)); done)))
        | (refine K.bi ?_; (refine JO.q rfl rfl (Nat.le_of_ble_eq_true rfl) (Qt.lenM rfl) ?_))
        | (refine K.extract ?_; refine JO.q rfl rfl (Nat.le_of_ble_eq_true rfl) (Qt.extract rfl rfl) ?_)
        | refine JO.nil ?_
        | refine J.seq ?_
        | refine J.region ?_
        | refine J.cond_t rfl ?_)
    exact J.ret Tryd.func31 rfl (.cons (.tmp rfl) (.cons (.tmp rfl) .nil)) () (by (exact .refl)) [] .nil rfl rfl
theorem behind_lib (p s : Wr.W) : Wr.behind p s = if Lib.hasPrefix s p = true then some (s.drop p.length) else none := rfl
theorem trim_lib (p s : Wr.W) : Lib.trimPrefix s p = (Wr.behind p s).getD s := by
  unfold Lib.trimPrefix; rw [behind_lib]; split <;> rfl
theorem caseOf_isI (s : Wr.W) : isI (Wr.caseOf s).ch ∧ isI (Wr.caseOf s).v := by
  have z : isI 0 := by unfold isI; omega
  have n : ∀ x, isI (Wr.nums x).1 ∧ isI (Wr.nums x).2 := fun x => by
    unfold Wr.nums
    refine ⟨?_, ?_⟩
    · simp only; split; exact Wr.atV_isI _; exact z
    · simp only; split; exact Wr.atV_isI _; exact z
  unfold Wr.caseOf
  split
  · exact n _
  · exact n _
theorem cases_snoc (l : List Wr.W) (x : Wr.W) : Wr.casesOf (l ++ [x]) = if x = Wr.elseW then Wr.casesOf l else Wr.casesOf l ++ [Wr.caseOf x] := by
  unfold Wr.casesOf
  by_cases h : x = Wr.elseW
  · rw [if_pos h]; simp [h]
  · rw [if_neg h]; simp [h]
theorem else_snoc (l : List Wr.W) (x : Wr.W) : Wr.elseOf (l ++ [x]) = (Wr.elseOf l || (x == Wr.elseW)) := by
  unfold Wr.elseOf; simp
set_option maxHeartbeats 2000000 in
theorem c_readParts (b : Nat) (s : Wr.W) (hs : s.length ≤ 60000) : ConW Hw Tryd.prog 32 [.c (.v (.pointer (some ⟨b, 0, none⟩))), .c (sA s)] [.box b 36 [nI 9, nI 0, nI 0, nI 0, .v (.slice none 0 0), bI false]]
    (fun _ : Unit => (.tup [], [.box b 36 (eOp ⟨9, 0, 0, 0, Wr.casesOf (Wr.spl Wd.bar 8 s).tail, Wr.elseOf (Wr.spl Wd.bar 8 s).tail⟩)])) := by
  have CS := l_splitN s Wd.bar 9 (by omega) (by simp [Wd.bar]) (by omega) (by omega)
  have ln := Wr.spl_count (sep := Wd.bar) 8 s
  have sm := Wr.spl_small (sep := Wd.bar) 8 s
  generalize Wr.spl Wd.bar 8 s = l at CS ln sm ⊢
  refine ConW.introH Tryd.func32 rfl rfl rfl (fun ok e hT hL => ?_)
  have hW : ∀ w, Keeps [b] e w → Hw w := fun w k => by
    obtain ⟨ok', h⟩ := hL
    obtain ⟨vs, h1, h2⟩ := h _ (List.mem_singleton.2 rfl)
    exact hT.keeps h1 (by have := h2.len; simpa using this) k
  clear hL
  repeat (first
      | (refine K.move ?_; refine JO.q rfl rfl (Nat.le_of_ble_eq_true rfl) (Qt.move rfl) ?_)
      | (refine K.call ?_; (refine JO.ld (Ld.pureW hW (CS) (Nat.le_of_ble_eq_true rfl) rfl ?_) rfl (fun _ => ?_); focus ((repeat (first | exact LeDs.nil | refine LeDs.cons LeD.refl ?_)); done)))
      | (refine K.bi ?_; (refine JO.q rfl rfl (Nat.le_of_ble_eq_true rfl) (Qt.lenM rfl) ?_))
      | refine JO.nil ?_
      | refine J.seq ?_
      | refine J.region ?_
      | refine J.block ?_)
  refine J.nilQ 33 3 ?_
  refine J.loop (ι := { q : Nat × Value // q.1 ≤ l.length }) (fun q => [(14, .c (nI q.1.1)), (13, .c (nI l.length)), (12, .c (.r 1 (l.map eW))), (0, .c (.v (.pointer (some ⟨b, 0, none⟩))))]) (fun q => [.row q.1.2 33 3 ((Wr.casesOf ((l.take q.1.1).drop 1)).map eCs), .box b 36 [nI 9, nI 0, nI 0, nI 0, .v q.1.2, bI (Wr.elseOf ((l.take q.1.1).drop 1))]]) (fun q => l.length - q.1.1) ⟨(0, .slice none 0 0), by simp⟩ (fun X h => h.weak ⟨rfl, rfl, rfl, rfl, trivial⟩) (fun q ih => ?_)
  obtain ⟨⟨k, v⟩, hk'⟩ := q
  simp only at hk' ih ⊢
  by_cases hk : k < l.length
  · have t1 : decide ((k : Int) < (l.length : Int)) = true := decide_eq_true (by omega)
    obtain ⟨x, hx⟩ : ∃ x, l[k]? = some x := ⟨_, List.getElem?_eq_getElem hk⟩
    have AX := at_m (enc := eW) hx
    have xs : x.length ≤ 60000 := by have := sm x (List.mem_of_getElem? hx); omega
    by_cases k0 : k = 0
    · subst k0
      have e0 : (l.take 1).drop 1 = (l.take 0).drop 1 := by simp
      have ih1 := ih ⟨(1, v), by omega⟩ (by simp only; omega)
      simp only [e0] at ih1
      repeat (first
          | (refine K.load ?_; (refine JO.q rfl rfl (Nat.le_of_ble_eq_true rfl) (Qt.load1 rfl .el rfl) ?_))
          | (refine K.move ?_; refine JO.q rfl rfl (Nat.le_of_ble_eq_true rfl) (Qt.move rfl) ?_)
          | (refine K.assign ?_; refine JO.q rfl rfl (Nat.le_of_ble_eq_true rfl) (Qt.assign rfl) ?_)
          | (refine K.indexAddr ?_; refine JO.q rfl rfl (Nat.le_of_ble_eq_true rfl) (Qt.indexR rfl rfl (by omega) (AX)) ?_)
          | (refine K.binOp ?_; first | refine JO.q rfl rfl (Nat.le_of_ble_eq_true rfl) (Qt.cmp rfl rfl (congrArg some t1)) ?_ | refine JO.q rfl rfl (Nat.le_of_ble_eq_true rfl) (Qt.ari rfl rfl rfl (w64 (by omega) (by omega))) ?_ | refine JO.q rfl rfl (Nat.le_of_ble_eq_true rfl) (Qt.cmp rfl rfl rfl) ?_)
          | refine JO.nil ?_
          | refine J.seq ?_
          | refine J.region ?_
          | refine J.block ?_
          | refine J.skip ?_
          | refine J.exit rfl ?_
          | refine J.cond_t rfl ?_)
      exact ih1.weak ⟨rfl, rfl, rfl, rfl, trivial⟩
    · have t2 : ((k : Int) == 0) = false := by rw [beq_eq_false_iff_ne]; omega
      have tk : (l.take (k + 1)).drop 1 = (l.take k).drop 1 ++ [x] := by
        rw [List.take_add_one, hx, List.drop_append_of_le_length (by simp; omega)]; rfl
      have lq : ((l.take k).drop 1).length ≤ 9 := by simp; omega
      have lc : ((Wr.casesOf ((l.take k).drop 1)).map eCs).length ≤ 9 := by
        unfold Wr.casesOf
        rw [List.length_map, List.length_map]
        exact Nat.le_trans (List.length_filter_le _ _) lq
      by_cases he : x = Wr.elseW
      · have t3 : (x == [101, 108, 115, 101]) = true := by rw [he]; rfl
        repeat (first
            | (refine K.fieldAddr ?_; refine JO.q rfl rfl (Nat.le_of_ble_eq_true rfl) (Qt.fieldAddr rfl rfl) ?_)
            | (refine K.load ?_; (refine JO.q rfl rfl (Nat.le_of_ble_eq_true rfl) (Qt.load1 rfl .el rfl) ?_))
            | (refine K.move ?_; refine JO.q rfl rfl (Nat.le_of_ble_eq_true rfl) (Qt.move rfl) ?_)
            | (refine K.store ?_; (refine JO.ld (Ld.store1 rfl rfl (by exact rfl)) rfl (fun _ => ?_)))
            | (refine K.assign ?_; refine JO.q rfl rfl (Nat.le_of_ble_eq_true rfl) (Qt.assign rfl) ?_)
            | (refine K.indexAddr ?_; refine JO.q rfl rfl (Nat.le_of_ble_eq_true rfl) (Qt.indexR rfl rfl (by omega) (AX)) ?_)
            | (refine K.binOp ?_; first | refine JO.q rfl rfl (Nat.le_of_ble_eq_true rfl) (Qt.cmp rfl rfl (congrArg some t1)) ?_ | refine JO.q rfl rfl (Nat.le_of_ble_eq_true rfl) (Qt.cmp rfl rfl (congrArg some t2)) ?_ | refine JO.q rfl rfl (Nat.le_of_ble_eq_true rfl) ((Qt.strE rfl rfl).eq (congrArg (fun z => D.c (.v (.bool z))) (t3))) ?_ | refine JO.q rfl rfl (Nat.le_of_ble_eq_true rfl) (Qt.ari rfl rfl rfl (w64 (by omega) (by omega))) ?_)
            | (refine K.nilCheck ?_; refine JO.q rfl rfl (Nat.le_of_ble_eq_true rfl) (Qt.nilCheck rfl rfl) ?_)
            | refine JO.nil ?_
            | refine J.seq ?_
            | refine J.region ?_
            | refine J.block ?_
            | refine J.skip ?_
            | refine J.exit rfl ?_
            | refine J.cond_t rfl ?_
            | refine J.cond_f rfl ?_)
        refine J.congL ?_ ((ih ⟨(k + 1, v), by omega⟩ (by simp only; omega)).weak ⟨rfl, rfl, rfl, rfl, trivial⟩)
        simp only [tk]
        rw [cases_snoc, if_pos he, else_snoc, he, show (Wr.elseW == Wr.elseW) = true from rfl, Bool.or_true]
        rfl
      · have t3 : (x == [101, 108, 115, 101]) = false := by rw [beq_eq_false_iff_ne]; exact he
        have C2 := c_opName 2 (by omega) (by omega)
        have C3 := c_opName 3 (by omega) (by omega)
        have CP := l_cutPre x (Wd.kind 2)
        have CT := l_trimPre x (Wd.kind 3)
        have hc := cases_snoc ((l.take k).drop 1) x
        rw [if_neg he] at hc
        have hel := else_snoc ((l.take k).drop 1) x
        rw [show (x == Wr.elseW) = false from t3, Bool.or_false] at hel
        have hco : Wr.caseOf x = match Wr.behind (Wd.kind 2) x with
          | some r => ⟨true, (Wr.nums r).1, (Wr.nums r).2⟩
          | none => ⟨false, (Wr.nums (Lib.trimPrefix x (Wd.kind 3))).1, (Wr.nums (Lib.trimPrefix x (Wd.kind 3))).2⟩ := by rw [trim_lib]; rfl
        have ih1 := fun v2 => ih ⟨(k + 1, v2), by omega⟩ (by simp only; omega)
        clear ih
        simp only [tk, hc, hel, List.map_append] at ih1
        generalize hE : (Wr.casesOf ((l.take k).drop 1)).map eCs = E at lc ih1 ⊢
        cases hp : Lib.hasPrefix x (Wd.kind 2) with
        | true =>
          have hb : Wr.behind (Wd.kind 2) x = some (Lib.trimPrefix x (Wd.kind 2)) := by rw [behind_lib, if_pos hp]; unfold Lib.trimPrefix; rw [if_pos hp]
          rw [hb] at hco
          simp only at hco
          rw [hp] at CP
          have CN := c_readNums (Lib.trimPrefix x (Wd.kind 2)) (by unfold Lib.trimPrefix; rw [if_pos hp, List.length_drop]; omega)
          repeat (first
              | (refine K.fieldAddr ?_; refine JO.q rfl rfl (Nat.le_of_ble_eq_true rfl) (Qt.fieldAddr rfl rfl) ?_)
              | (refine K.load ?_; (refine JO.q rfl rfl (Nat.le_of_ble_eq_true rfl) (Qt.load1 rfl .el rfl) ?_))
              | (refine K.move ?_; refine JO.q rfl rfl (Nat.le_of_ble_eq_true rfl) (Qt.move rfl) ?_)
              | (refine K.store ?_; (refine JO.ld (Ld.store1 rfl rfl (by exact rfl)) rfl (fun _ => ?_)))
              | (refine K.assign ?_; refine JO.q rfl rfl (Nat.le_of_ble_eq_true rfl) (Qt.assign rfl) ?_)
              | (refine K.indexAddr ?_; refine JO.q rfl rfl (Nat.le_of_ble_eq_true rfl) (Qt.indexR rfl rfl (by omega) (AX)) ?_)
              | (refine K.binOp ?_; first | refine JO.q rfl rfl (Nat.le_of_ble_eq_true rfl) (Qt.cmp rfl rfl (congrArg some t1)) ?_ | refine JO.q rfl rfl (Nat.le_of_ble_eq_true rfl) (Qt.cmp rfl rfl (congrArg some t2)) ?_ | refine JO.q rfl rfl (Nat.le_of_ble_eq_true rfl) ((Qt.strE rfl rfl).eq (congrArg (fun z => D.c (.v (.bool z))) (t3))) ?_)
              | (refine K.call ?_; first | (refine JO.pure (C2) rfl (Nat.le_of_ble_eq_true rfl) rfl ?_ ?_; focus ((repeat (first | exact LeDs.nil | refine LeDs.cons LeD.refl ?_)); done)) | (refine JO.pure (CP) rfl (Nat.le_of_ble_eq_true rfl) rfl ?_ ?_; focus ((repeat (first | exact LeDs.nil | refine LeDs.cons LeD.refl ?_)); done)) | (refine JO.ld (Ld.pureW hW (CN) (Nat.le_of_ble_eq_true rfl) rfl ?_) rfl (fun _ => ?_); focus ((repeat (first | exact LeDs.nil | refine LeDs.cons LeD.refl ?_)); done)))
              | (refine K.extract ?_; refine JO.q rfl rfl (Nat.le_of_ble_eq_true rfl) (Qt.extract rfl rfl) ?_)
              | (refine JO.alloc rfl (Nat.le_of_ble_eq_true rfl) ?_; intro _)
              | refine JO.nil ?_
              | refine J.seq ?_
              | refine J.region ?_
              | refine J.block ?_
              | refine J.skip ?_
              | refine J.cond_t rfl ?_
              | refine J.cond_f rfl ?_)
          refine J.draw (by kernel_rfl) rfl ?_
          refine JW.baseT [1] (some 10) ?_
          refine JD.take 0 rfl rfl (by kernel_rfl) rfl (Nat.le_of_ble_eq_true rfl) (Qt.move rfl) rfl ?_
          refine JD.take 1 rfl rfl (by kernel_rfl) rfl (Nat.le_of_ble_eq_true rfl) (Qt.move rfl) rfl ?_
          refine JD.take 2 rfl rfl (by kernel_rfl) rfl (Nat.le_of_ble_eq_true rfl) (Qt.nilCheck rfl rfl) rfl ?_
          refine JD.take 3 rfl rfl (by kernel_rfl) rfl (Nat.le_of_ble_eq_true rfl) (Qt.fieldAddr rfl rfl) rfl ?_
          (refine JD.take 4 rfl rfl (by kernel_rfl) rfl (Nat.le_of_ble_eq_true rfl) (Qt.load1b rfl (by exact rfl)) rfl ?_)
          (refine JD.take 5 rfl rfl (by kernel_rfl) rfl (Nat.le_of_ble_eq_true rfl) (Qt.loadWb rfl (by exact rfl)) rfl ?_)
          refine JD.each1 (i := 6) (by kernel_rfl) ?_
          refine JS.loud rfl rfl rfl (Nat.le_of_ble_eq_true rfl) (Ld.lit1R (Nat.le_of_ble_eq_true rfl) rfl rfl rfl rfl rfl) (by (exact .none)) (fun _ => ?_)
          refine JD.each1 (i := 7) (by kernel_rfl) ?_
          refine JS.loud rfl rfl rfl (Nat.le_of_ble_eq_true rfl) (Ld.appOw (Nat.le_of_ble_eq_true rfl) rfl rfl .read (by simp only [List.length_singleton]; omega)) (by (exact .trow rfl)) (fun _ => ?_)
          refine JD.each1 (i := 8) (by kernel_rfl) ?_
          refine JS.q rfl rfl rfl (Nat.le_of_ble_eq_true rfl) (Qt.nilCheck rfl rfl) ?_
          refine JD.each1 (i := 9) (by kernel_rfl) ?_
          refine JS.q rfl rfl rfl (Nat.le_of_ble_eq_true rfl) (Qt.fieldAddr rfl rfl) ?_
          refine JD.each1 (i := 10) (by kernel_rfl) ?_
          (refine JS.last rfl rfl (Ld.store1 rfl rfl (by exact rfl)) (fun _ => ?_))
          refine JW.done (by kernel_rfl) ?_
          repeat (first
              | (refine K.move ?_; refine JO.q rfl rfl (Nat.le_of_ble_eq_true rfl) (Qt.move rfl) ?_)
              | (refine K.binOp ?_; (refine JO.q rfl rfl (Nat.le_of_ble_eq_true rfl) (Qt.ari rfl rfl rfl (w64 (by omega) (by omega))) ?_))
              | refine JO.nil ?_
              | refine J.region ?_
              | refine J.inBlock ?_)
          rename_i v2 _
          refine J.drop 1 ?_
          simp only [List.eraseIdx_cons_succ, List.eraseIdx_cons_zero]
          refine J.congL ?_ ((ih1 v2).weak ⟨rfl, rfl, rfl, rfl, trivial⟩)
          rw [hco]
          rfl
        | false =>
          have hb : Wr.behind (Wd.kind 2) x = none := by rw [behind_lib, if_neg (by rw [hp]; simp)]
          rw [hb] at hco
          simp only at hco
          rw [hp] at CP
          have CN := c_readNums (Lib.trimPrefix x (Wd.kind 3)) (by unfold Lib.trimPrefix; split; rw [List.length_drop]; omega; omega)
          repeat (first
              | (refine K.fieldAddr ?_; refine JO.q rfl rfl (Nat.le_of_ble_eq_true rfl) (Qt.fieldAddr rfl rfl) ?_)
              | (refine K.load ?_; (refine JO.q rfl rfl (Nat.le_of_ble_eq_true rfl) (Qt.load1 rfl .el rfl) ?_))
              | (refine K.move ?_; refine JO.q rfl rfl (Nat.le_of_ble_eq_true rfl) (Qt.move rfl) ?_)
              | (refine K.store ?_; (refine JO.ld (Ld.store1 rfl rfl (by exact rfl)) rfl (fun _ => ?_)))
              | (refine K.assign ?_; refine JO.q rfl rfl (Nat.le_of_ble_eq_true rfl) (Qt.assign rfl) ?_)
              | (refine K.indexAddr ?_; refine JO.q rfl rfl (Nat.le_of_ble_eq_true rfl) (Qt.indexR rfl rfl (by omega) (AX)) ?_)
              | (refine K.binOp ?_; first | refine JO.q rfl rfl (Nat.le_of_ble_eq_true rfl) (Qt.cmp rfl rfl (congrArg some t1)) ?_ | refine JO.q rfl rfl (Nat.le_of_ble_eq_true rfl) (Qt.cmp rfl rfl (congrArg some t2)) ?_ | refine JO.q rfl rfl (Nat.le_of_ble_eq_true rfl) ((Qt.strE rfl rfl).eq (congrArg (fun z => D.c (.v (.bool z))) (t3))) ?_)
              | (refine K.call ?_; first | (refine JO.pure (C2) rfl (Nat.le_of_ble_eq_true rfl) rfl ?_ ?_; focus ((repeat (first | exact LeDs.nil | refine LeDs.cons LeD.refl ?_)); done)) | (refine JO.pure (CP) rfl (Nat.le_of_ble_eq_true rfl) rfl ?_ ?_; focus ((repeat (first | exact LeDs.nil | refine LeDs.cons LeD.refl ?_)); done)) | (refine JO.pure (C3) rfl (Nat.le_of_ble_eq_true rfl) rfl ?_ ?_; focus ((repeat (first | exact LeDs.nil | refine LeDs.cons LeD.refl ?_)); done)) | (refine JO.pure (CT) rfl (Nat.le_of_ble_eq_true rfl) rfl ?_ ?_; focus ((repeat (first | exact LeDs.nil | refine LeDs.cons LeD.refl ?_)); done)) | (refine JO.ld (Ld.pureW hW (CN) (Nat.le_of_ble_eq_true rfl) rfl ?_) rfl (fun _ => ?_); focus ((repeat (first | exact LeDs.nil | refine LeDs.cons LeD.refl ?_)); done)))
              | (refine K.extract ?_; refine JO.q rfl rfl (Nat.le_of_ble_eq_true rfl) (Qt.extract rfl rfl) ?_)
              | (refine JO.alloc rfl (Nat.le_of_ble_eq_true rfl) ?_; intro _)
              | refine JO.nil ?_
              | refine J.seq ?_
              | refine J.region ?_
              | refine J.block ?_
              | refine J.skip ?_
              | refine J.cond_t rfl ?_
              | refine J.cond_f rfl ?_)
          refine J.draw (by kernel_rfl) rfl ?_
          refine JW.baseT [1] (some 10) ?_
          refine JD.take 0 rfl rfl (by kernel_rfl) rfl (Nat.le_of_ble_eq_true rfl) (Qt.move rfl) rfl ?_
          refine JD.take 1 rfl rfl (by kernel_rfl) rfl (Nat.le_of_ble_eq_true rfl) (Qt.move rfl) rfl ?_
          refine JD.take 2 rfl rfl (by kernel_rfl) rfl (Nat.le_of_ble_eq_true rfl) (Qt.nilCheck rfl rfl) rfl ?_
          refine JD.take 3 rfl rfl (by kernel_rfl) rfl (Nat.le_of_ble_eq_true rfl) (Qt.fieldAddr rfl rfl) rfl ?_
          (refine JD.take 4 rfl rfl (by kernel_rfl) rfl (Nat.le_of_ble_eq_true rfl) (Qt.load1b rfl (by exact rfl)) rfl ?_)
          (refine JD.take 5 rfl rfl (by kernel_rfl) rfl (Nat.le_of_ble_eq_true rfl) (Qt.loadWb rfl (by exact rfl)) rfl ?_)
          refine JD.each1 (i := 6) (by kernel_rfl) ?_
          refine JS.loud rfl rfl rfl (Nat.le_of_ble_eq_true rfl) (Ld.lit1R (Nat.le_of_ble_eq_true rfl) rfl rfl rfl rfl rfl) (by (exact .none)) (fun _ => ?_)
          refine JD.each1 (i := 7) (by kernel_rfl) ?_
          refine JS.loud rfl rfl rfl (Nat.le_of_ble_eq_true rfl) (Ld.appOw (Nat.le_of_ble_eq_true rfl) rfl rfl .read (by simp only [List.length_singleton]; omega)) (by (exact .trow rfl)) (fun _ => ?_)
          refine JD.each1 (i := 8) (by kernel_rfl) ?_
          refine JS.q rfl rfl rfl (Nat.le_of_ble_eq_true rfl) (Qt.nilCheck rfl rfl) ?_
          refine JD.each1 (i := 9) (by kernel_rfl) ?_
          refine JS.q rfl rfl rfl (Nat.le_of_ble_eq_true rfl) (Qt.fieldAddr rfl rfl) ?_
          refine JD.each1 (i := 10) (by kernel_rfl) ?_
          (refine JS.last rfl rfl (Ld.store1 rfl rfl (by exact rfl)) (fun _ => ?_))
          refine JW.done (by kernel_rfl) ?_
          repeat (first
              | (refine K.move ?_; refine JO.q rfl rfl (Nat.le_of_ble_eq_true rfl) (Qt.move rfl) ?_)
              | (refine K.binOp ?_; (refine JO.q rfl rfl (Nat.le_of_ble_eq_true rfl) (Qt.ari rfl rfl rfl (w64 (by omega) (by omega))) ?_))
              | refine JO.nil ?_
              | refine J.region ?_
              | refine J.inBlock ?_)
          rename_i v2 _
          refine J.drop 1 ?_
          simp only [List.eraseIdx_cons_succ, List.eraseIdx_cons_zero]
          refine J.congL ?_ ((ih1 v2).weak ⟨rfl, rfl, rfl, rfl, trivial⟩)
          rw [hco]
          rfl
  · obtain rfl : k = l.length := by omega
    have t1 : decide ((l.length : Int) < (l.length : Int)) = false := decide_eq_false (by omega)
    rw [List.take_length, List.drop_one]
    refine J.frzB 0 1 4 rfl rfl rfl ?_
    simp only [List.set_cons_succ, List.set_cons_zero, List.eraseIdx_cons_zero]
    repeat (first
        | (refine K.binOp ?_; (refine JO.q rfl rfl (Nat.le_of_ble_eq_true rfl) (Qt.cmp rfl rfl (congrArg some t1)) ?_))
        | refine JO.nil ?_
        | refine J.seq ?_
        | refine J.region ?_
        | refine J.exit rfl ?_
        | refine J.cond_f rfl ?_)
    (exact J.finA Tryd.func32 rfl .nil () (by (exact .refl)) rfl)
end Fl
end Go.Proofs.YtbjnbngpjdoejaaDoor
