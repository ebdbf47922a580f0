/-
  Texts RdD of this claim, put together: what they show stands at their heads.
  Conditions: none but those that each theorem states.
-/
import Derived.Test.YtbjnbngpjdoejaaDoorQ17
namespace Go.Proofs.YtbjnbngpjdoejaaDoor
open Go.RowKit
set_option linter.unusedVariables false
set_option linter.unusedSimpArgs false
set_option linter.unnecessarySimpa false
namespace Wr
theorem split_small (d : UInt8) : ∀ s : W, (split d s).length ≤ s.length + 1 ∧ ∀ x ∈ split d s, x.length ≤ s.length
  | [] => by simp [split]
  | c :: s => by
    obtain ⟨h1, h2⟩ := split_small d s
    obtain ⟨a, r, e⟩ := split_cons d s
    rw [split]
    split
    · refine ⟨by simp; omega, fun x hx => ?_⟩
      rcases List.mem_cons.1 hx with rfl | hx
      · simp
      · have := h2 x hx; simp; omega
    · rw [e] at h1 h2 ⊢
      refine ⟨by have : r.length + 1 ≤ s.length + 1 := h1; show r.length + 1 ≤ s.length + 1 + 1; omega, fun x hx => ?_⟩
      rcases List.mem_cons.1 hx with rfl | hx
      · have := h2 a (List.mem_cons_self ..); simpa using this
      · have := h2 x (List.mem_cons_of_mem _ hx); simp; omega
theorem small_split (d : UInt8) {s : W} (h : s.length ≤ 3000) : small (split d s) := by
  obtain ⟨h1, h2⟩ := split_small d s
  exact ⟨by omega, fun x hx => by have := h2 x hx; omega⟩
def nms : List W := [[], Wd.kind 1, Wd.kind 2, Wd.kind 3, [], [], Wd.kind 6, Wd.kind 7, Wd.kind 8, Wd.kind 9]
def kt (a : W) : Nat → Int
  | 0 => 0
  | k + 1 => if 0 < k ∧ nms.getD k [] ≠ [] ∧ nms.getD k [] = a then (k : Int) else kt a k
theorem kt_all (a : W) : kt a 10 = kindOf a := by
  have h : ∀ k, nms.getD k [] = nms.getD k [] := fun _ => rfl
  unfold kindOf
  by_cases h1 : a = Wd.kind 1
  · subst h1; decide
  by_cases h2 : a = Wd.kind 2
  · subst h2; decide
  by_cases h3 : a = Wd.kind 3
  · subst h3; decide
  by_cases h6 : a = Wd.kind 6
  · subst h6; decide
  by_cases h7 : a = Wd.kind 7
  · subst h7; decide
  by_cases h8 : a = Wd.kind 8
  · subst h8; decide
  by_cases h9 : a = Wd.kind 9
  · subst h9; decide
  rw [if_neg h1, if_neg h2, if_neg h3, if_neg h6, if_neg h7, if_neg h8, if_neg h9]
  simp only [kt]
  rw [if_neg (fun e => h9 e.2.2.symm), if_neg (fun e => h8 e.2.2.symm), if_neg (fun e => h7 e.2.2.symm), if_neg (fun e => h6 e.2.2.symm), if_neg (fun e => e.2.1 rfl), if_neg (fun e => e.2.1 rfl), if_neg (fun e => h3 e.2.2.symm), if_neg (fun e => h2 e.2.2.symm), if_neg (fun e => h1 e.2.2.symm), if_neg (fun e => by omega)]
def zeroO : Pn.Op := ⟨0, 0, 0, 0, [], false⟩
def mkO (k : Int) (n : List Int) : Pn.Op := if k = 1 then ⟨1, 0, n.getD 0 0, 0, [], false⟩ else ⟨k, n.getD 0 0, 0, if Pn.hasV k then n.getD 1 0 else 0, [], false⟩
def manyK (k : Int) : Nat := if Pn.hasV k then 2 else 1
def readR (k : Int) (rest : List W) : Pn.Op × Bool :=
  if k = 0 then (zeroO, false)
  else if k = 9 then (⟨9, 0, 0, 0, (csRun rest [] false).1.1, (csRun rest [] false).1.2⟩, (csRun rest [] false).2 && Pn.rightOp ⟨9, 0, 0, 0, (csRun rest [] false).1.1, (csRun rest [] false).1.2⟩)
  else if (numsL rest (manyK k)).length = manyK k then (mkO k (numsL rest (manyK k)), Pn.rightOp (mkO k (numsL rest (manyK k)))) else (zeroO, false)
def readF (s : W) : Pn.Op × Bool := readR (kindRest (split 32 s)).1 (kindRest (split 32 s)).2
theorem numsL_len {w : List W} {m : Nat} : (numsL w m).length = m ∨ numsL w m = [] := by
  unfold numsL
  split
  · rename_i h; left; rw [List.length_map]; exact h.2
  · right; rfl
theorem small_rest {w : List W} (h : small w) : small (kindRest w).2 := by
  have key : ∀ r : List W, r.length ≤ w.length → (∀ x ∈ r, x ∈ w) → small r := fun r h1 h2 => ⟨by have := h.1; omega, fun x hx => h.2 x (h2 x hx)⟩
  unfold kindRest
  split
  · exact key [] (by simp) (by simp)
  · split
    · split
      · split
        · exact key _ (by simp; omega) (by simp +contextual)
        · split
          · exact key _ (by simp; omega) (by simp +contextual)
          · exact key _ (by simp) (by simp +contextual)
      · exact key [] (by simp) (by simp)
    · exact key _ (by simp) (by simp +contextual)
theorem readR_readK {k : Int} {rest : List W} (h0 : k ≠ 0) : (match readK k rest with | some o => if Pn.rightOp o then some o else none | none => none) = if (readR k rest).2 = true then some (readR k rest).1 else none := by
  unfold readK readR
  rw [if_neg h0]
  by_cases h9 : k = 9
  · subst h9
    rw [if_pos rfl, if_pos rfl]
    have := cased_run rest
    cases hc : cased rest with
    | none => rw [hc] at this; simp only at this; rw [this]; simp
    | some x => rw [hc] at this; simp only at this; rw [this]; simp
  · rw [if_neg h9, if_neg h9]
    have dg : ∀ x, 0 ≤ digN x ↔ ∃ n, digs x = some n := fun x => by
      unfold digN
      split
      · rename_i n h; rw [h]; simp
      · rename_i h; rw [h]; simp
    cases hv : Pn.hasV k with
    | true =>
      have hm : manyK k = 2 := by unfold manyK; rw [hv]; rfl
      rw [hm]
      have h1 : k ≠ 1 := fun e => by subst e; cases hv
      match rest with
      | [] => simp [numsL]
      | [a] => simp [numsL]
      | a :: b :: c :: r => simp [numsL]
      | [a, b] =>
        cases ha : digs a with
        | none => simp [numsL, digN_none ha, ha]
        | some x =>
          cases hb : digs b with
          | none => simp [numsL, digN_none hb, hb, ha]
          | some y => simp [numsL, digN_some hb, digN_some ha, ha, hb, mkO, h1, hv]
    | false =>
      have hm : manyK k = 1 := by unfold manyK; rw [hv]; rfl
      rw [hm]
      match rest with
      | [] => simp [numsL]
      | a :: b :: r => cases r <;> simp [numsL]
      | [a] =>
        cases ha : digs a with
        | none => simp [numsL, digN_none ha, ha]
        | some x =>
          by_cases h1 : k = 1
          · subst h1; simp [numsL, digN_some ha, ha, mkO]
          · simp [numsL, digN_some ha, ha, mkO, h1, hv]
theorem read_readF (s : W) : read s = if (readF s).2 = true then some (readF s).1 else none := by
  unfold read readF
  by_cases h : (kindRest (split 32 s)).1 = 0
  · rw [if_pos h, h]; rfl
  · rw [if_neg h]; exact readR_readK h
end Wr
namespace Fl
set_option maxRecDepth 100000
set_option maxHeartbeats 4000000
abbrev zB : List A := [nI 0, nI 0, nI 0, nI 0, .v (.slice none 0 0), bI false]
set_option maxHeartbeats 2000000 in
theorem c_hasV10 (k : Int) : Pure Tryd.prog 34 [.c (nI k)] (.c (bI (Pn.hasV k))) :=
  Con.plain fun ok e xs hd => by
    obtain ⟨v, ys, rfl, r, h⟩ := hd.c
    rw [h.nil_]
    unfold nI RA at r
    rw [r.1]
    refine (ref10_hasV e k).mono ?_
    rintro en w' ⟨rfl, rfl⟩
    exact ⟨_, rfl, Keeps.refl _ _, RD.v rfl⟩
set_option maxHeartbeats 2000000 in
theorem c_read (s : Wr.W) (hs : s.length ≤ 3000) : Pure Tryd.prog 17 [.c (sA s)] (.tup [.agg (eOp (Wr.readF s).1), .c (bI (Wr.readF s).2)]) := by
  have US := Tryd.underlying9
  have CS := c_split s 32 hs
  have SM := Wr.small_split 32 hs
  unfold Wr.readF
  obtain ⟨a, r, hW⟩ := Wr.split_cons 32 s
  rw [hW] at CS SM ⊢
  have sr : ∀ x ∈ r, x.length ≤ 3000 := fun x hx => SM.2 x (List.mem_cons_of_mem _ hx)
  have lr : r.length ≤ 3000 := by have := SM.1; simp at this; omega
  refine Con.intro Tryd.func17 rfl rfl rfl (fun ok e => ?_)
  repeat (first
      | (refine K.move ?_; refine JO.q rfl rfl (Nat.le_of_ble_eq_true rfl) (Qt.move rfl) ?_)
      | (refine K.assign ?_; refine JO.q rfl rfl (Nat.le_of_ble_eq_true rfl) (Qt.assign rfl) ?_)
      | (refine K.call ?_; (refine JO.pure (CS) rfl (Nat.le_of_ble_eq_true rfl) rfl ?_ ?_; focus ((repeat (first | exact LeDs.nil | refine LeDs.cons LeD.refl ?_)); done)))
      | (refine K.bi ?_; (refine JO.q rfl rfl (Nat.le_of_ble_eq_true rfl) (Qt.lenV rfl) ?_))
      | (refine JO.alloc rfl (Nat.le_of_ble_eq_true rfl) ?_; intro _)
      | (refine K.lit ?_; (refine JO.ld (Ld.litC 9 (Wr.nms.map strV) ((List.range 10).zip (Wr.nms.map strV)) (fun a => rfl) (fun w => by kernel_rfl) (by decide) rfl rfl (Nat.le_of_ble_eq_true rfl)) rfl ?_; intro _))
      | refine JO.nil ?_
      | refine J.seq ?_
      | refine J.region ?_
      | refine J.block ?_)
  rename_i b2 b16
  refine J.frzS 16 rfl ?_
  refine J.loop (ι := { k : Nat // k ≤ 10 }) (fun q => [(18, .c (nI q.1)), (17, .c (nI 10)), (16, .c (.r 1 (Wr.nms.map eW))), (5, .c (nI (Wr.kt a q.1))), (4, .c (.r 1 ((a :: r).map eW))), (2, .c (.v (.pointer (some ⟨b2, 0, none⟩))))]) (fun q => [.box b2 36 zB]) (fun q => 10 - q.1) ⟨0, by omega⟩ (fun X h => h.weak ⟨rfl, rfl, rfl, rfl, rfl, rfl, trivial⟩) (fun q ih => ?_)
  obtain ⟨k, hk'⟩ := q
  simp only at hk' ih ⊢
  by_cases hk : k < 10
  · have t1 : decide ((k : Int) < 10) = true := decide_eq_true (by omega)
    obtain ⟨x, hx⟩ : ∃ x, Wr.nms[k]? = some x := ⟨_, List.getElem?_eq_getElem (by show k < 10; exact hk)⟩
    have AX := at_m (enc := eW) hx
    have AA : ((a :: r).map eW)[((0 : Int)).toNat]? = some (eW a) := rfl
    have gx : Wr.nms.getD k [] = x := by rw [List.getD_eq_getElem?_getD, hx]; rfl
    have ih1 := ih ⟨k + 1, by omega⟩ (by simp only; omega)
    clear ih
    simp only [Wr.kt] at ih1
    rw [gx] at ih1
    by_cases k0 : k = 0
    · subst k0
      have t2 : decide ((0 : Int) < ((0 : Nat) : Int)) = false := rfl
      rw [if_neg (by omega)] at ih1
      repeat (first
          | (refine K.load ?_; (refine JO.q rfl rfl (Nat.le_of_ble_eq_true rfl) (Qt.load1 rfl .el rfl) ?_))
          | (refine K.move ?_; refine JO.q rfl rfl (Nat.le_of_ble_eq_true rfl) (Qt.move rfl) ?_)
          | (refine K.assign ?_; refine JO.q rfl rfl (Nat.le_of_ble_eq_true rfl) (Qt.assign rfl) ?_)
          | (refine K.indexAddr ?_; refine JO.q rfl rfl (Nat.le_of_ble_eq_true rfl) (Qt.indexR rfl rfl (by omega) (AX)) ?_)
          | (refine K.binOp ?_; first | refine JO.q rfl rfl (Nat.le_of_ble_eq_true rfl) (Qt.cmp rfl rfl (congrArg some t1)) ?_ | refine JO.q rfl rfl (Nat.le_of_ble_eq_true rfl) (Qt.cmp rfl rfl (congrArg some t2)) ?_ | refine JO.q rfl rfl (Nat.le_of_ble_eq_true rfl) (Qt.ari rfl rfl rfl (w64 (by omega) (by omega))) ?_)
          | (refine K.pick ?_; refine JO.q rfl rfl (Nat.le_of_ble_eq_true rfl) (Qt.pick rfl rfl) ?_)
          | refine JO.nil ?_
          | refine J.seq ?_
          | refine J.region ?_
          | refine J.block ?_
          | refine J.inBlock ?_
          | refine J.skip ?_
          | refine J.cond_t rfl ?_
          | refine J.cond_f rfl ?_
          | refine JO.no rfl rfl (Nat.le_of_ble_eq_true rfl) ?_)
      exact ih1.weak ⟨rfl, rfl, rfl, rfl, rfl, rfl, trivial⟩
    · have t2 : decide ((0 : Int) < (k : Int)) = true := decide_eq_true (by omega)
      by_cases x0 : x = []
      · have t3 : (x != []) = false := by rw [x0]; rfl
        rw [if_neg (fun e => e.2.1 x0)] at ih1
        repeat (first
            | (refine K.load ?_; (refine JO.q rfl rfl (Nat.le_of_ble_eq_true rfl) (Qt.load1 rfl .el rfl) ?_))
            | (refine K.move ?_; refine JO.q rfl rfl (Nat.le_of_ble_eq_true rfl) (Qt.move rfl) ?_)
            | (refine K.assign ?_; refine JO.q rfl rfl (Nat.le_of_ble_eq_true rfl) (Qt.assign rfl) ?_)
            | (refine K.indexAddr ?_; refine JO.q rfl rfl (Nat.le_of_ble_eq_true rfl) (Qt.indexR rfl rfl (by omega) (AX)) ?_)
            | (refine K.binOp ?_; first | refine JO.q rfl rfl (Nat.le_of_ble_eq_true rfl) (Qt.cmp rfl rfl (congrArg some t1)) ?_ | refine JO.q rfl rfl (Nat.le_of_ble_eq_true rfl) (Qt.cmp rfl rfl (congrArg some t2)) ?_ | refine JO.q rfl rfl (Nat.le_of_ble_eq_true rfl) ((Qt.strN rfl rfl).eq (congrArg (fun z => D.c (.v (.bool z))) (t3))) ?_ | refine JO.q rfl rfl (Nat.le_of_ble_eq_true rfl) (Qt.ari rfl rfl rfl (w64 (by omega) (by omega))) ?_)
            | (refine K.pick ?_; refine JO.q rfl rfl (Nat.le_of_ble_eq_true rfl) (Qt.pick rfl rfl) ?_)
            | refine JO.nil ?_
            | refine J.seq ?_
            | refine J.region ?_
            | refine J.block ?_
            | refine J.inBlock ?_
            | refine J.skip ?_
            | refine J.cond_t rfl ?_
            | refine J.cond_f rfl ?_
            | refine JO.no rfl rfl (Nat.le_of_ble_eq_true rfl) ?_)
        exact ih1.weak ⟨rfl, rfl, rfl, rfl, rfl, rfl, trivial⟩
      · have t3 : (x != []) = true := by rw [bne_iff_ne]; exact x0
        by_cases xa : x = a
        · have t4 : (x == a) = true := by rw [xa]; simp
          rw [if_pos ⟨by omega, x0, xa⟩] at ih1
          repeat (first
              | (refine K.load ?_; (refine JO.q rfl rfl (Nat.le_of_ble_eq_true rfl) (Qt.load1 rfl .el rfl) ?_))
              | (refine K.move ?_; refine JO.q rfl rfl (Nat.le_of_ble_eq_true rfl) (Qt.move rfl) ?_)
              | (refine K.assign ?_; refine JO.q rfl rfl (Nat.le_of_ble_eq_true rfl) (Qt.assign rfl) ?_)
              | (refine K.indexAddr ?_; first | refine JO.q rfl rfl (Nat.le_of_ble_eq_true rfl) (Qt.indexR rfl rfl (by omega) (AX)) ?_ | refine JO.q rfl rfl (Nat.le_of_ble_eq_true rfl) (Qt.indexR rfl rfl (by omega) (AA)) ?_)
              | (refine K.binOp ?_; first | refine JO.q rfl rfl (Nat.le_of_ble_eq_true rfl) (Qt.cmp rfl rfl (congrArg some t1)) ?_ | refine JO.q rfl rfl (Nat.le_of_ble_eq_true rfl) (Qt.cmp rfl rfl (congrArg some t2)) ?_ | refine JO.q rfl rfl (Nat.le_of_ble_eq_true rfl) ((Qt.strN rfl rfl).eq (congrArg (fun z => D.c (.v (.bool z))) (t3))) ?_ | refine JO.q rfl rfl (Nat.le_of_ble_eq_true rfl) ((Qt.strE rfl rfl).eq (congrArg (fun z => D.c (.v (.bool z))) (t4))) ?_ | refine JO.q rfl rfl (Nat.le_of_ble_eq_true rfl) (Qt.ari rfl rfl rfl (w64 (by omega) (by omega))) ?_)
              | (refine K.pick ?_; refine JO.q rfl rfl (Nat.le_of_ble_eq_true rfl) (Qt.pick rfl rfl) ?_)
              | refine JO.nil ?_
              | refine J.seq ?_
              | refine J.region ?_
              | refine J.block ?_
              | refine J.inBlock ?_
              | refine J.skip ?_
              | refine J.cond_t rfl ?_)
          exact ih1.weak ⟨rfl, rfl, rfl, rfl, rfl, rfl, trivial⟩
        · have t4 : (x == a) = false := by rw [beq_eq_false_iff_ne]; exact xa
          rw [if_neg (fun e => xa e.2.2)] at ih1
          repeat (first
              | (refine K.load ?_; (refine JO.q rfl rfl (Nat.le_of_ble_eq_true rfl) (Qt.load1 rfl .el rfl) ?_))
              | (refine K.move ?_; refine JO.q rfl rfl (Nat.le_of_ble_eq_true rfl) (Qt.move rfl) ?_)
              | (refine K.assign ?_; refine JO.q rfl rfl (Nat.le_of_ble_eq_true rfl) (Qt.assign rfl) ?_)
              | (refine K.indexAddr ?_; first | refine JO.q rfl rfl (Nat.le_of_ble_eq_true rfl) (Qt.indexR rfl rfl (by omega) (AX)) ?_ | refine JO.q rfl rfl (Nat.le_of_ble_eq_true rfl) (Qt.indexR rfl rfl (by omega) (AA)) ?_)
              | (refine K.binOp ?_; first | refine JO.q rfl rfl (Nat.le_of_ble_eq_true rfl) (Qt.cmp rfl rfl (congrArg some t1)) ?_ | refine JO.q rfl rfl (Nat.le_of_ble_eq_true rfl) (Qt.cmp rfl rfl (congrArg some t2)) ?_ | refine JO.q rfl rfl (Nat.le_of_ble_eq_true rfl) ((Qt.strN rfl rfl).eq (congrArg (fun z => D.c (.v (.bool z))) (t3))) ?_ | refine JO.q rfl rfl (Nat.le_of_ble_eq_true rfl) ((Qt.strE rfl rfl).eq (congrArg (fun z => D.c (.v (.bool z))) (t4))) ?_ | refine JO.q rfl rfl (Nat.le_of_ble_eq_true rfl) (Qt.ari rfl rfl rfl (w64 (by omega) (by omega))) ?_)
              | (refine K.pick ?_; refine JO.q rfl rfl (Nat.le_of_ble_eq_true rfl) (Qt.pick rfl rfl) ?_)
              | refine JO.nil ?_
              | refine J.seq ?_
              | refine J.region ?_
              | refine J.block ?_
              | refine J.inBlock ?_
              | refine J.skip ?_
              | refine J.cond_t rfl ?_
              | refine J.cond_f rfl ?_)
          exact ih1.weak ⟨rfl, rfl, rfl, rfl, rfl, rfl, trivial⟩
  · obtain rfl : k = 10 := by omega
    clear ih
    have t1 : decide (((10 : Nat) : Int) < 10) = false := rfl
    rw [Wr.kt_all]
    refine J.seq (J.region ?_)
    repeat  ((refine K.binOp ?_; (refine JO.q rfl rfl (Nat.le_of_ble_eq_true rfl) (Qt.cmp rfl rfl (congrArg some t1)) ?_)))
    refine JO.nil (J.seq (J.cond_f rfl (J.exit rfl ?_)))
    refine J.seq (J.region ?_)
    repeat  (first
        | (refine K.move ?_; refine JO.q rfl rfl (Nat.le_of_ble_eq_true rfl) (Qt.move rfl) ?_)
        | (refine K.assign ?_; refine JO.q rfl rfl (Nat.le_of_ble_eq_true rfl) (Qt.assign rfl) ?_)
        | (refine K.slice ?_; refine JO.q rfl rfl (Nat.le_of_ble_eq_true rfl) (((Qt.sliceR rfl rfl rfl (by omega) (by simp; omega) (by simp)).eq (show _ = D.c (.r 1 (r.map eW)) by simp [List.take_of_length_le]))) ?_))
    refine JO.nil (J.seq ?_)
    refine J.jn1 (ι := Unit) (fun _ => [(2, .c (.v (.pointer (some ⟨b2, 0, none⟩)))), (5, .c (nI (Wr.kindRest (a :: r)).1)), (8, .c (.r 1 ((Wr.kindRest (a :: r)).2.map eW)))]) (fun _ => [.box b2 36 zB]) (fun _ => ?_) (fun KK rest => ?_)
    · have sm := Wr.small_rest SM
      clear CS hW sr lr
      generalize hq : Wr.kindRest (a :: r) = q at sm ⊢
      obtain ⟨k, rr⟩ := q
      simp only at sm ⊢
      clear hq SM
      unfold Wr.readR
      by_cases k0 : k = 0
      · rw [if_pos k0]
        have u1 : (k == 0) = true := by rw [k0]; rfl
        repeat (first
            | (refine K.move ?_; refine JO.q rfl rfl (Nat.le_of_ble_eq_true rfl) (Qt.move rfl) ?_)
            | (refine K.store ?_; (refine JO.ld (Ld.storeW rfl rfl rfl (by exact rfl) (by exact rfl)) rfl (fun _ => ?_)))
            | (refine K.assign ?_; refine JO.q rfl rfl (Nat.le_of_ble_eq_true rfl) (Qt.assign rfl) ?_)
            | (refine K.binOp ?_; (refine JO.q rfl rfl (Nat.le_of_ble_eq_true rfl) (Qt.cmp rfl rfl (congrArg some u1)) ?_))
            | (refine K.build ?_; refine JO.q rfl rfl (Nat.le_of_ble_eq_true rfl) (Qt.build rfl (by kernel_rfl)) ?_)
            | refine JO.nil ?_
            | refine J.seq ?_
            | refine J.region ?_
            | refine J.cond_t rfl ?_)
        (exact J.ret Tryd.func17 rfl (.cons (.cell 0 rfl rfl rfl) (.cons (.tmp rfl) .nil)) () (by (exact .tup (by repeat (first | exact .nil | refine .cons (.agg (by repeat (first | exact .nil | refine .cons .refl ?_ | refine .cons .nil ?_))) ?_ | refine .cons .refl ?_)))) [] .nil rfl rfl)
      · rw [if_neg k0]
        have u1 : (k == 0) = false := by simpa using k0
        by_cases k9 : k = 9
        · rw [if_pos k9]
          have u2 : (k == 9) = true := by rw [k9]; rfl
          have CC := c_cased rr sm
          generalize hR : Wr.csRun rr [] false = R at CC
          obtain ⟨⟨cs, els⟩, okb⟩ := R
          simp only at CC ⊢
          have CR := c_rightOp10 ⟨9, 0, 0, 0, cs, els⟩
          repeat (first
              | (refine K.move ?_; refine JO.q rfl rfl (Nat.le_of_ble_eq_true rfl) (Qt.move rfl) ?_)
              | (refine K.store ?_; (refine JO.ld (Ld.storeW rfl rfl rfl (by exact rfl) (by exact rfl)) rfl (fun _ => ?_)))
              | (refine K.assign ?_; refine JO.q rfl rfl (Nat.le_of_ble_eq_true rfl) (Qt.assign rfl) ?_)
              | (refine K.binOp ?_; first | refine JO.q rfl rfl (Nat.le_of_ble_eq_true rfl) (Qt.cmp rfl rfl (congrArg some u1)) ?_ | refine JO.q rfl rfl (Nat.le_of_ble_eq_true rfl) (Qt.cmp rfl rfl (congrArg some u2)) ?_)
              | (refine K.call ?_; (refine JO.pure (CC) rfl (Nat.le_of_ble_eq_true rfl) rfl ?_ ?_; focus ((repeat (first | exact LeDs.nil | refine LeDs.cons LeD.refl ?_)); done)))
              | (refine K.extract ?_; refine JO.q rfl rfl (Nat.le_of_ble_eq_true rfl) (Qt.extract rfl rfl) ?_)
              | (refine JO.alloc rfl (Nat.le_of_ble_eq_true rfl) ?_; intro _)
              | refine JO.nil ?_
              | refine J.seq ?_
              | refine J.region ?_
              | refine J.skip ?_
              | refine J.cond_t rfl ?_
              | refine J.cond_f rfl ?_)
          cases okb with
          | true =>
            refine J.draw (by kernel_rfl) rfl ?_
            refine JW.base1 none (.tmp 2) rfl ?_
            (refine JD.take 0 rfl rfl (by kernel_rfl) rfl (Nat.le_of_ble_eq_true rfl) (Qt.loadWb rfl (by exact rfl)) rfl ?_)
            refine JD.take 1 rfl rfl (by kernel_rfl) rfl (Nat.le_of_ble_eq_true rfl) (Qt.move rfl) rfl ?_
            refine JD.take 2 rfl rfl (by kernel_rfl) rfl (Nat.le_of_ble_eq_true rfl) (Qt.move rfl) rfl ?_
            (refine JD.take 3 rfl rfl (by kernel_rfl) rfl (Nat.le_of_ble_eq_true rfl) (Qt.loadWb rfl (by exact rfl)) rfl ?_)
            refine JD.each1 (i := 4) (by kernel_rfl) ?_
            refine JS.loud rfl rfl rfl (Nat.le_of_ble_eq_true rfl) (Ld.pure (CR) (Nat.le_of_ble_eq_true rfl) rfl (by repeat (first | exact LeDs.nil | refine LeDs.cons (LeD.agg (by repeat (first | exact .nil | refine .cons .refl ?_))) ?_))) (by (exact .none)) (fun _ => ?_)
            refine JD.take 5 rfl rfl (by kernel_rfl) rfl (Nat.le_of_ble_eq_true rfl) (Qt.pick rfl rfl) rfl ?_
            refine JD.each1 (i := 6) (by kernel_rfl) ?_
            (refine JS.st rfl rfl rfl (Ld.storeW rfl rfl rfl (by exact rfl) (by exact rfl)) (by (exact .tbox rfl)) (fun _ => ?_))
            refine JD.each1 (i := 7) (by kernel_rfl) ?_
            refine JS.q rfl rfl rfl (Nat.le_of_ble_eq_true rfl) (Qt.assign rfl) ?_
            refine JD.done (by kernel_rfl) ?_
            all_goals
              (exact J.ret Tryd.func17 rfl (.cons (.cell 1 rfl rfl rfl) (.cons (.tmp rfl) .nil)) () (by (exact .refl)) [] .nil rfl rfl)
          | false =>
            refine J.draw (by kernel_rfl) rfl ?_
            refine JW.base1 none (.tmp 2) rfl ?_
            (refine JD.take 0 rfl rfl (by kernel_rfl) rfl (Nat.le_of_ble_eq_true rfl) (Qt.loadWb rfl (by exact rfl)) rfl ?_)
            refine JD.take 1 rfl rfl (by kernel_rfl) rfl (Nat.le_of_ble_eq_true rfl) (Qt.move rfl) rfl ?_
            refine JD.take 2 rfl rfl (by kernel_rfl) rfl (Nat.le_of_ble_eq_true rfl) (Qt.move rfl) rfl ?_
            (refine JD.skip 3 rfl rfl (by kernel_rfl) rfl (Nat.le_of_ble_eq_true rfl) ?_)
            (refine JD.skip 4 rfl rfl (by kernel_rfl) rfl (Nat.le_of_ble_eq_true rfl) ?_)
            refine JD.take 5 rfl rfl (by kernel_rfl) rfl (Nat.le_of_ble_eq_true rfl) (Qt.pick rfl rfl) rfl ?_
            refine JD.each1 (i := 6) (by kernel_rfl) ?_
            (refine JS.st rfl rfl rfl (Ld.storeW rfl rfl rfl (by exact rfl) (by exact rfl)) (by (exact .tbox rfl)) (fun _ => ?_))
            refine JD.take 7 rfl rfl (by kernel_rfl) rfl (Nat.le_of_ble_eq_true rfl) (Qt.assign rfl) rfl ?_
            refine JD.done (by kernel_rfl) ?_
            all_goals
              (exact J.ret Tryd.func17 rfl (.cons (.cell 1 rfl rfl rfl) (.cons (.tmp rfl) .nil)) () (by (exact .refl)) [] .nil rfl rfl)
        · rw [if_neg k9]
          have u2 : (k == 9) = false := by simpa using k9
          have CH := c_hasV10 k
          have nl := Wr.numsL_len (w := rr) (m := Wr.manyK k)
          have CN := c_nums rr (Wr.manyK k) sm (by unfold Wr.manyK; split <;> omega)
          have CR := c_rightOp10 (Wr.mkO k (Wr.numsL rr (Wr.manyK k)))
          generalize Wr.numsL rr (Wr.manyK k) = N at nl CN CR ⊢
          cases hv : Pn.hasV k with
          | true =>
            have hm : Wr.manyK k = 2 := by unfold Wr.manyK; rw [hv]; rfl
            have h1 : (k == 1) = false := by
              rw [beq_eq_false_iff_ne]; intro e; subst e; cases hv
            rw [hv] at CH
            rw [hm] at nl CN ⊢
            rcases N with _ | ⟨x, _ | ⟨y, _ | ⟨z, t⟩⟩⟩
            · rw [if_neg (by simp)]
              repeat (first
                  | (refine K.move ?_; refine JO.q rfl rfl (Nat.le_of_ble_eq_true rfl) (Qt.move rfl) ?_)
                  | (refine K.store ?_; (refine JO.ld (Ld.storeW rfl rfl rfl (by exact rfl) (by exact rfl)) rfl (fun _ => ?_)))
                  | (refine K.assign ?_; refine JO.q rfl rfl (Nat.le_of_ble_eq_true rfl) (Qt.assign rfl) ?_)
                  | (refine K.binOp ?_; first | refine JO.q rfl rfl (Nat.le_of_ble_eq_true rfl) (Qt.cmp rfl rfl (congrArg some u1)) ?_ | refine JO.q rfl rfl (Nat.le_of_ble_eq_true rfl) (Qt.cmp rfl rfl (congrArg some u2)) ?_ | refine JO.q rfl rfl (Nat.le_of_ble_eq_true rfl) (Qt.cmp rfl rfl rfl) ?_)
                  | (refine K.call ?_; first | (refine JO.pure (CH) rfl (Nat.le_of_ble_eq_true rfl) rfl ?_ ?_; focus ((repeat (first | exact LeDs.nil | refine LeDs.cons LeD.refl ?_)); done)) | (refine JO.pure (CN) rfl (Nat.le_of_ble_eq_true rfl) rfl ?_ ?_; focus ((repeat (first | exact LeDs.nil | refine LeDs.cons LeD.refl ?_)); done)))
                  | (refine K.bi ?_; (refine JO.q rfl rfl (Nat.le_of_ble_eq_true rfl) (Qt.lenM rfl) ?_))
                  | (refine K.build ?_; refine JO.q rfl rfl (Nat.le_of_ble_eq_true rfl) (Qt.build rfl (by kernel_rfl)) ?_)
                  | refine JO.nil ?_
                  | refine J.seq ?_
                  | refine J.region ?_
                  | refine J.skip ?_
                  | refine J.cond_t rfl ?_
                  | refine J.cond_f rfl ?_)
              (exact J.ret Tryd.func17 rfl (.cons (.cell 0 rfl rfl rfl) (.cons (.tmp rfl) .nil)) () (by (exact .tup (by repeat (first | exact .nil | refine .cons (.agg (by repeat (first | exact .nil | refine .cons .refl ?_ | refine .cons .nil ?_))) ?_ | refine .cons .refl ?_)))) [] .nil rfl rfl)
            · simp at nl
            · have e1 : Wr.mkO k [x, y] = ⟨k, x, 0, y, [], false⟩ := by unfold Wr.mkO; rw [if_neg (by simpa using h1), hv]; rfl
              rw [if_pos (show [x, y].length = 2 from rfl)]
              rw [e1] at CR ⊢
              repeat (first
                  | (refine K.fieldAddr ?_; refine JO.q rfl rfl (Nat.le_of_ble_eq_true rfl) (Qt.fieldAddr rfl rfl) ?_)
                  | (refine K.load ?_; (refine JO.q rfl rfl (Nat.le_of_ble_eq_true rfl) (Qt.load1 rfl .el rfl) ?_))
                  | (refine K.move ?_; refine JO.q rfl rfl (Nat.le_of_ble_eq_true rfl) (Qt.move rfl) ?_)
                  | (refine K.store ?_; first | refine JO.ld (Ld.storeW rfl rfl rfl (by exact rfl) (by exact rfl)) rfl (fun _ => ?_) | refine JO.ld (Ld.store1 rfl rfl (by exact rfl)) rfl (fun _ => ?_))
                  | (refine K.assign ?_; refine JO.q rfl rfl (Nat.le_of_ble_eq_true rfl) (Qt.assign rfl) ?_)
                  | (refine K.indexAddr ?_; refine JO.q rfl rfl (Nat.le_of_ble_eq_true rfl) (Qt.indexR rfl rfl (by omega) (rfl)) ?_)
                  | (refine K.binOp ?_; first | refine JO.q rfl rfl (Nat.le_of_ble_eq_true rfl) (Qt.cmp rfl rfl (congrArg some u1)) ?_ | refine JO.q rfl rfl (Nat.le_of_ble_eq_true rfl) (Qt.cmp rfl rfl (congrArg some u2)) ?_ | refine JO.q rfl rfl (Nat.le_of_ble_eq_true rfl) (Qt.cmp rfl rfl (congrArg some h1)) ?_ | refine JO.q rfl rfl (Nat.le_of_ble_eq_true rfl) (Qt.cmp rfl rfl rfl) ?_)
                  | (refine K.call ?_; first | (refine JO.pure (CH) rfl (Nat.le_of_ble_eq_true rfl) rfl ?_ ?_; focus ((repeat (first | exact LeDs.nil | refine LeDs.cons LeD.refl ?_)); done)) | (refine JO.pure (CN) rfl (Nat.le_of_ble_eq_true rfl) rfl ?_ ?_; focus ((repeat (first | exact LeDs.nil | refine LeDs.cons LeD.refl ?_)); done)))
                  | (refine K.bi ?_; (refine JO.q rfl rfl (Nat.le_of_ble_eq_true rfl) (Qt.lenM rfl) ?_))
                  | (refine JO.alloc rfl (Nat.le_of_ble_eq_true rfl) ?_; intro _)
                  | (refine K.build ?_; refine JO.q rfl rfl (Nat.le_of_ble_eq_true rfl) (Qt.build rfl (by kernel_rfl)) ?_)
                  | refine JO.nil ?_
                  | refine J.seq ?_
                  | refine J.region ?_
                  | refine J.skip ?_
                  | refine J.cond_t rfl ?_
                  | refine J.cond_f rfl ?_)
              refine J.draw (by kernel_rfl) rfl ?_
              refine JW.base (some 3) ?_
              (refine JD.take 0 rfl rfl (by kernel_rfl) rfl (Nat.le_of_ble_eq_true rfl) (Qt.loadWb rfl (by exact rfl)) rfl ?_)
              (refine JD.takeT 1 rfl rfl (by kernel_rfl) rfl (Nat.le_of_ble_eq_true rfl) (Qt.loadWb rfl (by exact rfl)) rfl ?_)
              refine JD.each1 (i := 2) (by kernel_rfl) ?_
              refine JS.loud rfl rfl rfl (Nat.le_of_ble_eq_true rfl) (Ld.pure (CR) (Nat.le_of_ble_eq_true rfl) rfl (by repeat (first | exact LeDs.nil | refine LeDs.cons (LeD.agg (by repeat (first | exact .nil | refine .cons .refl ?_ | refine .cons .nil ?_))) ?_))) (by (exact .none)) (fun _ => ?_)
              refine JD.each1 (i := 3) (by kernel_rfl) ?_
              (refine JS.last rfl rfl (Ld.storeW rfl rfl rfl (by exact rfl) (by exact rfl)) (fun _ => ?_))
              refine JW.base none ?_
              refine JD.each1 (i := 4) (by kernel_rfl) ?_
              refine JS.q rfl rfl rfl (Nat.le_of_ble_eq_true rfl) (Qt.assign rfl) ?_
              refine JD.done (by kernel_rfl) ?_
              all_goals
                (exact J.ret Tryd.func17 rfl (.cons (.cell 1 rfl rfl rfl) (.cons (.tmp rfl) .nil)) () (by (exact .tup (by repeat (first | exact .nil | refine .cons (.agg (by repeat (first | exact .nil | refine .cons .refl ?_ | refine .cons .nil ?_))) ?_ | refine .cons .refl ?_)))) [] .nil rfl rfl)
            · simp at nl
          | false =>
            have hm : Wr.manyK k = 1 := by unfold Wr.manyK; rw [hv]; rfl
            rw [hv] at CH
            rw [hm] at nl CN ⊢
            rcases N with _ | ⟨x, _ | ⟨y, t⟩⟩
            · rw [if_neg (by simp)]
              repeat (first
                  | (refine K.move ?_; refine JO.q rfl rfl (Nat.le_of_ble_eq_true rfl) (Qt.move rfl) ?_)
                  | (refine K.store ?_; (refine JO.ld (Ld.storeW rfl rfl rfl (by exact rfl) (by exact rfl)) rfl (fun _ => ?_)))
                  | (refine K.assign ?_; refine JO.q rfl rfl (Nat.le_of_ble_eq_true rfl) (Qt.assign rfl) ?_)
                  | (refine K.binOp ?_; first | refine JO.q rfl rfl (Nat.le_of_ble_eq_true rfl) (Qt.cmp rfl rfl (congrArg some u1)) ?_ | refine JO.q rfl rfl (Nat.le_of_ble_eq_true rfl) (Qt.cmp rfl rfl (congrArg some u2)) ?_ | refine JO.q rfl rfl (Nat.le_of_ble_eq_true rfl) (Qt.cmp rfl rfl rfl) ?_)
                  | (refine K.call ?_; first | (refine JO.pure (CH) rfl (Nat.le_of_ble_eq_true rfl) rfl ?_ ?_; focus ((repeat (first | exact LeDs.nil | refine LeDs.cons LeD.refl ?_)); done)) | (refine JO.pure (CN) rfl (Nat.le_of_ble_eq_true rfl) rfl ?_ ?_; focus ((repeat (first | exact LeDs.nil | refine LeDs.cons LeD.refl ?_)); done)))
                  | (refine K.bi ?_; (refine JO.q rfl rfl (Nat.le_of_ble_eq_true rfl) (Qt.lenM rfl) ?_))
                  | (refine K.build ?_; refine JO.q rfl rfl (Nat.le_of_ble_eq_true rfl) (Qt.build rfl (by kernel_rfl)) ?_)
                  | refine JO.nil ?_
                  | refine J.seq ?_
                  | refine J.region ?_
                  | refine J.skip ?_
                  | refine J.cond_t rfl ?_
                  | refine J.cond_f rfl ?_)
              (exact J.ret Tryd.func17 rfl (.cons (.cell 0 rfl rfl rfl) (.cons (.tmp rfl) .nil)) () (by (exact .tup (by repeat (first | exact .nil | refine .cons (.agg (by repeat (first | exact .nil | refine .cons .refl ?_ | refine .cons .nil ?_))) ?_ | refine .cons .refl ?_)))) [] .nil rfl rfl)
            · rw [if_pos (show [x].length = 1 from rfl)]
              by_cases h1 : k = 1
              · subst h1
                have e1 : Wr.mkO 1 [x] = ⟨1, 0, x, 0, [], false⟩ := rfl
                rw [e1] at CR ⊢
                repeat (first
                    | (refine K.fieldAddr ?_; refine JO.q rfl rfl (Nat.le_of_ble_eq_true rfl) (Qt.fieldAddr rfl rfl) ?_)
                    | (refine K.load ?_; (refine JO.q rfl rfl (Nat.le_of_ble_eq_true rfl) (Qt.load1 rfl .el rfl) ?_))
                    | (refine K.move ?_; refine JO.q rfl rfl (Nat.le_of_ble_eq_true rfl) (Qt.move rfl) ?_)
                    | (refine K.store ?_; first | refine JO.ld (Ld.storeW rfl rfl rfl (by exact rfl) (by exact rfl)) rfl (fun _ => ?_) | refine JO.ld (Ld.store1 rfl rfl (by exact rfl)) rfl (fun _ => ?_))
                    | (refine K.assign ?_; refine JO.q rfl rfl (Nat.le_of_ble_eq_true rfl) (Qt.assign rfl) ?_)
                    | (refine K.indexAddr ?_; refine JO.q rfl rfl (Nat.le_of_ble_eq_true rfl) (Qt.indexR rfl rfl (by omega) (rfl)) ?_)
                    | (refine K.binOp ?_; first | refine JO.q rfl rfl (Nat.le_of_ble_eq_true rfl) (Qt.cmp rfl rfl (congrArg some u1)) ?_ | refine JO.q rfl rfl (Nat.le_of_ble_eq_true rfl) (Qt.cmp rfl rfl rfl) ?_)
                    | (refine K.call ?_; first | (refine JO.pure (CH) rfl (Nat.le_of_ble_eq_true rfl) rfl ?_ ?_; focus ((repeat (first | exact LeDs.nil | refine LeDs.cons LeD.refl ?_)); done)) | (refine JO.pure (CN) rfl (Nat.le_of_ble_eq_true rfl) rfl ?_ ?_; focus ((repeat (first | exact LeDs.nil | refine LeDs.cons LeD.refl ?_)); done)))
                    | (refine K.bi ?_; (refine JO.q rfl rfl (Nat.le_of_ble_eq_true rfl) (Qt.lenM rfl) ?_))
                    | (refine JO.alloc rfl (Nat.le_of_ble_eq_true rfl) ?_; intro _)
                    | (refine K.build ?_; refine JO.q rfl rfl (Nat.le_of_ble_eq_true rfl) (Qt.build rfl (by kernel_rfl)) ?_)
                    | refine JO.nil ?_
                    | refine J.seq ?_
                    | refine J.region ?_
                    | refine J.skip ?_
                    | refine J.cond_t rfl ?_
                    | refine J.cond_f rfl ?_)
                refine J.draw (by kernel_rfl) rfl ?_
                refine JW.base (some 3) ?_
                (refine JD.take 0 rfl rfl (by kernel_rfl) rfl (Nat.le_of_ble_eq_true rfl) (Qt.loadWb rfl (by exact rfl)) rfl ?_)
                (refine JD.takeT 1 rfl rfl (by kernel_rfl) rfl (Nat.le_of_ble_eq_true rfl) (Qt.loadWb rfl (by exact rfl)) rfl ?_)
                refine JD.each1 (i := 2) (by kernel_rfl) ?_
                refine JS.loud rfl rfl rfl (Nat.le_of_ble_eq_true rfl) (Ld.pure (CR) (Nat.le_of_ble_eq_true rfl) rfl (by repeat (first | exact LeDs.nil | refine LeDs.cons (LeD.agg (by repeat (first | exact .nil | refine .cons .refl ?_ | refine .cons .nil ?_))) ?_))) (by (exact .none)) (fun _ => ?_)
                refine JD.each1 (i := 3) (by kernel_rfl) ?_
                (refine JS.last rfl rfl (Ld.storeW rfl rfl rfl (by exact rfl) (by exact rfl)) (fun _ => ?_))
                refine JW.base none ?_
                refine JD.each1 (i := 4) (by kernel_rfl) ?_
                refine JS.q rfl rfl rfl (Nat.le_of_ble_eq_true rfl) (Qt.assign rfl) ?_
                refine JD.done (by kernel_rfl) ?_
                all_goals
                  (exact J.ret Tryd.func17 rfl (.cons (.cell 1 rfl rfl rfl) (.cons (.tmp rfl) .nil)) () (by (exact .tup (by repeat (first | exact .nil | refine .cons (.agg (by repeat (first | exact .nil | refine .cons .refl ?_ | refine .cons .nil ?_))) ?_ | refine .cons .refl ?_)))) [] .nil rfl rfl)
              · have e1 : Wr.mkO k [x] = ⟨k, x, 0, 0, [], false⟩ := by unfold Wr.mkO; rw [if_neg h1, hv]; rfl
                have h1' : (k == 1) = false := by simpa using h1
                rw [e1] at CR ⊢
                repeat (first
                    | (refine K.fieldAddr ?_; refine JO.q rfl rfl (Nat.le_of_ble_eq_true rfl) (Qt.fieldAddr rfl rfl) ?_)
                    | (refine K.load ?_; (refine JO.q rfl rfl (Nat.le_of_ble_eq_true rfl) (Qt.load1 rfl .el rfl) ?_))
                    | (refine K.move ?_; refine JO.q rfl rfl (Nat.le_of_ble_eq_true rfl) (Qt.move rfl) ?_)
                    | (refine K.store ?_; first | refine JO.ld (Ld.storeW rfl rfl rfl (by exact rfl) (by exact rfl)) rfl (fun _ => ?_) | refine JO.ld (Ld.store1 rfl rfl (by exact rfl)) rfl (fun _ => ?_))
                    | (refine K.assign ?_; refine JO.q rfl rfl (Nat.le_of_ble_eq_true rfl) (Qt.assign rfl) ?_)
                    | (refine K.indexAddr ?_; refine JO.q rfl rfl (Nat.le_of_ble_eq_true rfl) (Qt.indexR rfl rfl (by omega) (rfl)) ?_)
                    | (refine K.binOp ?_; first | refine JO.q rfl rfl (Nat.le_of_ble_eq_true rfl) (Qt.cmp rfl rfl (congrArg some u1)) ?_ | refine JO.q rfl rfl (Nat.le_of_ble_eq_true rfl) (Qt.cmp rfl rfl (congrArg some u2)) ?_ | refine JO.q rfl rfl (Nat.le_of_ble_eq_true rfl) (Qt.cmp rfl rfl (congrArg some h1')) ?_ | refine JO.q rfl rfl (Nat.le_of_ble_eq_true rfl) (Qt.cmp rfl rfl rfl) ?_)
                    | (refine K.call ?_; first | (refine JO.pure (CH) rfl (Nat.le_of_ble_eq_true rfl) rfl ?_ ?_; focus ((repeat (first | exact LeDs.nil | refine LeDs.cons LeD.refl ?_)); done)) | (refine JO.pure (CN) rfl (Nat.le_of_ble_eq_true rfl) rfl ?_ ?_; focus ((repeat (first | exact LeDs.nil | refine LeDs.cons LeD.refl ?_)); done)))
                    | (refine K.bi ?_; (refine JO.q rfl rfl (Nat.le_of_ble_eq_true rfl) (Qt.lenM rfl) ?_))
                    | (refine JO.alloc rfl (Nat.le_of_ble_eq_true rfl) ?_; intro _)
                    | (refine K.build ?_; refine JO.q rfl rfl (Nat.le_of_ble_eq_true rfl) (Qt.build rfl (by kernel_rfl)) ?_)
                    | refine JO.nil ?_
                    | refine J.seq ?_
                    | refine J.region ?_
                    | refine J.skip ?_
                    | refine J.cond_f rfl ?_)
                refine J.draw (by kernel_rfl) rfl ?_
                refine JW.base (some 3) ?_
                (refine JD.take 0 rfl rfl (by kernel_rfl) rfl (Nat.le_of_ble_eq_true rfl) (Qt.loadWb rfl (by exact rfl)) rfl ?_)
                (refine JD.takeT 1 rfl rfl (by kernel_rfl) rfl (Nat.le_of_ble_eq_true rfl) (Qt.loadWb rfl (by exact rfl)) rfl ?_)
                refine JD.each1 (i := 2) (by kernel_rfl) ?_
                refine JS.loud rfl rfl rfl (Nat.le_of_ble_eq_true rfl) (Ld.pure (CR) (Nat.le_of_ble_eq_true rfl) rfl (by repeat (first | exact LeDs.nil | refine LeDs.cons (LeD.agg (by repeat (first | exact .nil | refine .cons .refl ?_ | refine .cons .nil ?_))) ?_))) (by (exact .none)) (fun _ => ?_)
                refine JD.each1 (i := 3) (by kernel_rfl) ?_
                (refine JS.last rfl rfl (Ld.storeW rfl rfl rfl (by exact rfl) (by exact rfl)) (fun _ => ?_))
                refine JW.base none ?_
                refine JD.each1 (i := 4) (by kernel_rfl) ?_
                refine JS.q rfl rfl rfl (Nat.le_of_ble_eq_true rfl) (Qt.assign rfl) ?_
                refine JD.done (by kernel_rfl) ?_
                all_goals
                  (exact J.ret Tryd.func17 rfl (.cons (.cell 1 rfl rfl rfl) (.cons (.tmp rfl) .nil)) () (by (exact .tup (by repeat (first | exact .nil | refine .cons (.agg (by repeat (first | exact .nil | refine .cons .refl ?_ | refine .cons .nil ?_))) ?_ | refine .cons .refl ?_)))) [] .nil rfl rfl)
            · simp at nl
    · by_cases ha : a = Wr.tryW
      · have u1 : (a == [116, 114, 121]) = true := by rw [ha]; rfl
        cases r with
        | nil =>
          have e1 : Wr.kindRest [a] = (Wr.kindOf a, []) := by rw [ha]; rfl
          have u2 : decide ((1 : Int) < (([a] : List Wr.W).length : Int)) = false := rfl
          rw [e1] at rest ⊢
          repeat (first
              | (refine K.load ?_; (refine JO.q rfl rfl (Nat.le_of_ble_eq_true rfl) (Qt.load1 rfl .el rfl) ?_))
              | (refine K.move ?_; refine JO.q rfl rfl (Nat.le_of_ble_eq_true rfl) (Qt.move rfl) ?_)
              | (refine K.indexAddr ?_; refine JO.q rfl rfl (Nat.le_of_ble_eq_true rfl) (Qt.indexR rfl rfl (by omega) (rfl)) ?_)
              | (refine K.binOp ?_; first | refine JO.q rfl rfl (Nat.le_of_ble_eq_true rfl) ((Qt.strE rfl rfl).eq (congrArg (fun z => D.c (.v (.bool z))) (u1))) ?_ | refine JO.q rfl rfl (Nat.le_of_ble_eq_true rfl) (Qt.cmp rfl rfl (congrArg some u2)) ?_)
              | (refine K.bi ?_; (refine JO.q rfl rfl (Nat.le_of_ble_eq_true rfl) (Qt.lenM rfl) ?_))
              | (refine K.pick ?_; refine JO.q rfl rfl (Nat.le_of_ble_eq_true rfl) (Qt.pick rfl rfl) ?_)
              | refine JO.nil ?_
              | refine J.seq ?_
              | refine J.region ?_
              | refine J.skip ?_
              | refine J.cond_f rfl ?_
              | refine JO.no rfl rfl (Nat.le_of_ble_eq_true rfl) ?_)
          exact (rest ()).weak ⟨rfl, rfl, rfl, trivial⟩
        | cons b r =>
          have A1 : ((a :: b :: r).map eW)[((1 : Int)).toNat]? = some (eW b) := rfl
          have u2 : decide ((1 : Int) < ((a :: b :: r).length : Int)) = true := decide_eq_true (by simp; omega)
          have C2 : (((a :: b :: r).map eW).take (((a :: b :: r).map eW).length : Int).toNat).drop (2 : Int).toNat = r.map eW := by
            rw [Int.toNat_natCast, List.take_length]; rfl
          by_cases h2 : b = Wd.kind 2
          · have u3 : (b == [115, 101, 110, 100]) = true := by rw [h2]; rfl
            have u4 : (b == [114, 101, 99, 118]) = false := by rw [h2]; rfl
            have e1 : Wr.kindRest (a :: b :: r) = (4, r) := by rw [ha, h2]; rfl
            rw [e1] at rest ⊢
            repeat (first
                | (refine K.load ?_; (refine JO.q rfl rfl (Nat.le_of_ble_eq_true rfl) (Qt.load1 rfl .el rfl) ?_))
                | (refine K.move ?_; refine JO.q rfl rfl (Nat.le_of_ble_eq_true rfl) (Qt.move rfl) ?_)
                | (refine K.assign ?_; refine JO.q rfl rfl (Nat.le_of_ble_eq_true rfl) (Qt.assign rfl) ?_)
                | (refine K.indexAddr ?_; refine JO.q rfl rfl (Nat.le_of_ble_eq_true rfl) (Qt.indexR rfl rfl (by omega) (rfl)) ?_)
                | (refine K.binOp ?_; first | refine JO.q rfl rfl (Nat.le_of_ble_eq_true rfl) ((Qt.strE rfl rfl).eq (congrArg (fun z => D.c (.v (.bool z))) (u1))) ?_ | refine JO.q rfl rfl (Nat.le_of_ble_eq_true rfl) ((Qt.strE rfl rfl).eq (congrArg (fun z => D.c (.v (.bool z))) (u3))) ?_ | refine JO.q rfl rfl (Nat.le_of_ble_eq_true rfl) ((Qt.strE rfl rfl).eq (congrArg (fun z => D.c (.v (.bool z))) (u4))) ?_ | refine JO.q rfl rfl (Nat.le_of_ble_eq_true rfl) (Qt.cmp rfl rfl (congrArg some u2)) ?_)
                | (refine K.bi ?_; (refine JO.q rfl rfl (Nat.le_of_ble_eq_true rfl) (Qt.lenM rfl) ?_))
                | (refine K.pick ?_; refine JO.q rfl rfl (Nat.le_of_ble_eq_true rfl) (Qt.pick rfl rfl) ?_)
                | (refine K.slice ?_; refine JO.q rfl rfl (Nat.le_of_ble_eq_true rfl) (((Qt.sliceR rfl rfl rfl (by omega) (by simp; omega) (by simp)).eq (congrArg (fun z => D.c (.r 1 z)) C2))) ?_)
                | refine JO.nil ?_
                | refine J.seq ?_
                | refine J.region ?_
                | refine J.skip ?_
                | refine J.cond_t rfl ?_
                | refine J.cond_f rfl ?_
                | refine JO.no rfl rfl (Nat.le_of_ble_eq_true rfl) ?_)
            exact (rest ()).weak ⟨rfl, rfl, rfl, trivial⟩
          · have u3 : (b == [115, 101, 110, 100]) = false := by rw [beq_eq_false_iff_ne]; exact h2
            by_cases h3 : b = Wd.kind 3
            · have u4 : (b == [114, 101, 99, 118]) = true := by rw [h3]; rfl
              have e1 : Wr.kindRest (a :: b :: r) = (5, r) := by rw [ha, h3]; rfl
              rw [e1] at rest ⊢
              repeat (first
                  | (refine K.load ?_; (refine JO.q rfl rfl (Nat.le_of_ble_eq_true rfl) (Qt.load1 rfl .el rfl) ?_))
                  | (refine K.move ?_; refine JO.q rfl rfl (Nat.le_of_ble_eq_true rfl) (Qt.move rfl) ?_)
                  | (refine K.assign ?_; refine JO.q rfl rfl (Nat.le_of_ble_eq_true rfl) (Qt.assign rfl) ?_)
                  | (refine K.indexAddr ?_; refine JO.q rfl rfl (Nat.le_of_ble_eq_true rfl) (Qt.indexR rfl rfl (by omega) (rfl)) ?_)
                  | (refine K.binOp ?_; first | refine JO.q rfl rfl (Nat.le_of_ble_eq_true rfl) ((Qt.strE rfl rfl).eq (congrArg (fun z => D.c (.v (.bool z))) (u1))) ?_ | refine JO.q rfl rfl (Nat.le_of_ble_eq_true rfl) ((Qt.strE rfl rfl).eq (congrArg (fun z => D.c (.v (.bool z))) (u3))) ?_ | refine JO.q rfl rfl (Nat.le_of_ble_eq_true rfl) ((Qt.strE rfl rfl).eq (congrArg (fun z => D.c (.v (.bool z))) (u4))) ?_ | refine JO.q rfl rfl (Nat.le_of_ble_eq_true rfl) (Qt.cmp rfl rfl (congrArg some u2)) ?_)
                  | (refine K.bi ?_; (refine JO.q rfl rfl (Nat.le_of_ble_eq_true rfl) (Qt.lenM rfl) ?_))
                  | (refine K.pick ?_; refine JO.q rfl rfl (Nat.le_of_ble_eq_true rfl) (Qt.pick rfl rfl) ?_)
                  | (refine K.slice ?_; refine JO.q rfl rfl (Nat.le_of_ble_eq_true rfl) (((Qt.sliceR rfl rfl rfl (by omega) (by simp; omega) (by simp)).eq (congrArg (fun z => D.c (.r 1 z)) C2))) ?_)
                  | refine JO.nil ?_
                  | refine J.seq ?_
                  | refine J.region ?_
                  | refine J.cond_t rfl ?_)
              exact (rest ()).weak ⟨rfl, rfl, rfl, trivial⟩
            · have u4 : (b == [114, 101, 99, 118]) = false := by rw [beq_eq_false_iff_ne]; exact h3
              have e1 : Wr.kindRest (a :: b :: r) = (0, b :: r) := by
                rw [ha]
                show (if b = Wd.kind 2 then _ else if b = Wd.kind 3 then _ else _) = _
                rw [if_neg h2, if_neg h3]
              rw [e1] at rest ⊢
              have ko : Wr.kindOf a = 0 := by rw [ha]; rfl
              rw [ko]
              repeat (first
                  | (refine K.load ?_; (refine JO.q rfl rfl (Nat.le_of_ble_eq_true rfl) (Qt.load1 rfl .el rfl) ?_))
                  | (refine K.move ?_; refine JO.q rfl rfl (Nat.le_of_ble_eq_true rfl) (Qt.move rfl) ?_)
                  | (refine K.indexAddr ?_; refine JO.q rfl rfl (Nat.le_of_ble_eq_true rfl) (Qt.indexR rfl rfl (by omega) (rfl)) ?_)
                  | (refine K.binOp ?_; first | refine JO.q rfl rfl (Nat.le_of_ble_eq_true rfl) ((Qt.strE rfl rfl).eq (congrArg (fun z => D.c (.v (.bool z))) (u1))) ?_ | refine JO.q rfl rfl (Nat.le_of_ble_eq_true rfl) ((Qt.strE rfl rfl).eq (congrArg (fun z => D.c (.v (.bool z))) (u3))) ?_ | refine JO.q rfl rfl (Nat.le_of_ble_eq_true rfl) ((Qt.strE rfl rfl).eq (congrArg (fun z => D.c (.v (.bool z))) (u4))) ?_ | refine JO.q rfl rfl (Nat.le_of_ble_eq_true rfl) (Qt.cmp rfl rfl (congrArg some u2)) ?_)
                  | (refine K.bi ?_; (refine JO.q rfl rfl (Nat.le_of_ble_eq_true rfl) (Qt.lenM rfl) ?_))
                  | (refine K.pick ?_; refine JO.q rfl rfl (Nat.le_of_ble_eq_true rfl) (Qt.pick rfl rfl) ?_)
                  | refine JO.nil ?_
                  | refine J.seq ?_
                  | refine J.region ?_
                  | refine J.skip ?_
                  | refine J.cond_f rfl ?_)
              exact (rest ()).weak ⟨rfl, rfl, rfl, trivial⟩
      · have u1 : (a == [116, 114, 121]) = false := by rw [beq_eq_false_iff_ne]; exact ha
        have e1 : Wr.kindRest (a :: r) = (Wr.kindOf a, r) := by
          show (if a = Wr.tryW then _ else _) = _
          rw [if_neg ha]
        rw [e1] at rest ⊢
        repeat (first
            | (refine K.load ?_; (refine JO.q rfl rfl (Nat.le_of_ble_eq_true rfl) (Qt.load1 rfl .el rfl) ?_))
            | (refine K.move ?_; refine JO.q rfl rfl (Nat.le_of_ble_eq_true rfl) (Qt.move rfl) ?_)
            | (refine K.indexAddr ?_; refine JO.q rfl rfl (Nat.le_of_ble_eq_true rfl) (Qt.indexR rfl rfl (by omega) (rfl)) ?_)
            | (refine K.binOp ?_; (refine JO.q rfl rfl (Nat.le_of_ble_eq_true rfl) ((Qt.strE rfl rfl).eq (congrArg (fun z => D.c (.v (.bool z))) (u1))) ?_))
            | (refine K.pick ?_; refine JO.q rfl rfl (Nat.le_of_ble_eq_true rfl) (Qt.pick rfl rfl) ?_)
            | refine JO.nil ?_
            | refine J.seq ?_
            | refine J.region ?_
            | refine J.skip ?_
            | refine J.cond_f rfl ?_
            | refine JO.no rfl rfl (Nat.le_of_ble_eq_true rfl) ?_)
        exact (rest ()).weak ⟨rfl, rfl, rfl, trivial⟩
end Fl
end Go.Proofs.YtbjnbngpjdoejaaDoor
