/-
  Texts RdE of this claim, put together: what they show stands at their heads.
  Conditions: none but those that each theorem states.
-/
import Derived.Test.YtbjnbngpjdoejaaDoorQ19
namespace Go.Proofs.YtbjnbngpjdoejaaDoor
open Go.RowKit
set_option linter.unusedVariables false
set_option linter.unusedSimpArgs false
set_option linter.unnecessarySimpa false
namespace Fl
set_option maxRecDepth 100000
set_option maxHeartbeats 4000000
abbrev opsRow (l : List Pn.Op) : List A := [.r 6 (l.map eOp)]
def outA : Wr.PSt → Value → List (List A)
  | none, _ => []
  | some (d, _), iv => d.map opsRow ++ [[.v iv]]
def curA : Wr.PSt → List (List A)
  | none => []
  | some (_, c) => c.map eOp
theorem outA_len (st : Wr.PSt) (iv : Value) : (outA st iv).length = (Wr.flat st).length := by
  cases st with
  | none => rfl
  | some x => obtain ⟨d, c⟩ := x; simp [outA, Wr.flat]
theorem J.flat {P : Program} {c : Cx} {k : List Item} {f : Fm} {L : List Res} (st : Wr.PSt) (pv iv : Value) {e e2 : TypeId} (h : J P c k f (.row pv e 1 ((Wr.flat st).map opsRow) :: L)) : J P c k f (.row pv e 1 (outA st iv) :: .row iv e2 6 (curA st) :: L) := by
  cases st with
  | none => exact J.drop 1 h
  | some x =>
    obtain ⟨d, q⟩ := x
    refine J.frzR ?_
    rw [show (Wr.flat (some (d, q))).map opsRow = d.map opsRow ++ [opsRow q] by simp [Wr.flat]] at h
    exact h
theorem go_no : Wr.readF Wr.goW = (Wr.zeroO, false) := by
  have e : Wr.split 32 Wr.goW = [Wr.goW] := rfl
  unfold Wr.readF
  rw [e]
  rfl
set_option maxHeartbeats 2000000 in
theorem c_parse (s : Wr.W) (hs : s.length ≤ 3000) : Pure Tryd.prog 7 [.c (sA s)] (.tup [.c (opsA (Wr.prs s).1), .c (nI (Wr.prs s).2)]) := by
  have US := Tryd.underlying9
  have CS := c_split s 10 hs
  have SM := Wr.small_split 10 hs
  have pne := Wr.split_ne 10 s
  unfold Wr.prs
  generalize Wr.split 10 s = p at CS SM pne ⊢
  have lp : 1 ≤ p.length := by
    cases p with
    | nil => exact absurd rfl pne
    | cons => simp
  have lp2 := SM.1
  have AL : (p.map eW)[((p.length : Int) - 1).toNat]? = some (eW (Wr.lastD p)) := by
    rw [show ((p.length : Int) - 1).toNat = p.length - 1 by omega, List.getElem?_map]
    have := Wr.last_app pne
    have h2 : p[p.length - 1]? = some (Wr.lastD p) := by
      conv => lhs; rw [this]
      rw [List.getElem?_append_right (by simp)]
      simp
    rw [h2]; rfl
  refine Con.intro Tryd.func7 rfl rfl rfl (fun ok e => ?_)
  repeat (first
      | (refine K.load ?_; (refine JO.q rfl rfl (Nat.le_of_ble_eq_true rfl) (Qt.load1 rfl .el rfl) ?_))
      | (refine K.move ?_; refine JO.q rfl rfl (Nat.le_of_ble_eq_true rfl) (Qt.move rfl) ?_)
      | (refine K.assign ?_; refine JO.q rfl rfl (Nat.le_of_ble_eq_true rfl) (Qt.assign rfl) ?_)
      | (refine K.indexAddr ?_; refine JO.q rfl rfl (Nat.le_of_ble_eq_true rfl) (Qt.indexR rfl rfl (by omega) (AL)) ?_)
      | (refine K.binOp ?_; first | refine JO.q rfl rfl (Nat.le_of_ble_eq_true rfl) (Qt.ari rfl rfl rfl (w64 (by omega) (by omega))) ?_ | refine JO.q rfl rfl (Nat.le_of_ble_eq_true rfl) (Qt.strE rfl rfl) ?_)
      | (refine K.call ?_; (refine JO.pure (CS) rfl (Nat.le_of_ble_eq_true rfl) rfl ?_ ?_; focus ((repeat (first | exact LeDs.nil | refine LeDs.cons LeD.refl ?_)); done)))
      | (refine K.bi ?_; (refine JO.q rfl rfl (Nat.le_of_ble_eq_true rfl) (Qt.lenM rfl) ?_))
      | (refine K.lit ?_; (refine JO.lit0 rfl (Nat.le_of_ble_eq_true rfl) ?_; intro _))
      | refine JO.nil ?_
      | refine J.seq ?_
      | refine J.region ?_)
  rename_i bp
  refine J.jn1 (ι := Unit) (fun _ => [(5, .c (.r 1 ((Wr.lsOf p).map eW))), (6, .c (bI (Wr.lastD p == []))), (4, .c (.v (.slice (some ⟨bp, 0, none⟩) 0 0)))]) (fun _ => [.row (.slice (some ⟨bp, 0, none⟩) 0 0) 43 1 []]) (fun _ => ?_) (fun KK rest => ?_)
  · have LL := Wr.ls_len pne
    have LA := fun i x hx => Wr.ls_at pne (i := i) (x := x) hx
    have ll : (Wr.lsOf p).length ≤ 3001 := by
      unfold Wr.lsOf; split
      · simp; omega
      · exact lp2
    have lx : ∀ x ∈ Wr.lsOf p, x.length ≤ 3000 := fun x hx => by
      unfold Wr.lsOf at hx
      split at hx
      · exact SM.2 x ((List.dropLast_sublist p).subset hx)
      · exact SM.2 x hx
    generalize hLn : Wr.lnOf p = Ln at LL LA ⊢
    generalize Wr.lsOf p = l at LL LA ll lx ⊢
    generalize hE : Wr.lastD p = E at LA ⊢
    generalize hR : (if Ln = [] then ([], 1) else Wr.runP Ln none 0) = R
    have hR' : l ≠ [] → Wr.runP Ln none 0 = R := fun h => by
      rw [if_neg] at hR
      · exact hR
      · intro e; rw [e] at LL; exact h (List.eq_nil_of_length_eq_zero LL.symm)
    repeat (first
        | (refine K.move ?_; refine JO.q rfl rfl (Nat.le_of_ble_eq_true rfl) (Qt.move rfl) ?_)
        | (refine K.bi ?_; (refine JO.q rfl rfl (Nat.le_of_ble_eq_true rfl) (Qt.lenM rfl) ?_))
        | refine JO.nil ?_
        | refine J.seq ?_
        | refine J.region ?_
        | refine J.block ?_)
    refine J.nilQ 36 6 (J.pull 1 rfl ?_)
    refine J.loop (ι := { q : (Nat × Wr.PSt) × (Value × Value) // q.1.1 ≤ l.length ∧ q.1.2.ok ∧ (l ≠ [] → Wr.runP (Ln.drop q.1.1) q.1.2 q.1.1 = R) }) (fun q => [(28, .c (.r 1 (l.map eW))), (29, .c (nI l.length)), (30, .c (nI q.1.1.1)), (5, .c (.r 1 (l.map eW))), (6, .c (bI (E == []))), (4, .c (.v q.1.2.1))]) (fun q => [.row q.1.2.1 43 1 (outA q.1.1.2 q.1.2.2), .row q.1.2.2 36 6 (curA q.1.1.2)]) (fun q => l.length - q.1.1.1) ⟨((0, none), (.slice (some ⟨bp, 0, none⟩) 0 0, .slice none 0 0)), by simp, ⟨by simp [Wr.flat], by simp⟩, by simpa using hR'⟩ (fun X h => h.weak ⟨rfl, rfl, rfl, rfl, rfl, rfl, trivial⟩) (fun q ih => ?_)
    obtain ⟨⟨⟨i, st⟩, ⟨pv, iv⟩⟩, hI, hK, hG⟩ := q
    simp only at hI hK hG ih ⊢
    by_cases hi : i < l.length
    · have t1 : decide ((i : Int) < (l.length : Int)) = true := decide_eq_true (by omega)
      obtain ⟨x, hx⟩ : ∃ x, l[i]? = some x := ⟨_, List.getElem?_eq_getElem hi⟩
      have AX := at_m (enc := eW) hx
      have hxl := lx x (List.mem_of_getElem? hx)
      have hL := LA i x hx
      have hD : Ln.drop i = (x, decide (i + 1 < l.length) || decide (E = [])) :: Ln.drop (i + 1) := by
        obtain ⟨h1, h2⟩ := List.getElem?_eq_some_iff.1 hL
        rw [List.drop_eq_getElem_cons h1, h2]
      have hG := hG (by intro e; rw [e] at hi; simp at hi)
      rw [hD, Wr.runP] at hG
      generalize hwh : (decide (i + 1 < l.length) || decide (E = [])) = wh at hG
      repeat (first
          | (refine K.move ?_; refine JO.q rfl rfl (Nat.le_of_ble_eq_true rfl) (Qt.move rfl) ?_)
          | (refine K.binOp ?_; (refine JO.q rfl rfl (Nat.le_of_ble_eq_true rfl) (Qt.cmp rfl rfl (congrArg some t1)) ?_))
          | refine JO.nil ?_
          | refine J.seq ?_
          | refine J.region ?_
          | refine J.block ?_
          | refine J.skip ?_
          | refine J.cond_t rfl ?_)
      repeat  (first
          | (refine K.load ?_; (refine JO.q rfl rfl (Nat.le_of_ble_eq_true rfl) (Qt.load1 rfl .el rfl) ?_))
          | (refine K.assign ?_; refine JO.q rfl rfl (Nat.le_of_ble_eq_true rfl) (Qt.assign rfl) ?_)
          | (refine K.indexAddr ?_; refine JO.q rfl rfl (Nat.le_of_ble_eq_true rfl) (Qt.indexR rfl rfl (by omega) (AX)) ?_))
      refine JO.nil (J.seq ?_)
      refine J.jn1 (ι := Unit) (fun _ => [(28, .c (.r 1 (l.map eW))), (29, .c (nI l.length)), (30, .c (nI i)), (5, .c (.r 1 (l.map eW))), (6, .c (bI (E == []))), (4, .c (.v pv)), (7, .c (nI i)), (8, .c (sA x)), (9, .c (bI wh))]) (fun _ => [.row pv 43 1 (outA st iv), .row iv 36 6 (curA st)]) (fun _ => ?_) (fun KK rest => ?_)
      · have CR := c_read x hxl
        have rr := Wr.read_readF x
        cases wh with
        | false =>
          have e1 : Wr.stepP st (x, false) = none := by unfold Wr.stepP; rw [if_pos rfl]
          rw [e1] at hG
          simp only at hG
          subst hG
          repeat (first
              | (refine K.move ?_; refine JO.q rfl rfl (Nat.le_of_ble_eq_true rfl) (Qt.move rfl) ?_)
              | (refine K.store ?_; (refine JO.ld (Ld.storeW rfl rfl rfl (by exact rfl) (by exact rfl)) rfl (fun _ => ?_)))
              | (refine K.assign ?_; refine JO.q rfl rfl (Nat.le_of_ble_eq_true rfl) (Qt.assign rfl) ?_)
              | (refine K.binOp ?_; (refine JO.q rfl rfl (Nat.le_of_ble_eq_true rfl) (Qt.ari rfl rfl rfl (w64 (by omega) (by omega))) ?_))
              | (refine K.call ?_; (refine JO.pure (CR) rfl (Nat.le_of_ble_eq_true rfl) rfl ?_ ?_; focus ((repeat (first | exact LeDs.nil | refine LeDs.cons LeD.refl ?_)); done)))
              | (refine K.unOp ?_; refine JO.q rfl rfl (Nat.le_of_ble_eq_true rfl) (Qt.not rfl) ?_)
              | (refine K.extract ?_; refine JO.q rfl rfl (Nat.le_of_ble_eq_true rfl) (Qt.extract rfl rfl) ?_)
              | (refine JO.alloc rfl (Nat.le_of_ble_eq_true rfl) ?_; intro _)
              | refine JO.nil ?_
              | refine J.seq ?_
              | refine J.region ?_
              | refine J.cond_t rfl ?_)
          exact J.ret Tryd.func7 rfl (.cons (.tmp rfl) (.cons (.tmp rfl) .nil)) () (by (exact .tup (by repeat (first | exact .nil | refine .cons .refl ?_ | refine .cons (.c .nil) ?_)))) [] .nil rfl rfl
        | true =>
          by_cases hgo : x = Wr.goW
          · subst hgo
            rw [go_no] at CR
            have g1 : (Wr.goW == [103, 111]) = true := rfl
            by_cases h8 : (Wr.flat st).length < 8
            · have g2 : decide ((((Wr.flat st).map opsRow).length : Int) < 8) = true := decide_eq_true (by rw [List.length_map]; omega)
              have e1 : Wr.stepP st (Wr.goW, true) = some (some (Wr.flat st, [])) := by unfold Wr.stepP; rw [if_neg (by simp), if_pos rfl, if_pos h8]
              have k2 := Wr.stepP_ok e1 hK
              rw [e1] at hG
              have lf : ((Wr.flat st).map opsRow).length = (Wr.flat st).length := List.length_map ..
              refine J.flat st pv iv ?_
              repeat (first
                  | (refine K.move ?_; refine JO.q rfl rfl (Nat.le_of_ble_eq_true rfl) (Qt.move rfl) ?_)
                  | (refine K.store ?_; (refine JO.ld (Ld.storeW rfl rfl rfl (by exact rfl) (by exact rfl)) rfl (fun _ => ?_)))
                  | (refine K.assign ?_; refine JO.q rfl rfl (Nat.le_of_ble_eq_true rfl) (Qt.assign rfl) ?_)
                  | (refine K.binOp ?_; first | refine JO.q rfl rfl (Nat.le_of_ble_eq_true rfl) ((Qt.strE rfl rfl).eq (congrArg (fun z => D.c (.v (.bool z))) (g1))) ?_ | refine JO.q rfl rfl (Nat.le_of_ble_eq_true rfl) (Qt.cmp rfl rfl (congrArg some g2)) ?_ | refine JO.q rfl rfl (Nat.le_of_ble_eq_true rfl) (Qt.ari rfl rfl rfl (w64 (by omega) (by omega))) ?_)
                  | (refine K.call ?_; (refine JO.pure (CR) rfl (Nat.le_of_ble_eq_true rfl) rfl ?_ ?_; focus ((repeat (first | exact LeDs.nil | refine LeDs.cons LeD.refl ?_)); done)))
                  | (refine K.unOp ?_; refine JO.q rfl rfl (Nat.le_of_ble_eq_true rfl) (Qt.not rfl) ?_)
                  | (refine K.bi ?_; (refine JO.q rfl rfl (Nat.le_of_ble_eq_true rfl) (Qt.lenO rfl) ?_))
                  | (refine K.extract ?_; refine JO.q rfl rfl (Nat.le_of_ble_eq_true rfl) (Qt.extract rfl rfl) ?_)
                  | (refine JO.alloc rfl (Nat.le_of_ble_eq_true rfl) ?_; intro _)
                  | (refine K.pick ?_; refine JO.q rfl rfl (Nat.le_of_ble_eq_true rfl) (Qt.pick rfl rfl) ?_)
                  | (refine K.lit ?_; first | (refine JO.lit0 rfl (Nat.le_of_ble_eq_true rfl) ?_; intro _) | (refine JO.lit1 rfl (Nat.le_of_ble_eq_true rfl) rfl rfl rfl rfl rfl ?_; intro _))
                  | (refine K.bi ?_; ((refine JO.ld (Ld.appOw (Nat.le_of_ble_eq_true rfl) rfl rfl .ownC (by (simp; omega))) rfl (fun _ => ?_))))
                  | refine JO.nil ?_
                  | refine J.seq ?_
                  | refine J.region ?_
                  | refine J.skip ?_
                  | refine J.exit rfl ?_
                  | refine J.cond_t rfl ?_
                  | refine J.cond_f rfl ?_)
              rename_i b60 b61 pv2
              refine J.drop 1 ?_
              refine J.drop 2 ?_
              simp only [List.eraseIdx_cons_succ, List.eraseIdx_cons_zero]
              exact (ih ⟨((i + 1, some (Wr.flat st, [])), (pv2, .slice (some ⟨b60, 0, none⟩) 0 0)), by simp only; omega, k2, fun _ => by rw [Int.natCast_add]; exact hG⟩ (by simp only; omega)).weak ⟨rfl, rfl, rfl, rfl, rfl, rfl, trivial⟩
            · have g2 : decide (((outA st iv).length : Int) < 8) = false := decide_eq_false (by rw [outA_len]; omega)
              have e1 : Wr.stepP st (Wr.goW, true) = none := by unfold Wr.stepP; rw [if_neg (by simp), if_pos rfl, if_neg h8]
              rw [e1] at hG
              simp only at hG
              subst hG
              repeat (first
                  | (refine K.move ?_; refine JO.q rfl rfl (Nat.le_of_ble_eq_true rfl) (Qt.move rfl) ?_)
                  | (refine K.store ?_; (refine JO.ld (Ld.storeW rfl rfl rfl (by exact rfl) (by exact rfl)) rfl (fun _ => ?_)))
                  | (refine K.assign ?_; refine JO.q rfl rfl (Nat.le_of_ble_eq_true rfl) (Qt.assign rfl) ?_)
                  | (refine K.binOp ?_; first | refine JO.q rfl rfl (Nat.le_of_ble_eq_true rfl) ((Qt.strE rfl rfl).eq (congrArg (fun z => D.c (.v (.bool z))) (g1))) ?_ | refine JO.q rfl rfl (Nat.le_of_ble_eq_true rfl) (Qt.cmp rfl rfl (congrArg some g2)) ?_ | refine JO.q rfl rfl (Nat.le_of_ble_eq_true rfl) (Qt.ari rfl rfl rfl (w64 (by omega) (by omega))) ?_)
                  | (refine K.call ?_; (refine JO.pure (CR) rfl (Nat.le_of_ble_eq_true rfl) rfl ?_ ?_; focus ((repeat (first | exact LeDs.nil | refine LeDs.cons LeD.refl ?_)); done)))
                  | (refine K.unOp ?_; refine JO.q rfl rfl (Nat.le_of_ble_eq_true rfl) (Qt.not rfl) ?_)
                  | (refine K.bi ?_; (refine JO.q rfl rfl (Nat.le_of_ble_eq_true rfl) (Qt.lenO rfl) ?_))
                  | (refine K.extract ?_; refine JO.q rfl rfl (Nat.le_of_ble_eq_true rfl) (Qt.extract rfl rfl) ?_)
                  | (refine JO.alloc rfl (Nat.le_of_ble_eq_true rfl) ?_; intro _)
                  | (refine K.pick ?_; refine JO.q rfl rfl (Nat.le_of_ble_eq_true rfl) (Qt.pick rfl rfl) ?_)
                  | refine JO.nil ?_
                  | refine J.seq ?_
                  | refine J.region ?_
                  | refine J.skip ?_
                  | refine J.cond_t rfl ?_
                  | refine J.cond_f rfl ?_
                  | refine JO.no rfl rfl (Nat.le_of_ble_eq_true rfl) ?_)
              exact J.ret Tryd.func7 rfl (.cons (.tmp rfl) (.cons (.tmp rfl) .nil)) () (by (exact .tup (by repeat (first | exact .nil | refine .cons .refl ?_ | refine .cons (.c .nil) ?_)))) [] .nil rfl rfl
          · have g1 : (x == [103, 111]) = false := by rw [beq_eq_false_iff_ne]; exact hgo
            obtain ⟨o, ob⟩ : ∃ o : Pn.Op × Bool, Wr.readF x = o := ⟨_, rfl⟩
            rw [ob] at CR rr
            obtain ⟨o, b⟩ := o
            simp only at CR rr
            cases b with
            | false =>
              have e1 : Wr.stepP st (x, true) = none := by unfold Wr.stepP; rw [if_neg (by simp), if_neg hgo]; simp [rr]
              rw [e1] at hG
              simp only at hG
              subst hG
              repeat (first
                  | (refine K.move ?_; refine JO.q rfl rfl (Nat.le_of_ble_eq_true rfl) (Qt.move rfl) ?_)
                  | (refine K.store ?_; (refine JO.ld (Ld.storeW rfl rfl rfl (by exact rfl) (by exact rfl)) rfl (fun _ => ?_)))
                  | (refine K.assign ?_; refine JO.q rfl rfl (Nat.le_of_ble_eq_true rfl) (Qt.assign rfl) ?_)
                  | (refine K.binOp ?_; first | refine JO.q rfl rfl (Nat.le_of_ble_eq_true rfl) ((Qt.strE rfl rfl).eq (congrArg (fun z => D.c (.v (.bool z))) (g1))) ?_ | refine JO.q rfl rfl (Nat.le_of_ble_eq_true rfl) (Qt.ari rfl rfl rfl (w64 (by omega) (by omega))) ?_)
                  | (refine K.call ?_; (refine JO.pure (CR) rfl (Nat.le_of_ble_eq_true rfl) rfl ?_ ?_; focus ((repeat (first | exact LeDs.nil | refine LeDs.cons LeD.refl ?_)); done)))
                  | (refine K.unOp ?_; refine JO.q rfl rfl (Nat.le_of_ble_eq_true rfl) (Qt.not rfl) ?_)
                  | (refine K.extract ?_; refine JO.q rfl rfl (Nat.le_of_ble_eq_true rfl) (Qt.extract rfl rfl) ?_)
                  | (refine JO.alloc rfl (Nat.le_of_ble_eq_true rfl) ?_; intro _)
                  | (refine K.pick ?_; refine JO.q rfl rfl (Nat.le_of_ble_eq_true rfl) (Qt.pick rfl rfl) ?_)
                  | refine JO.nil ?_
                  | refine J.seq ?_
                  | refine J.region ?_
                  | refine J.skip ?_
                  | refine J.cond_t rfl ?_
                  | refine J.cond_f rfl ?_
                  | refine JO.no rfl rfl (Nat.le_of_ble_eq_true rfl) ?_)
              exact J.ret Tryd.func7 rfl (.cons (.tmp rfl) (.cons (.tmp rfl) .nil)) () (by (exact .tup (by repeat (first | exact .nil | refine .cons .refl ?_ | refine .cons (.c .nil) ?_)))) [] .nil rfl rfl
            | true =>
              rw [if_pos rfl] at rr
              cases st with
              | none =>
                have e1 : Wr.stepP none (x, true) = none := by unfold Wr.stepP; rw [if_neg (by simp), if_neg hgo]
                rw [e1] at hG
                simp only at hG
                subst hG
                repeat (first
                    | (refine K.move ?_; refine JO.q rfl rfl (Nat.le_of_ble_eq_true rfl) (Qt.move rfl) ?_)
                    | (refine K.store ?_; (refine JO.ld (Ld.storeW rfl rfl rfl (by exact rfl) (by exact rfl)) rfl (fun _ => ?_)))
                    | (refine K.assign ?_; refine JO.q rfl rfl (Nat.le_of_ble_eq_true rfl) (Qt.assign rfl) ?_)
                    | (refine K.binOp ?_; first | refine JO.q rfl rfl (Nat.le_of_ble_eq_true rfl) ((Qt.strE rfl rfl).eq (congrArg (fun z => D.c (.v (.bool z))) (g1))) ?_ | refine JO.q rfl rfl (Nat.le_of_ble_eq_true rfl) (Qt.ari rfl rfl rfl (w64 (by omega) (by omega))) ?_ | refine JO.q rfl rfl (Nat.le_of_ble_eq_true rfl) (Qt.cmp rfl rfl rfl) ?_)
                    | (refine K.call ?_; (refine JO.pure (CR) rfl (Nat.le_of_ble_eq_true rfl) rfl ?_ ?_; focus ((repeat (first | exact LeDs.nil | refine LeDs.cons LeD.refl ?_)); done)))
                    | (refine K.unOp ?_; refine JO.q rfl rfl (Nat.le_of_ble_eq_true rfl) (Qt.not rfl) ?_)
                    | (refine K.bi ?_; (refine JO.q rfl rfl (Nat.le_of_ble_eq_true rfl) (Qt.lenO rfl) ?_))
                    | (refine K.extract ?_; refine JO.q rfl rfl (Nat.le_of_ble_eq_true rfl) (Qt.extract rfl rfl) ?_)
                    | (refine JO.alloc rfl (Nat.le_of_ble_eq_true rfl) ?_; intro _)
                    | (refine K.pick ?_; refine JO.q rfl rfl (Nat.le_of_ble_eq_true rfl) (Qt.pick rfl rfl) ?_)
                    | refine JO.nil ?_
                    | refine J.seq ?_
                    | refine J.region ?_
                    | refine J.skip ?_
                    | refine J.cond_t rfl ?_
                    | refine J.cond_f rfl ?_
                    | refine JO.no rfl rfl (Nat.le_of_ble_eq_true rfl) ?_)
                exact J.ret Tryd.func7 rfl (.cons (.tmp rfl) (.cons (.tmp rfl) .nil)) () (by (exact .tup (by repeat (first | exact .nil | refine .cons .refl ?_ | refine .cons (.c .nil) ?_)))) [] .nil rfl rfl
              | some dc =>
                obtain ⟨d, cu⟩ := dc
                have lo : (outA (some (d, cu)) iv).length = d.length + 1 := by simp [outA]
                have lc : (curA (some (d, cu))).length = cu.length := by simp [curA]
                have kd : d.length + 1 ≤ 8 := by have := hK.1; simpa [Wr.flat] using this
                have kc : cu.length ≤ 16 := hK.2 d cu rfl
                have AO : (outA (some (d, cu)) iv)[(((outA (some (d, cu)) iv).length : Int) - 1).toNat]? = some [.v iv] := by
                  rw [lo, show (((d.length + 1 : Nat) : Int) - 1).toNat = d.length by omega]
                  simp [outA]
                have g0 : (((outA (some (d, cu)) iv).length : Int) == 0) = false := by rw [beq_eq_false_iff_ne]; omega
                by_cases h16 : cu.length < 16
                · have g4 : decide ((16 : Int) ≤ ((curA (some (d, cu))).length : Int)) = false := decide_eq_false (by omega)
                  have e1 : Wr.stepP (some (d, cu)) (x, true) = some (some (d, cu ++ [o])) := by unfold Wr.stepP; rw [if_neg (by simp), if_neg hgo]; simp only [rr]; rw [if_pos h16]
                  have k2 := Wr.stepP_ok e1 hK
                  rw [e1] at hG
                  repeat (first
                      | (refine K.load ?_; ((refine JO.q rfl rfl (Nat.le_of_ble_eq_true rfl) (Qt.load1o rfl (AO) (by exact rfl)) ?_)))
                      | (refine K.move ?_; refine JO.q rfl rfl (Nat.le_of_ble_eq_true rfl) (Qt.move rfl) ?_)
                      | (refine K.store ?_; (refine JO.ld (Ld.storeW rfl rfl rfl (by exact rfl) (by exact rfl)) rfl (fun _ => ?_)))
                      | (refine K.assign ?_; refine JO.q rfl rfl (Nat.le_of_ble_eq_true rfl) (Qt.assign rfl) ?_)
                      | (refine K.indexAddr ?_; refine JO.q rfl rfl (Nat.le_of_ble_eq_true rfl) (Qt.indexO rfl rfl (by (omega)) (by (omega))) ?_)
                      | (refine K.binOp ?_; first | refine JO.q rfl rfl (Nat.le_of_ble_eq_true rfl) ((Qt.strE rfl rfl).eq (congrArg (fun z => D.c (.v (.bool z))) (g1))) ?_ | refine JO.q rfl rfl (Nat.le_of_ble_eq_true rfl) (Qt.cmp rfl rfl (congrArg some g0)) ?_ | refine JO.q rfl rfl (Nat.le_of_ble_eq_true rfl) (Qt.cmp rfl rfl (congrArg some g4)) ?_ | refine JO.q rfl rfl (Nat.le_of_ble_eq_true rfl) (Qt.ari rfl rfl rfl (w64 (by omega) (by omega))) ?_)
                      | (refine K.call ?_; (refine JO.pure (CR) rfl (Nat.le_of_ble_eq_true rfl) rfl ?_ ?_; focus ((repeat (first | exact LeDs.nil | refine LeDs.cons LeD.refl ?_)); done)))
                      | (refine K.unOp ?_; refine JO.q rfl rfl (Nat.le_of_ble_eq_true rfl) (Qt.not rfl) ?_)
                      | (refine K.bi ?_; (refine JO.q rfl rfl (Nat.le_of_ble_eq_true rfl) (Qt.lenO rfl) ?_))
                      | (refine K.extract ?_; refine JO.q rfl rfl (Nat.le_of_ble_eq_true rfl) (Qt.extract rfl rfl) ?_)
                      | (refine JO.alloc rfl (Nat.le_of_ble_eq_true rfl) ?_; intro _)
                      | (refine K.pick ?_; refine JO.q rfl rfl (Nat.le_of_ble_eq_true rfl) (Qt.pick rfl rfl) ?_)
                      | refine JO.nil ?_
                      | refine J.seq ?_
                      | refine J.region ?_
                      | refine J.skip ?_
                      | refine J.cond_f rfl ?_
                      | refine JO.no rfl rfl (Nat.le_of_ble_eq_true rfl) ?_)
                  refine J.draw (by kernel_rfl) rfl ?_
                  refine JW.baseT [2] (some 14) ?_
                  refine JD.take 0 rfl rfl (by kernel_rfl) rfl (Nat.le_of_ble_eq_true rfl) (Qt.move rfl) rfl ?_
                  refine JD.take 1 rfl rfl (by kernel_rfl) rfl (Nat.le_of_ble_eq_true rfl) (Qt.move rfl) rfl ?_
                  (refine JD.take 2 rfl rfl (by kernel_rfl) rfl (Nat.le_of_ble_eq_true rfl) (Qt.lenO rfl) rfl ?_)
                  refine JD.take 3 rfl rfl (by kernel_rfl) rfl (Nat.le_of_ble_eq_true rfl) (Qt.ari rfl rfl rfl (w64 (by omega) (by omega))) rfl ?_
                  refine JD.take 4 rfl rfl (by kernel_rfl) rfl (Nat.le_of_ble_eq_true rfl) (Qt.move rfl) rfl ?_
                  refine JD.take 5 rfl rfl (by kernel_rfl) rfl (Nat.le_of_ble_eq_true rfl) (Qt.move rfl) rfl ?_
                  (refine JD.take 6 rfl rfl (by kernel_rfl) rfl (Nat.le_of_ble_eq_true rfl) (Qt.lenO rfl) rfl ?_)
                  refine JD.take 7 rfl rfl (by kernel_rfl) rfl (Nat.le_of_ble_eq_true rfl) (Qt.ari rfl rfl rfl (w64 (by omega) (by omega))) rfl ?_
                  refine JD.take 8 rfl rfl (by kernel_rfl) rfl (Nat.le_of_ble_eq_true rfl) (Qt.indexO rfl rfl (by omega) (by omega)) rfl ?_
                  refine JD.take 9 rfl rfl (by kernel_rfl) rfl (Nat.le_of_ble_eq_true rfl) (Qt.load1o rfl AO rfl) rfl ?_
                  (refine JD.take 10 rfl rfl (by kernel_rfl) rfl (Nat.le_of_ble_eq_true rfl) (Qt.loadWb rfl (by exact rfl)) rfl ?_)
                  refine JD.each1 (i := 11) (by kernel_rfl) ?_
                  refine JS.loud rfl rfl rfl (Nat.le_of_ble_eq_true rfl) (Ld.lit1R (Nat.le_of_ble_eq_true rfl) rfl rfl rfl rfl rfl) (by (exact .none)) (fun _ => ?_)
                  refine JD.each1 (i := 12) (by kernel_rfl) ?_
                  refine JS.loud rfl rfl rfl (Nat.le_of_ble_eq_true rfl) (Ld.appOw (Nat.le_of_ble_eq_true rfl) rfl rfl .read (by simp only [List.length_singleton]; omega)) (by (exact .trow rfl)) (fun _ => ?_)
                  refine JD.each1 (i := 13) (by kernel_rfl) ?_
                  refine JS.q rfl rfl rfl (Nat.le_of_ble_eq_true rfl) (Qt.indexO rfl rfl (by omega) (by omega)) ?_
                  refine JD.each1 (i := 14) (by kernel_rfl) ?_
                  refine JS.last rfl rfl (Ld.storeO1 rfl rfl (by exact rfl) AO) (fun _ => ?_)
                  refine JW.done (by kernel_rfl) ?_
                  rename_i iv2 _
                  have eo : (outA (some (d, cu)) iv).set (((outA (some (d, cu)) iv).length : Int) - 1).toNat ([A.v iv].set 0 (A.v iv2)) = outA (some (d, cu ++ [o])) iv2 := by
                    rw [lo, show (((d.length + 1 : Nat) : Int) - 1).toNat = d.length by omega]
                    simp [outA]
                  have ec : curA (some (d, cu)) ++ [eOp o] = curA (some (d, cu ++ [o])) := by simp [curA]
                  rw [eo, ec]
                  refine J.drop 1 (J.pull 1 rfl ?_)
                  simp only [List.eraseIdx_cons_succ, List.eraseIdx_cons_zero]
                  repeat (first
                      | (refine K.move ?_; refine JO.q rfl rfl (Nat.le_of_ble_eq_true rfl) (Qt.move rfl) ?_)
                      | (refine K.binOp ?_; (refine JO.q rfl rfl (Nat.le_of_ble_eq_true rfl) (Qt.ari rfl rfl rfl (w64 (by omega) (by omega))) ?_))
                      | refine JO.nil ?_
                      | refine J.region ?_
                      | refine J.inBlock ?_)
                  exact (ih ⟨((i + 1, some (d, cu ++ [o])), (pv, iv2)), by simp only; omega, k2, fun _ => by rw [Int.natCast_add]; exact hG⟩ (by simp only; omega)).weak ⟨rfl, rfl, rfl, rfl, rfl, rfl, trivial⟩
                · have g4 : decide ((16 : Int) ≤ ((curA (some (d, cu))).length : Int)) = true := decide_eq_true (by omega)
                  have e1 : Wr.stepP (some (d, cu)) (x, true) = none := by unfold Wr.stepP; rw [if_neg (by simp), if_neg hgo]; simp only [rr]; rw [if_neg h16]
                  rw [e1] at hG
                  simp only at hG
                  subst hG
                  repeat (first
                      | (refine K.load ?_; ((refine JO.q rfl rfl (Nat.le_of_ble_eq_true rfl) (Qt.load1o rfl (AO) (by exact rfl)) ?_)))
                      | (refine K.move ?_; refine JO.q rfl rfl (Nat.le_of_ble_eq_true rfl) (Qt.move rfl) ?_)
                      | (refine K.store ?_; (refine JO.ld (Ld.storeW rfl rfl rfl (by exact rfl) (by exact rfl)) rfl (fun _ => ?_)))
                      | (refine K.assign ?_; refine JO.q rfl rfl (Nat.le_of_ble_eq_true rfl) (Qt.assign rfl) ?_)
                      | (refine K.indexAddr ?_; refine JO.q rfl rfl (Nat.le_of_ble_eq_true rfl) (Qt.indexO rfl rfl (by (omega)) (by (omega))) ?_)
                      | (refine K.binOp ?_; first | refine JO.q rfl rfl (Nat.le_of_ble_eq_true rfl) ((Qt.strE rfl rfl).eq (congrArg (fun z => D.c (.v (.bool z))) (g1))) ?_ | refine JO.q rfl rfl (Nat.le_of_ble_eq_true rfl) (Qt.cmp rfl rfl (congrArg some g0)) ?_ | refine JO.q rfl rfl (Nat.le_of_ble_eq_true rfl) (Qt.cmp rfl rfl (congrArg some g4)) ?_ | refine JO.q rfl rfl (Nat.le_of_ble_eq_true rfl) (Qt.ari rfl rfl rfl (w64 (by omega) (by omega))) ?_)
                      | (refine K.call ?_; (refine JO.pure (CR) rfl (Nat.le_of_ble_eq_true rfl) rfl ?_ ?_; focus ((repeat (first | exact LeDs.nil | refine LeDs.cons LeD.refl ?_)); done)))
                      | (refine K.unOp ?_; refine JO.q rfl rfl (Nat.le_of_ble_eq_true rfl) (Qt.not rfl) ?_)
                      | (refine K.bi ?_; (refine JO.q rfl rfl (Nat.le_of_ble_eq_true rfl) (Qt.lenO rfl) ?_))
                      | (refine K.extract ?_; refine JO.q rfl rfl (Nat.le_of_ble_eq_true rfl) (Qt.extract rfl rfl) ?_)
                      | (refine JO.alloc rfl (Nat.le_of_ble_eq_true rfl) ?_; intro _)
                      | (refine K.pick ?_; refine JO.q rfl rfl (Nat.le_of_ble_eq_true rfl) (Qt.pick rfl rfl) ?_)
                      | refine JO.nil ?_
                      | refine J.seq ?_
                      | refine J.region ?_
                      | refine J.skip ?_
                      | refine J.cond_t rfl ?_
                      | refine J.cond_f rfl ?_
                      | refine JO.no rfl rfl (Nat.le_of_ble_eq_true rfl) ?_)
                  exact J.ret Tryd.func7 rfl (.cons (.tmp rfl) (.cons (.tmp rfl) .nil)) () (by (exact .tup (by repeat (first | exact .nil | refine .cons .refl ?_ | refine .cons (.c .nil) ?_)))) [] .nil rfl rfl
      · by_cases h1 : i + 1 < l.length
        · have t2 : decide ((i : Int) < (l.length : Int) - 1) = true := decide_eq_true (by omega)
          rw [decide_eq_true h1, Bool.true_or] at hwh
          subst hwh
          repeat (first
              | (refine K.move ?_; refine JO.q rfl rfl (Nat.le_of_ble_eq_true rfl) (Qt.move rfl) ?_)
              | (refine K.assign ?_; refine JO.q rfl rfl (Nat.le_of_ble_eq_true rfl) (Qt.assign rfl) ?_)
              | (refine K.binOp ?_; first | refine JO.q rfl rfl (Nat.le_of_ble_eq_true rfl) (Qt.ari rfl rfl rfl (w64 (by omega) (by omega))) ?_ | refine JO.q rfl rfl (Nat.le_of_ble_eq_true rfl) (Qt.cmp rfl rfl (congrArg some t2)) ?_)
              | (refine K.bi ?_; (refine JO.q rfl rfl (Nat.le_of_ble_eq_true rfl) (Qt.lenM rfl) ?_))
              | (refine K.pick ?_; refine JO.q rfl rfl (Nat.le_of_ble_eq_true rfl) (Qt.pick rfl rfl) ?_)
              | refine JO.nil ?_
              | refine J.region ?_
              | refine JO.no rfl rfl (Nat.le_of_ble_eq_true rfl) ?_)
          exact (rest ()).weak ⟨rfl, rfl, rfl, rfl, rfl, rfl, rfl, rfl, rfl, trivial⟩
        · have t2 : decide ((i : Int) < (l.length : Int) - 1) = false := decide_eq_false (by omega)
          rw [decide_eq_false h1, Bool.false_or] at hwh
          have eb : (E == []) = wh := by
            rw [← hwh]
            by_cases h : E = []
            · rw [h]; rfl
            · rw [decide_eq_false h, beq_eq_false_iff_ne]; exact h
          rw [eb] at rest ⊢
          repeat (first
              | (refine K.move ?_; refine JO.q rfl rfl (Nat.le_of_ble_eq_true rfl) (Qt.move rfl) ?_)
              | (refine K.assign ?_; refine JO.q rfl rfl (Nat.le_of_ble_eq_true rfl) (Qt.assign rfl) ?_)
              | (refine K.binOp ?_; first | refine JO.q rfl rfl (Nat.le_of_ble_eq_true rfl) (Qt.ari rfl rfl rfl (w64 (by omega) (by omega))) ?_ | refine JO.q rfl rfl (Nat.le_of_ble_eq_true rfl) (Qt.cmp rfl rfl (congrArg some t2)) ?_)
              | (refine K.bi ?_; (refine JO.q rfl rfl (Nat.le_of_ble_eq_true rfl) (Qt.lenM rfl) ?_))
              | (refine K.pick ?_; refine JO.q rfl rfl (Nat.le_of_ble_eq_true rfl) (Qt.pick rfl rfl) ?_)
              | refine JO.nil ?_
              | refine J.region ?_)
          exact (rest ()).weak ⟨rfl, rfl, rfl, rfl, rfl, rfl, rfl, rfl, rfl, trivial⟩
    · obtain rfl : i = l.length := by omega
      have t1 : decide ((l.length : Int) < (l.length : Int)) = false := decide_eq_false (by omega)
      by_cases hl : l = []
      · have e0 : Ln = [] := List.eq_nil_of_length_eq_zero (by rw [LL, hl]; rfl)
        rw [if_pos e0] at hR
        subst hR
        have t2 : ((l.length : Int) == 0) = true := by rw [hl]; rfl
        repeat (first
            | (refine K.move ?_; refine JO.q rfl rfl (Nat.le_of_ble_eq_true rfl) (Qt.move rfl) ?_)
            | (refine K.assign ?_; refine JO.q rfl rfl (Nat.le_of_ble_eq_true rfl) (Qt.assign rfl) ?_)
            | (refine K.binOp ?_; first | refine JO.q rfl rfl (Nat.le_of_ble_eq_true rfl) (Qt.cmp rfl rfl (congrArg some t1)) ?_ | refine JO.q rfl rfl (Nat.le_of_ble_eq_true rfl) (Qt.cmp rfl rfl (congrArg some t2)) ?_)
            | (refine K.bi ?_; (refine JO.q rfl rfl (Nat.le_of_ble_eq_true rfl) (Qt.lenM rfl) ?_))
            | refine JO.nil ?_
            | refine J.seq ?_
            | refine J.region ?_
            | refine J.exit rfl ?_
            | refine J.cond_t rfl ?_
            | refine J.cond_f rfl ?_)
        exact J.ret Tryd.func7 rfl (.cons (.tmp rfl) (.cons (.tmp rfl) .nil)) () (by (exact .tup (by repeat (first | exact .nil | refine .cons .refl ?_ | refine .cons (.c .nil) ?_)))) [] .nil rfl rfl
      · have hG := hG hl
        rw [← LL, List.drop_length, Wr.runP] at hG
        subst hG
        have t2 : ((l.length : Int) == 0) = false := by
          rw [beq_eq_false_iff_ne]
          intro e; exact hl (List.eq_nil_of_length_eq_zero (by omega))
        refine J.flat st pv iv ?_
        refine J.frzS 4 rfl ?_
        repeat (first
            | (refine K.move ?_; refine JO.q rfl rfl (Nat.le_of_ble_eq_true rfl) (Qt.move rfl) ?_)
            | (refine K.assign ?_; refine JO.q rfl rfl (Nat.le_of_ble_eq_true rfl) (Qt.assign rfl) ?_)
            | (refine K.binOp ?_; first | refine JO.q rfl rfl (Nat.le_of_ble_eq_true rfl) (Qt.cmp rfl rfl (congrArg some t1)) ?_ | refine JO.q rfl rfl (Nat.le_of_ble_eq_true rfl) (Qt.cmp rfl rfl (congrArg some t2)) ?_)
            | (refine K.bi ?_; (refine JO.q rfl rfl (Nat.le_of_ble_eq_true rfl) (Qt.lenM rfl) ?_))
            | refine JO.nil ?_
            | refine J.seq ?_
            | refine J.region ?_
            | refine J.skip ?_
            | refine J.exit rfl ?_
            | refine J.cond_f rfl ?_)
        exact J.ret Tryd.func7 rfl (.cons (.tmp rfl) (.cons (.tmp rfl) .nil)) () (by (exact .refl)) [] .nil rfl rfl
  · by_cases he : Wr.lastD p = []
    · have e1 : (Wr.lastD p == []) = true := by rw [he]; rfl
      have e2 : Wr.lsOf p = p.dropLast := by unfold Wr.lsOf; rw [if_pos he]
      have C1 : ((p.map eW).take ((p.length : Int) - 1).toNat).drop (0 : Int).toNat = p.dropLast.map eW := by
        rw [show ((p.length : Int) - 1).toNat = p.length - 1 by omega, ← List.map_take, List.dropLast_eq_take]; rfl
      have lm : (p.map eW).length = p.length := List.length_map ..
      rw [e1, e2] at rest
      rw [e1]
      repeat (first
          | (refine K.move ?_; refine JO.q rfl rfl (Nat.le_of_ble_eq_true rfl) (Qt.move rfl) ?_)
          | (refine K.assign ?_; refine JO.q rfl rfl (Nat.le_of_ble_eq_true rfl) (Qt.assign rfl) ?_)
          | (refine K.binOp ?_; (refine JO.q rfl rfl (Nat.le_of_ble_eq_true rfl) (Qt.ari rfl rfl rfl (w64 (by omega) (by omega))) ?_))
          | (refine K.bi ?_; (refine JO.q rfl rfl (Nat.le_of_ble_eq_true rfl) (Qt.lenM rfl) ?_))
          | (refine K.slice ?_; refine JO.q rfl rfl (Nat.le_of_ble_eq_true rfl) (((Qt.sliceR rfl rfl rfl (by omega) (by omega) (by omega)).eq (congrArg (fun z => D.c (.r 1 z)) C1))) ?_)
          | refine JO.nil ?_
          | refine J.region ?_
          | refine J.cond_t rfl ?_)
      exact (rest ()).weak ⟨rfl, rfl, rfl, trivial⟩
    · have e1 : (Wr.lastD p == []) = false := by rw [beq_eq_false_iff_ne]; exact he
      have e2 : Wr.lsOf p = p := by unfold Wr.lsOf; rw [if_neg he]
      rw [e1, e2] at rest
      rw [e1]
      repeat (first
          | refine J.skip ?_
          | refine J.cond_f rfl ?_)
      exact (rest ()).weak ⟨rfl, rfl, rfl, trivial⟩
end Fl
end Go.Proofs.YtbjnbngpjdoejaaDoor
