/-
  Texts RdH WrT PlanS PlanT of this claim, put together: what they show stands at their heads.
  Conditions: none but those that each theorem states.
-/
import Derived.Test.YtbjnbngpjdoejaaDoorQ20
import Derived.Laws.StructEq
namespace Go.Proofs.YtbjnbngpjdoejaaDoor
open Go.RowKit
set_option linter.unusedVariables false
set_option linter.unusedSimpArgs false
set_option linter.unnecessarySimpa false
namespace Fl
set_option maxRecDepth 100000
set_option maxHeartbeats 4000000
theorem Qt.mkFunL {P : Program} {c : Cx} {f : Fm} {L : List Res} {T : TypeId} {ps : String} {af : Array Edge} {gd : Option (Nat × Bool)} {t : Nat} {x : Operand} {F : FuncId} {p : Option Addr} (h : evD f x = some (.c (.v (.pointer p)))) : Qt P c [] ⟨t, .makeFunc (.func F) #[] #[x], T, ps, af, gd⟩ f L (.c (.v (.func (.func F) #[] #[.pointer p]))) := ⟨fun a w s => by
  have rx := s.val h
  refine ⟨.func (.func F) #[] #[.pointer p], by unfold RD RA; exact ⟨rfl, rfl⟩, fun w' k => ?_⟩
  simp [execOp, rx, Instr.makeFunc, Sem.run_bind]⟩
set_option maxHeartbeats 2000000 in
theorem c_lines (s : Wr.W) : Con Tryd.prog 14 [.c (sA s)] [] (fun b : Nat => (.c (.v (.func (.func 28) #[] #[.pointer (some ⟨b, 0, none⟩)])), [.box b 9 [sA s]])) := by
  refine Con.intro Tryd.func14 rfl rfl rfl (fun ok e => ?_)
  repeat (first
      | refine JO.q rfl rfl (Nat.le_of_ble_eq_true rfl) (Qt.mkFunL rfl) ?_
      | (refine K.assign ?_; refine JO.q rfl rfl (Nat.le_of_ble_eq_true rfl) (Qt.assign rfl) ?_)
      | (refine JO.box rfl (Nat.le_of_ble_eq_true rfl) rfl rfl ?_; intro _)
      | refine JO.nil ?_
      | refine J.seq ?_
      | refine J.region ?_)
  rename_i b
  (exact J.retA Tryd.func14 rfl (.cons (.tmp rfl) .nil) b (by (exact .refl)) rfl)
instance : TyV Tryd.prog 23 := ⟨by kernel_rfl⟩
instance : TyV Tryd.prog 3 := ⟨by kernel_rfl⟩
set_option maxHeartbeats 2000000 in
theorem c_wParse (s : Wr.W) (hs : s.length ≤ 60000) : PureW Hw Tryd.prog 6 [.c (sA s)] (.tup [.c (opsA (Wr.prs s).1), .c (nI (Wr.prs s).2)]) := by
  have CL := c_lines s
  refine ConW.intro Tryd.func6 rfl rfl rfl (fun ok e hT => ?_)
  have hW : ∀ w, Keeps [] e w → Hw w := fun w k => hT.grows k
  by_cases h0 : s = []
  · have e1 : (s == []) = true := by rw [h0]; rfl
    have e2 : Wr.prs s = ([], 1) := by rw [h0]; rfl
    rw [e2]
    repeat (first
        | (refine K.move ?_; refine JO.q rfl rfl (Nat.le_of_ble_eq_true rfl) (Qt.move rfl) ?_)
        | (refine K.store ?_; (refine JO.ld (Ld.storeW rfl rfl rfl (by exact rfl) (by exact rfl)) rfl (fun _ => ?_)))
        | (refine K.binOp ?_; (refine JO.q rfl rfl (Nat.le_of_ble_eq_true rfl) ((Qt.strE rfl rfl).eq (congrArg (fun z => D.c (.v (.bool z))) (e1))) ?_))
        | (refine JO.alloc rfl (Nat.le_of_ble_eq_true rfl) ?_; intro _)
        | refine JO.nil ?_
        | refine J.seq ?_
        | refine J.region ?_
        | refine J.cond_t rfl ?_)
    exact J.ret Tryd.func6 rfl (.cons (.cell1 1 rfl rfl) (.cons (.cell1 0 rfl rfl) .nil)) () (.tup (.cons (.c .nil) (.cons .refl .nil))) [] .nil rfl rfl
  · have e1 : (s == []) = false := by rw [beq_eq_false_iff_ne]; exact h0
    have e2 : Wr.prs s = Wr.runP (Wr.lnOf (Wr.split 10 s)) none 0 := by
      unfold Wr.prs
      rw [if_neg]
      rw [(Wr.cut_lines h0).1]; simp
    generalize Wr.prs s = R at e2 ⊢
    repeat (first
        | (refine K.move ?_; refine JO.q rfl rfl (Nat.le_of_ble_eq_true rfl) (Qt.move rfl) ?_)
        | (refine K.binOp ?_; (refine JO.q rfl rfl (Nat.le_of_ble_eq_true rfl) ((Qt.strE rfl rfl).eq (congrArg (fun z => D.c (.v (.bool z))) (e1))) ?_))
        | (refine K.call ?_; (refine JO.ld (Ld.call CL (Nat.le_of_ble_eq_true rfl) rfl (.cons .refl .nil) (Ll := []) rfl) rfl ?_; intro bs; simp only [List.cons_append, List.nil_append]))
        | (refine JO.alloc rfl (Nat.le_of_ble_eq_true rfl) ?_; intro _)
        | refine JO.nil ?_
        | refine J.seq ?_
        | refine J.region ?_
        | refine J.block ?_
        | refine J.skip ?_
        | refine J.cond_f rfl ?_)
    rename_i b2 b3
    refine J.nilQ 36 6 (J.nilQ 43 1 (J.pull 2 rfl ?_))
    simp only [List.eraseIdx_cons_succ, List.eraseIdx_cons_zero]
    refine J.rangeLines rfl rfl linesIt hW (Nat.le_of_ble_eq_true rfl) (Nat.le_of_ble_eq_true rfl) (by decide) rfl (ι := Wr.PSt × Value × Value × Nat) (κ := { n : Int // R = ([], n) })
      (fun q r => q.1.ok ∧ q.2.2.2 + r.length ≤ 60000 ∧ R = Wr.runP (Wr.lnOf (Wr.split 10 r)) q.1 q.2.2.2) (fun q => [.row q.2.1 43 1 (outA q.1 q.2.2.1), .row q.2.2.1 36 6 (curA q.1), .box b3 3 [nI q.2.2.2], .box b2 23 [.v q.2.1]])
      (fun n => [.box b3 3 [nI n.1], .box b2 23 [.v (.slice none 0 0)]]) (none, .slice none 0 0, .slice none 0 0, 0) ⟨⟨by simp [Wr.flat], by simp⟩, by simpa using hs, e2⟩ hs ?_ ?_ ?_
    · rintro ⟨st, pv, iv, n⟩ r l rc ok' e' ⟨hk, hn, hG⟩ hne hl hrc hW'
      simp only at hk hn hG hW' ⊢
      obtain ⟨hL, hrl, hxl⟩ := Wr.cut_lines hne
      rw [hL, Wr.runP] at hG
      obtain ⟨x, hx⟩ : ∃ x, (Lib.cut r [10]).1 = x := ⟨_, rfl⟩
      rw [hx] at hG hxl ⊢
      have hxl : x.length ≤ 60000 := by omega
      repeat (first
          | (refine K.assign ?_; refine JO.q rfl rfl (Nat.le_of_ble_eq_true rfl) (Qt.assign rfl) ?_)
          | refine JO.nil ?_
          | refine J.seq ?_
          | refine J.region ?_)
      refine J.begin_ hrc ?_
      cases hw : (Lib.cut r [10]).2.2 with
      | false =>
        rw [hw] at hG
        have e3 : Wr.stepP st (x, false) = none := by unfold Wr.stepP; rw [if_pos rfl]
        rw [e3] at hG
        simp only at hG
        repeat (first
            | (refine K.load ?_; (refine JO.q rfl rfl (Nat.le_of_ble_eq_true rfl) (Qt.load1b rfl (by exact rfl)) ?_))
            | (refine K.move ?_; refine JO.q rfl rfl (Nat.le_of_ble_eq_true rfl) (Qt.move rfl) ?_)
            | (refine K.store ?_; (refine JO.ld (Ld.storeW rfl rfl rfl (by exact rfl) (by exact rfl)) rfl (fun _ => ?_)))
            | (refine K.binOp ?_; (refine JO.q rfl rfl (Nat.le_of_ble_eq_true rfl) (Qt.ari rfl rfl rfl (w64 (by omega) (by omega))) ?_))
            | (refine K.unOp ?_; refine JO.q rfl rfl (Nat.le_of_ble_eq_true rfl) (Qt.not rfl) ?_)
            | refine JO.nil ?_
            | refine J.seq ?_
            | refine J.region ?_
            | refine J.block ?_
            | refine J.cond_t rfl ?_)
        refine J.draw (by kernel_rfl) rfl ?_
        refine JW.base (some 1) ?_
        refine JD.each2 (i := 0) (j := 1) (by kernel_rfl) ?_ ?_
        (refine JS.q rfl rfl rfl (Nat.le_of_ble_eq_true rfl) (Qt.load1b rfl (by exact rfl)) ?_)
        refine JD.each1 (i := 1) (by kernel_rfl) ?_
        (refine JS.last rfl rfl (Ld.storeW rfl rfl rfl (by exact rfl) (by exact rfl)) (fun _ => ?_))
        refine JW.base (some 2) ?_
        refine JD.each1 (i := 2) (by kernel_rfl) ?_
        (refine JS.last rfl rfl (Ld.storeW rfl rfl rfl (by exact rfl) (by exact rfl)) (fun _ => ?_))
        refine JW.done (by kernel_rfl) ?_
        rotate_left
        (refine JS.last rfl rfl (Ld.storeW rfl rfl rfl (by exact rfl) (by exact rfl)) (fun _ => ?_))
        refine JW.base (some 2) ?_
        (refine JD.take 0 rfl rfl (by kernel_rfl) rfl (Nat.le_of_ble_eq_true rfl) (Qt.load1b rfl (by exact rfl)) rfl ?_)
        refine JD.each1 (i := 2) (by kernel_rfl) ?_
        (refine JS.last rfl rfl (Ld.storeW rfl rfl rfl (by exact rfl) (by exact rfl)) (fun _ => ?_))
        refine JW.done (by kernel_rfl) ?_
        rotate_left
        all_goals
          refine J.drop 1 ?_
          refine J.drop 1 ?_
          simp only [List.eraseIdx_cons_succ, List.eraseIdx_cons_zero]
          exact J.rret (.inr ⟨_, hG⟩) rfl
      | true =>
        rw [hw] at hG
        by_cases hgo : x = Wr.goW
        · subst hgo
          have g1 : (Wr.goW == [103, 111]) = true := rfl
          by_cases h8 : (Wr.flat st).length < 8
          · have g2 : ((((Wr.flat st).map opsRow).length : Int) == 8) = false := by
              rw [List.length_map, beq_eq_false_iff_ne]
              omega
            have e3 : Wr.stepP st (Wr.goW, true) = some (some (Wr.flat st, [])) := by unfold Wr.stepP; rw [if_neg (by simp), if_pos rfl, if_pos h8]
            have k2 := Wr.stepP_ok e3 hk
            rw [e3] at hG
            have lf : ((Wr.flat st).map opsRow).length = (Wr.flat st).length := List.length_map ..
            refine J.pull 2 rfl (J.pull 2 rfl ?_)
            simp only [List.eraseIdx_cons_succ, List.eraseIdx_cons_zero]
            refine J.flat st pv iv ?_
            repeat (first
                | (refine K.load ?_; (refine JO.q rfl rfl (Nat.le_of_ble_eq_true rfl) (Qt.load1b rfl (by exact rfl)) ?_))
                | (refine K.move ?_; refine JO.q rfl rfl (Nat.le_of_ble_eq_true rfl) (Qt.move rfl) ?_)
                | (refine K.store ?_; (refine JO.ld (Ld.storeW rfl rfl rfl (by exact rfl) (by exact rfl)) rfl (fun _ => ?_)))
                | (refine K.binOp ?_; first | refine JO.q rfl rfl (Nat.le_of_ble_eq_true rfl) (Qt.ari rfl rfl rfl (w64 (by omega) (by omega))) ?_ | refine JO.q rfl rfl (Nat.le_of_ble_eq_true rfl) ((Qt.strE rfl rfl).eq (congrArg (fun z => D.c (.v (.bool z))) (g1))) ?_ | refine JO.q rfl rfl (Nat.le_of_ble_eq_true rfl) (Qt.cmp rfl rfl (congrArg some g2)) ?_)
                | (refine K.unOp ?_; refine JO.q rfl rfl (Nat.le_of_ble_eq_true rfl) (Qt.not rfl) ?_)
                | (refine K.bi ?_; (refine JO.q rfl rfl (Nat.le_of_ble_eq_true rfl) (Qt.lenO rfl) ?_))
                | (refine K.lit ?_; (refine JO.lit1 rfl (Nat.le_of_ble_eq_true rfl) rfl rfl rfl rfl rfl ?_; intro _))
                | (refine K.bi ?_; ((refine JO.ld (Ld.appOw (Nat.le_of_ble_eq_true rfl) rfl rfl .ownC (by (simp; omega))) rfl (fun _ => ?_))))
                | refine JO.nil ?_
                | refine J.seq ?_
                | refine J.region ?_
                | refine J.block ?_
                | refine J.skip ?_
                | refine J.exit rfl ?_
                | refine J.cond_t rfl ?_
                | refine J.cond_f rfl ?_)
            rename_i pv2 _
            refine J.drop 1 (J.nilQ 36 6 (J.pull 1 rfl (J.pull 2 rfl ?_)))
            simp only [List.eraseIdx_cons_succ, List.eraseIdx_cons_zero]
            exact J.rfin (.inl ⟨(some (Wr.flat st, []), pv2, .slice none 0 0, n + 1), k2, by simp only; omega, hG⟩) rfl
          · have g2 : (((outA st iv).length : Int) == 8) = true := by
              rw [outA_len, beq_iff_eq]
              have := hk.1
              omega
            have e3 : Wr.stepP st (Wr.goW, true) = none := by unfold Wr.stepP; rw [if_neg (by simp), if_pos rfl, if_neg h8]
            rw [e3] at hG
            simp only at hG
            repeat (first
                | (refine K.load ?_; (refine JO.q rfl rfl (Nat.le_of_ble_eq_true rfl) (Qt.load1b rfl (by exact rfl)) ?_))
                | (refine K.move ?_; refine JO.q rfl rfl (Nat.le_of_ble_eq_true rfl) (Qt.move rfl) ?_)
                | (refine K.store ?_; (refine JO.ld (Ld.storeW rfl rfl rfl (by exact rfl) (by exact rfl)) rfl (fun _ => ?_)))
                | (refine K.binOp ?_; first | refine JO.q rfl rfl (Nat.le_of_ble_eq_true rfl) (Qt.ari rfl rfl rfl (w64 (by omega) (by omega))) ?_ | refine JO.q rfl rfl (Nat.le_of_ble_eq_true rfl) ((Qt.strE rfl rfl).eq (congrArg (fun z => D.c (.v (.bool z))) (g1))) ?_ | refine JO.q rfl rfl (Nat.le_of_ble_eq_true rfl) (Qt.cmp rfl rfl (congrArg some g2)) ?_)
                | (refine K.unOp ?_; refine JO.q rfl rfl (Nat.le_of_ble_eq_true rfl) (Qt.not rfl) ?_)
                | (refine K.bi ?_; (refine JO.q rfl rfl (Nat.le_of_ble_eq_true rfl) (Qt.lenO rfl) ?_))
                | refine JO.nil ?_
                | refine J.seq ?_
                | refine J.region ?_
                | refine J.block ?_
                | refine J.skip ?_
                | refine J.cond_t rfl ?_
                | refine J.cond_f rfl ?_)
            refine J.draw (by kernel_rfl) rfl ?_
            refine JW.base (some 1) ?_
            refine JD.each2 (i := 0) (j := 1) (by kernel_rfl) ?_ ?_
            (refine JS.q rfl rfl rfl (Nat.le_of_ble_eq_true rfl) (Qt.load1b rfl (by exact rfl)) ?_)
            refine JD.each1 (i := 1) (by kernel_rfl) ?_
            (refine JS.last rfl rfl (Ld.storeW rfl rfl rfl (by exact rfl) (by exact rfl)) (fun _ => ?_))
            refine JW.base (some 2) ?_
            refine JD.each1 (i := 2) (by kernel_rfl) ?_
            (refine JS.last rfl rfl (Ld.storeW rfl rfl rfl (by exact rfl) (by exact rfl)) (fun _ => ?_))
            refine JW.done (by kernel_rfl) ?_
            rotate_left
            (refine JS.last rfl rfl (Ld.storeW rfl rfl rfl (by exact rfl) (by exact rfl)) (fun _ => ?_))
            refine JW.base (some 2) ?_
            (refine JD.take 0 rfl rfl (by kernel_rfl) rfl (Nat.le_of_ble_eq_true rfl) (Qt.load1b rfl (by exact rfl)) rfl ?_)
            refine JD.each1 (i := 2) (by kernel_rfl) ?_
            (refine JS.last rfl rfl (Ld.storeW rfl rfl rfl (by exact rfl) (by exact rfl)) (fun _ => ?_))
            refine JW.done (by kernel_rfl) ?_
            rotate_left
            all_goals
              refine J.drop 1 ?_
              refine J.drop 1 ?_
              simp only [List.eraseIdx_cons_succ, List.eraseIdx_cons_zero]
              exact J.rret (.inr ⟨_, hG⟩) rfl
        · have g1 : (x == [103, 111]) = false := by rw [beq_eq_false_iff_ne]; exact hgo
          have hW := hW'
          have CR := c_readOp x hxl
          cases st with
          | none =>
            have e3 : Wr.stepP none (x, true) = none := by unfold Wr.stepP; rw [if_neg (by simp), if_neg hgo]
            rw [e3] at hG
            simp only at hG
            have lo : (outA none iv).length = 0 := rfl
            have g5 : decide ((((outA none iv).length : Int) - 1) < 0) = true := rfl
            repeat (first
                | (refine K.load ?_; (refine JO.q rfl rfl (Nat.le_of_ble_eq_true rfl) (Qt.load1b rfl (by exact rfl)) ?_))
                | (refine K.move ?_; refine JO.q rfl rfl (Nat.le_of_ble_eq_true rfl) (Qt.move rfl) ?_)
                | (refine K.store ?_; (refine JO.ld (Ld.storeW rfl rfl rfl (by exact rfl) (by exact rfl)) rfl (fun _ => ?_)))
                | (refine K.assign ?_; refine JO.q rfl rfl (Nat.le_of_ble_eq_true rfl) (Qt.assign rfl) ?_)
                | (refine K.binOp ?_; first | refine JO.q rfl rfl (Nat.le_of_ble_eq_true rfl) (Qt.ari rfl rfl rfl (w64 (by omega) (by omega))) ?_ | refine JO.q rfl rfl (Nat.le_of_ble_eq_true rfl) ((Qt.strE rfl rfl).eq (congrArg (fun z => D.c (.v (.bool z))) (g1))) ?_ | refine JO.q rfl rfl (Nat.le_of_ble_eq_true rfl) (Qt.cmp rfl rfl (congrArg some g5)) ?_)
                | (refine K.unOp ?_; refine JO.q rfl rfl (Nat.le_of_ble_eq_true rfl) (Qt.not rfl) ?_)
                | (refine K.bi ?_; (refine JO.q rfl rfl (Nat.le_of_ble_eq_true rfl) (Qt.lenO rfl) ?_))
                | (refine K.pick ?_; refine JO.q rfl rfl (Nat.le_of_ble_eq_true rfl) (Qt.pick rfl rfl) ?_)
                | refine JO.nil ?_
                | refine J.seq ?_
                | refine J.region ?_
                | refine J.block ?_
                | refine J.skip ?_
                | refine J.cond_t rfl ?_
                | refine J.cond_f rfl ?_
                | refine JO.no rfl rfl (Nat.le_of_ble_eq_true rfl) ?_)
            refine J.draw (by kernel_rfl) rfl ?_
            refine JW.base (some 1) ?_
            refine JD.each2 (i := 0) (j := 1) (by kernel_rfl) ?_ ?_
            (refine JS.q rfl rfl rfl (Nat.le_of_ble_eq_true rfl) (Qt.load1b rfl (by exact rfl)) ?_)
            refine JD.each1 (i := 1) (by kernel_rfl) ?_
            (refine JS.last rfl rfl (Ld.storeW rfl rfl rfl (by exact rfl) (by exact rfl)) (fun _ => ?_))
            refine JW.base (some 2) ?_
            refine JD.each1 (i := 2) (by kernel_rfl) ?_
            (refine JS.last rfl rfl (Ld.storeW rfl rfl rfl (by exact rfl) (by exact rfl)) (fun _ => ?_))
            refine JW.done (by kernel_rfl) ?_
            rotate_left
            (refine JS.last rfl rfl (Ld.storeW rfl rfl rfl (by exact rfl) (by exact rfl)) (fun _ => ?_))
            refine JW.base (some 2) ?_
            (refine JD.take 0 rfl rfl (by kernel_rfl) rfl (Nat.le_of_ble_eq_true rfl) (Qt.load1b rfl (by exact rfl)) rfl ?_)
            refine JD.each1 (i := 2) (by kernel_rfl) ?_
            (refine JS.last rfl rfl (Ld.storeW rfl rfl rfl (by exact rfl) (by exact rfl)) (fun _ => ?_))
            refine JW.done (by kernel_rfl) ?_
            rotate_left
            all_goals
              refine J.drop 1 ?_
              refine J.drop 1 ?_
              simp only [List.eraseIdx_cons_succ, List.eraseIdx_cons_zero]
              exact J.rret (.inr ⟨_, hG⟩) rfl
          | some dc =>
            obtain ⟨d, cu⟩ := dc
            have lo : (outA (some (d, cu)) iv).length = d.length + 1 := by simp [outA]
            have lc : (curA (some (d, cu))).length = cu.length := by simp [curA]
            have kd : d.length + 1 ≤ 8 := by have := hk.1; simpa [Wr.flat] using this
            have kc : cu.length ≤ 16 := hk.2 d cu rfl
            have AO : (outA (some (d, cu)) iv)[(((outA (some (d, cu)) iv).length : Int) - 1).toNat]? = some [.v iv] := by
              rw [lo, show (((d.length + 1 : Nat) : Int) - 1).toNat = d.length by omega]
              simp [outA]
            have g5 : decide ((((outA (some (d, cu)) iv).length : Int) - 1) < 0) = false := decide_eq_false (by omega)
            by_cases h16 : cu.length < 16
            · have g6 : (((curA (some (d, cu))).length : Int) == 16) = false := by rw [beq_eq_false_iff_ne]; omega
              cases hrd : Wr.read x with
              | none =>
                have e3 : Wr.stepP (some (d, cu)) (x, true) = none := by unfold Wr.stepP; rw [if_neg (by simp), if_neg hgo]; simp only [hrd]
                rw [e3] at hG
                simp only at hG
                rw [hrd] at CR
                repeat (first
                    | (refine K.load ?_; first | ((refine JO.q rfl rfl (Nat.le_of_ble_eq_true rfl) (Qt.load1o rfl (AO) (by exact rfl)) ?_)) | refine JO.q rfl rfl (Nat.le_of_ble_eq_true rfl) (Qt.load1b rfl (by exact rfl)) ?_)
                    | (refine K.move ?_; refine JO.q rfl rfl (Nat.le_of_ble_eq_true rfl) (Qt.move rfl) ?_)
                    | (refine K.store ?_; (refine JO.ld (Ld.storeW rfl rfl rfl (by exact rfl) (by exact rfl)) rfl (fun _ => ?_)))
                    | (refine K.assign ?_; refine JO.q rfl rfl (Nat.le_of_ble_eq_true rfl) (Qt.assign rfl) ?_)
                    | (refine K.indexAddr ?_; refine JO.q rfl rfl (Nat.le_of_ble_eq_true rfl) (Qt.indexO rfl rfl (by (omega)) (by (omega))) ?_)
                    | (refine K.binOp ?_; first | refine JO.q rfl rfl (Nat.le_of_ble_eq_true rfl) (Qt.ari rfl rfl rfl (w64 (by omega) (by omega))) ?_ | refine JO.q rfl rfl (Nat.le_of_ble_eq_true rfl) ((Qt.strE rfl rfl).eq (congrArg (fun z => D.c (.v (.bool z))) (g1))) ?_ | refine JO.q rfl rfl (Nat.le_of_ble_eq_true rfl) (Qt.cmp rfl rfl (congrArg some g5)) ?_ | refine JO.q rfl rfl (Nat.le_of_ble_eq_true rfl) (Qt.cmp rfl rfl (congrArg some g6)) ?_)
                    | (refine K.call ?_; (refine JO.ld (Ld.pureW hW (CR) (Nat.le_of_ble_eq_true rfl) rfl ?_) rfl (fun _ => ?_); focus ((repeat (first | exact LeDs.nil | refine LeDs.cons LeD.refl ?_)); done)))
                    | (refine K.unOp ?_; refine JO.q rfl rfl (Nat.le_of_ble_eq_true rfl) (Qt.not rfl) ?_)
                    | (refine K.bi ?_; (refine JO.q rfl rfl (Nat.le_of_ble_eq_true rfl) (Qt.lenO rfl) ?_))
                    | (refine K.extract ?_; refine JO.q rfl rfl (Nat.le_of_ble_eq_true rfl) (Qt.extract rfl rfl) ?_)
                    | (refine JO.alloc rfl (Nat.le_of_ble_eq_true rfl) ?_; intro _)
                    | (refine K.pick ?_; refine JO.q rfl rfl (Nat.le_of_ble_eq_true rfl) (Qt.pick rfl rfl) ?_)
                    | refine JO.nil ?_
                    | refine J.seq ?_
                    | refine J.region ?_
                    | refine J.block ?_
                    | refine J.skip ?_
                    | refine J.cond_t rfl ?_
                    | refine J.cond_f rfl ?_)
                refine J.draw (by kernel_rfl) rfl ?_
                refine JW.base (some 1) ?_
                refine JD.each2 (i := 0) (j := 1) (by kernel_rfl) ?_ ?_
                (refine JS.q rfl rfl rfl (Nat.le_of_ble_eq_true rfl) (Qt.load1b rfl (by exact rfl)) ?_)
                refine JD.each1 (i := 1) (by kernel_rfl) ?_
                (refine JS.last rfl rfl (Ld.storeW rfl rfl rfl (by exact rfl) (by exact rfl)) (fun _ => ?_))
                refine JW.base (some 2) ?_
                refine JD.each1 (i := 2) (by kernel_rfl) ?_
                (refine JS.last rfl rfl (Ld.storeW rfl rfl rfl (by exact rfl) (by exact rfl)) (fun _ => ?_))
                refine JW.done (by kernel_rfl) ?_
                rotate_left
                (refine JS.last rfl rfl (Ld.storeW rfl rfl rfl (by exact rfl) (by exact rfl)) (fun _ => ?_))
                refine JW.base (some 2) ?_
                (refine JD.take 0 rfl rfl (by kernel_rfl) rfl (Nat.le_of_ble_eq_true rfl) (Qt.load1b rfl (by exact rfl)) rfl ?_)
                refine JD.each1 (i := 2) (by kernel_rfl) ?_
                (refine JS.last rfl rfl (Ld.storeW rfl rfl rfl (by exact rfl) (by exact rfl)) (fun _ => ?_))
                refine JW.done (by kernel_rfl) ?_
                rotate_left
                all_goals
                  refine J.drop 0 ?_
                  refine J.drop 1 ?_
                  refine J.drop 1 ?_
                  simp only [List.eraseIdx_cons_succ, List.eraseIdx_cons_zero]
                  exact J.rret (.inr ⟨_, hG⟩) rfl
              | some o =>
                have e3 : Wr.stepP (some (d, cu)) (x, true) = some (some (d, cu ++ [o])) := by unfold Wr.stepP; rw [if_neg (by simp), if_neg hgo]; simp only [hrd]; rw [if_pos h16]
                have k2 := Wr.stepP_ok e3 hk
                rw [e3] at hG
                rw [hrd] at CR
                repeat (first
                    | (refine K.load ?_; first | ((refine JO.q rfl rfl (Nat.le_of_ble_eq_true rfl) (Qt.load1o rfl (AO) (by exact rfl)) ?_)) | refine JO.q rfl rfl (Nat.le_of_ble_eq_true rfl) (Qt.load1b rfl (by exact rfl)) ?_)
                    | (refine K.move ?_; refine JO.q rfl rfl (Nat.le_of_ble_eq_true rfl) (Qt.move rfl) ?_)
                    | (refine K.store ?_; (refine JO.ld (Ld.storeW rfl rfl rfl (by exact rfl) (by exact rfl)) rfl (fun _ => ?_)))
                    | (refine K.assign ?_; refine JO.q rfl rfl (Nat.le_of_ble_eq_true rfl) (Qt.assign rfl) ?_)
                    | (refine K.indexAddr ?_; refine JO.q rfl rfl (Nat.le_of_ble_eq_true rfl) (Qt.indexO rfl rfl (by (omega)) (by (omega))) ?_)
                    | (refine K.binOp ?_; first | refine JO.q rfl rfl (Nat.le_of_ble_eq_true rfl) (Qt.ari rfl rfl rfl (w64 (by omega) (by omega))) ?_ | refine JO.q rfl rfl (Nat.le_of_ble_eq_true rfl) ((Qt.strE rfl rfl).eq (congrArg (fun z => D.c (.v (.bool z))) (g1))) ?_ | refine JO.q rfl rfl (Nat.le_of_ble_eq_true rfl) (Qt.cmp rfl rfl (congrArg some g5)) ?_ | refine JO.q rfl rfl (Nat.le_of_ble_eq_true rfl) (Qt.cmp rfl rfl (congrArg some g6)) ?_)
                    | (refine K.call ?_; (refine JO.ld (Ld.pureW hW (CR) (Nat.le_of_ble_eq_true rfl) rfl ?_) rfl (fun _ => ?_); focus ((repeat (first | exact LeDs.nil | refine LeDs.cons LeD.refl ?_)); done)))
                    | (refine K.unOp ?_; refine JO.q rfl rfl (Nat.le_of_ble_eq_true rfl) (Qt.not rfl) ?_)
                    | (refine K.bi ?_; (refine JO.q rfl rfl (Nat.le_of_ble_eq_true rfl) (Qt.lenO rfl) ?_))
                    | (refine K.extract ?_; refine JO.q rfl rfl (Nat.le_of_ble_eq_true rfl) (Qt.extract rfl rfl) ?_)
                    | (refine JO.alloc rfl (Nat.le_of_ble_eq_true rfl) ?_; intro _)
                    | (refine K.pick ?_; refine JO.q rfl rfl (Nat.le_of_ble_eq_true rfl) (Qt.pick rfl rfl) ?_)
                    | refine JO.nil ?_
                    | refine J.seq ?_
                    | refine J.region ?_
                    | refine J.block ?_
                    | refine J.skip ?_
                    | refine J.cond_f rfl ?_)
                refine J.draw (by kernel_rfl) rfl ?_
                refine JW.baseT [3] (some 10) ?_
                (refine JD.take 0 rfl rfl (by kernel_rfl) rfl (Nat.le_of_ble_eq_true rfl) (Qt.load1b rfl (by exact rfl)) rfl ?_)
                refine JD.take 1 rfl rfl (by kernel_rfl) rfl (Nat.le_of_ble_eq_true rfl) (Qt.move rfl) rfl ?_
                (refine JD.take 2 rfl rfl (by kernel_rfl) rfl (Nat.le_of_ble_eq_true rfl) (Qt.load1b rfl (by exact rfl)) rfl ?_)
                refine JD.take 3 rfl rfl (by kernel_rfl) rfl (Nat.le_of_ble_eq_true rfl) (Qt.move rfl) rfl ?_
                refine JD.take 4 rfl rfl (by kernel_rfl) rfl (Nat.le_of_ble_eq_true rfl) (Qt.indexO rfl rfl (by omega) (by omega)) rfl ?_
                refine JD.take 5 rfl rfl (by kernel_rfl) rfl (Nat.le_of_ble_eq_true rfl) (Qt.load1o rfl AO rfl) rfl ?_
                (refine JD.take 6 rfl rfl (by kernel_rfl) rfl (Nat.le_of_ble_eq_true rfl) (Qt.loadWb rfl (by exact rfl)) rfl ?_)
                refine JD.each1 (i := 7) (by kernel_rfl) ?_
                refine JS.loud rfl rfl rfl (Nat.le_of_ble_eq_true rfl) (Ld.lit1R (Nat.le_of_ble_eq_true rfl) rfl rfl rfl rfl rfl) (by (exact .none)) (fun _ => ?_)
                refine JD.each1 (i := 8) (by kernel_rfl) ?_
                refine JS.loud rfl rfl rfl (Nat.le_of_ble_eq_true rfl) (Ld.appOw (Nat.le_of_ble_eq_true rfl) rfl rfl .read (by simp only [List.length_singleton]; omega)) (by (exact .trow rfl)) (fun _ => ?_)
                refine JD.each1 (i := 9) (by kernel_rfl) ?_
                refine JS.q rfl rfl rfl (Nat.le_of_ble_eq_true rfl) (Qt.indexO rfl rfl (by omega) (by omega)) ?_
                refine JD.each1 (i := 10) (by kernel_rfl) ?_
                refine JS.last rfl rfl (Ld.storeO1 rfl rfl (by exact rfl) AO) (fun _ => ?_)
                refine JW.done (by kernel_rfl) ?_
                rename_i iv2 _
                have eo : (outA (some (d, cu)) iv).set (((outA (some (d, cu)) iv).length : Int) - 1).toNat ([A.v iv].set 0 (A.v iv2)) = outA (some (d, cu ++ [o])) iv2 := by
                  rw [lo, show (((d.length + 1 : Nat) : Int) - 1).toNat = d.length by omega]
                  simp [outA]
                have ec : curA (some (d, cu)) ++ [eOp o] = curA (some (d, cu ++ [o])) := by simp [curA]
                refine J.drop 1 (J.pull 2 rfl (J.pull 2 rfl ?_))
                simp only [List.eraseIdx_cons_succ, List.eraseIdx_cons_zero]
                refine J.congL (L' := [lp l (busy rc), .row pv 43 1 (outA (some (d, cu ++ [o])) iv2), .row iv2 36 6 (curA (some (d, cu ++ [o]))), .box b3 3 [nI ((n + 1 : Nat) : Int)], .box b2 23 [.v pv]]) (by rw [← eo, ← ec]; rfl) ?_
                repeat ((refine J.inBlock ?_))
                exact J.rfin (.inl ⟨(some (d, cu ++ [o]), pv, iv2, n + 1), k2, by simp only; omega, hG⟩) rfl
            · have g6 : (((curA (some (d, cu))).length : Int) == 16) = true := by rw [beq_iff_eq]; omega
              have e3 : Wr.stepP (some (d, cu)) (x, true) = none := by
                unfold Wr.stepP; rw [if_neg (by simp), if_neg hgo]
                simp only
                split
                · rename_i h1 _
                  simp only [Option.some.injEq, Prod.mk.injEq] at h1
                  rw [if_neg (by rw [← h1.2]; exact h16)]
                · rfl
              rw [e3] at hG
              simp only at hG
              repeat (first
                  | (refine K.load ?_; first | ((refine JO.q rfl rfl (Nat.le_of_ble_eq_true rfl) (Qt.load1o rfl (AO) (by exact rfl)) ?_)) | refine JO.q rfl rfl (Nat.le_of_ble_eq_true rfl) (Qt.load1b rfl (by exact rfl)) ?_)
                  | (refine K.move ?_; refine JO.q rfl rfl (Nat.le_of_ble_eq_true rfl) (Qt.move rfl) ?_)
                  | (refine K.store ?_; (refine JO.ld (Ld.storeW rfl rfl rfl (by exact rfl) (by exact rfl)) rfl (fun _ => ?_)))
                  | (refine K.assign ?_; refine JO.q rfl rfl (Nat.le_of_ble_eq_true rfl) (Qt.assign rfl) ?_)
                  | (refine K.indexAddr ?_; refine JO.q rfl rfl (Nat.le_of_ble_eq_true rfl) (Qt.indexO rfl rfl (by (omega)) (by (omega))) ?_)
                  | (refine K.binOp ?_; first | refine JO.q rfl rfl (Nat.le_of_ble_eq_true rfl) (Qt.ari rfl rfl rfl (w64 (by omega) (by omega))) ?_ | refine JO.q rfl rfl (Nat.le_of_ble_eq_true rfl) ((Qt.strE rfl rfl).eq (congrArg (fun z => D.c (.v (.bool z))) (g1))) ?_ | refine JO.q rfl rfl (Nat.le_of_ble_eq_true rfl) (Qt.cmp rfl rfl (congrArg some g5)) ?_ | refine JO.q rfl rfl (Nat.le_of_ble_eq_true rfl) (Qt.cmp rfl rfl (congrArg some g6)) ?_)
                  | (refine K.unOp ?_; refine JO.q rfl rfl (Nat.le_of_ble_eq_true rfl) (Qt.not rfl) ?_)
                  | (refine K.bi ?_; (refine JO.q rfl rfl (Nat.le_of_ble_eq_true rfl) (Qt.lenO rfl) ?_))
                  | (refine K.pick ?_; refine JO.q rfl rfl (Nat.le_of_ble_eq_true rfl) (Qt.pick rfl rfl) ?_)
                  | refine JO.nil ?_
                  | refine J.seq ?_
                  | refine J.region ?_
                  | refine J.block ?_
                  | refine J.skip ?_
                  | refine J.cond_t rfl ?_
                  | refine J.cond_f rfl ?_)
              refine J.draw (by kernel_rfl) rfl ?_
              refine JW.base (some 1) ?_
              refine JD.each2 (i := 0) (j := 1) (by kernel_rfl) ?_ ?_
              (refine JS.q rfl rfl rfl (Nat.le_of_ble_eq_true rfl) (Qt.load1b rfl (by exact rfl)) ?_)
              refine JD.each1 (i := 1) (by kernel_rfl) ?_
              (refine JS.last rfl rfl (Ld.storeW rfl rfl rfl (by exact rfl) (by exact rfl)) (fun _ => ?_))
              refine JW.base (some 2) ?_
              refine JD.each1 (i := 2) (by kernel_rfl) ?_
              (refine JS.last rfl rfl (Ld.storeW rfl rfl rfl (by exact rfl) (by exact rfl)) (fun _ => ?_))
              refine JW.done (by kernel_rfl) ?_
              rotate_left
              (refine JS.last rfl rfl (Ld.storeW rfl rfl rfl (by exact rfl) (by exact rfl)) (fun _ => ?_))
              refine JW.base (some 2) ?_
              (refine JD.take 0 rfl rfl (by kernel_rfl) rfl (Nat.le_of_ble_eq_true rfl) (Qt.load1b rfl (by exact rfl)) rfl ?_)
              refine JD.each1 (i := 2) (by kernel_rfl) ?_
              (refine JS.last rfl rfl (Ld.storeW rfl rfl rfl (by exact rfl) (by exact rfl)) (fun _ => ?_))
              refine JW.done (by kernel_rfl) ?_
              rotate_left
              all_goals
                refine J.drop 1 ?_
                refine J.drop 1 ?_
                simp only [List.eraseIdx_cons_succ, List.eraseIdx_cons_zero]
                exact J.rret (.inr ⟨_, hG⟩) rfl
    · rintro ⟨st, pv, iv, n⟩ ⟨hk, _, hG⟩ B
      simp only at hk hG ⊢
      rw [Wr.split, Wr.lnOf, if_pos rfl, Wr.runP] at hG
      subst hG
      refine J.pull 2 rfl (J.pull 2 rfl ?_)
      simp only [List.eraseIdx_cons_succ, List.eraseIdx_cons_zero]
      refine J.flat st pv iv ?_
      refine J.frzB 0 3 0 rfl rfl rfl ?_
      simp only [List.set_cons_succ, List.set_cons_zero, List.eraseIdx_cons_zero]
      repeat (first
          | (refine K.load ?_; (refine JO.q rfl rfl (Nat.le_of_ble_eq_true rfl) (Qt.load1b rfl (by exact rfl)) ?_))
          | (refine K.store ?_; (refine JO.ld (Ld.storeW rfl rfl rfl (by exact rfl) (by exact rfl)) rfl (fun _ => ?_)))
          | refine JO.nil ?_
          | refine J.seq ?_
          | refine J.region ?_
          | refine J.inBlock ?_)
      exact J.retM Tryd.func6 rfl (.cons (.cell1 1 rfl rfl) (.cons (.cell1 0 rfl rfl) .nil)) () (.tup (.cons .refl (.cons .refl .nil))) [] .nil rfl rfl
    · rintro ⟨n, hn⟩ B
      subst hn
      exact J.retM Tryd.func6 rfl (.cons (.cell1 1 rfl rfl) (.cons (.cell1 0 rfl rfl) .nil)) () (.tup (.cons (.c .nil) (.cons .refl .nil))) [] .nil rfl rfl
end Fl
end Go.Proofs.YtbjnbngpjdoejaaDoor
namespace Go.Proofs.YtbjnbngpjdoejaaDoor
set_option linter.unusedVariables false
set_option linter.unusedSimpArgs false
set_option linter.unnecessarySimpa false
namespace Wr
def render (l : List (W × Bool)) : W := l.flatMap fun x => x.1 ++ (if x.2 then [10] else [])
theorem render_ln : ∀ {p : List W}, p ≠ [] → render (lnOf p) = join 10 p
  | [], h => absurd rfl h
  | [a], _ => by
    rw [lnOf]
    by_cases h : a = []
    · rw [if_pos h, h]; rfl
    · rw [if_neg h]; simp [render, join]
  | a :: b :: r, _ => by
    have ih := render_ln (p := b :: r) (by simp)
    rw [lnOf]
    show (a ++ [10]) ++ render (lnOf (b :: r)) = join 10 (a :: b :: r)
    rw [ih]
    simp [join]
theorem render_lines (s : W) : render (lnOf (split 10 s)) = s := by
  rw [render_ln (split_ne 10 s), join_split]
def good (st : PSt) : Prop := (flat st).length ≤ 8 ∧ ∀ l ∈ flat st, Pn.rightOps l = true
theorem txt_app (a b : List (List Pn.Op)) : Wd.txt (a ++ b) = Wd.txt a ++ Wd.txt b := by simp [Wd.txt]
theorem op_right {o : Pn.Op} (h : Pn.rightOp o = true) : Wd.op o = Wd.op1 o := by unfold Wd.op; rw [h]; rfl
theorem stepP_good {st st' : PSt} {x : W × Bool} (h : stepP st x = some st') (hg : good st) : good st' ∧ st' ≠ none ∧ Wd.txt (flat st') = Wd.txt (flat st) ++ (x.1 ++ (if x.2 then [10] else [])) := by
  unfold stepP at h
  split at h
  · cases h
  · rename_i hw
    have hw : x.2 = true := by simpa using hw
    rw [hw]
    split at h
    · rename_i hgo
      split at h
      · rename_i h8
        simp only [Option.some.injEq] at h
        subst h
        refine ⟨⟨by show (flat st ++ [[]]).length ≤ 8; rw [List.length_append]; simp only [List.length_cons, List.length_nil]; omega, fun l hl => ?_⟩, by simp, ?_⟩
        · have hl : l ∈ flat st ++ [[]] := hl
          rw [List.mem_append, List.mem_singleton] at hl
          rcases hl with hl | rfl
          · exact hg.2 l hl
          · rfl
        · show Wd.txt (flat st ++ [[]]) = _
          rw [txt_app, hgo]
          rfl
      · cases h
    · split at h
      · rename_i d c o hr
        split at h
        · rename_i h16
          simp only [Option.some.injEq] at h
          subst h
          obtain ⟨ro, e⟩ := read_back hr
          refine ⟨⟨by have := hg.1; simpa [flat] using this, fun l hl => ?_⟩, by simp, ?_⟩
          · simp only [flat, List.mem_append, List.mem_singleton] at hl
            rcases hl with hl | rfl
            · exact hg.2 l (by simp [flat, hl])
            · have := hg.2 c (by simp [flat])
              unfold Pn.rightOps at this ⊢
              rw [decide_eq_true_iff] at this ⊢
              refine ⟨by simp; omega, fun y hy => ?_⟩
              rcases List.mem_append.1 hy with hy | hy
              · exact this.2 y hy
              · simp at hy; subst hy; exact ro
          · show Wd.txt (d ++ [c ++ [o]]) = Wd.txt (d ++ [c]) ++ _
            rw [txt_app, txt_app, e, ← op_right ro]
            simp [Wd.txt, Wd.blk, Wd.ops]
        · cases h
      · cases h
theorem runP_back : ∀ {xs : List (W × Bool)} {st : PSt} {i : Int} {q : List (List Pn.Op)}, 0 ≤ i → good st → runP xs st i = (q, 0) → (st ≠ none ∨ xs ≠ []) → Pn.right q = true ∧ Wd.txt (flat st) ++ render xs = Wd.txt q
  | [], st, i, q, _, hg, h, hn => by
    rw [runP] at h
    simp only [Prod.mk.injEq, and_true] at h
    subst h
    refine ⟨?_, by simp [render]⟩
    have hs : st ≠ none := by rcases hn with h | h; exact h; exact absurd rfl h
    obtain ⟨dc, rfl⟩ := Option.ne_none_iff_exists'.1 hs
    obtain ⟨d, c⟩ := dc
    unfold Pn.right
    rw [decide_eq_true_iff]
    exact ⟨by simp [flat], hg.1, hg.2⟩
  | x :: xs, st, i, q, hi, hg, h, _ => by
    rw [runP] at h
    cases hs : stepP st x with
    | none =>
      rw [hs] at h
      simp only [Prod.mk.injEq] at h
      omega
    | some st' =>
      rw [hs] at h
      simp only at h
      obtain ⟨g1, g2, g3⟩ := stepP_good hs hg
      obtain ⟨r1, r2⟩ := runP_back (by omega) g1 h (.inl g2)
      refine ⟨r1, ?_⟩
      rw [← r2, g3]
      simp [render]
theorem runP_fail : ∀ {xs : List (W × Bool)} {st : PSt} {i : Int} {q : List (List Pn.Op)} {n : Int}, 0 ≤ i → runP xs st i = (q, n) → n ≠ 0 → q = []
  | [], st, i, q, n, _, h, hn => by
    rw [runP] at h
    simp only [Prod.mk.injEq] at h
    exact absurd h.2.symm hn
  | x :: xs, st, i, q, n, hi, h, hn => by
    rw [runP] at h
    cases hs : stepP st x with
    | none =>
      rw [hs] at h
      simp only [Prod.mk.injEq] at h
      exact h.1.symm
    | some st' =>
      rw [hs] at h
      exact runP_fail (by omega) h hn
theorem prs_text {s : W} {q : List (List Pn.Op)} (h : prs s = (q, 0)) : Wd.text q = s := by
  unfold prs at h
  split at h
  · simp at h
  · rename_i hne
    obtain ⟨r1, r2⟩ := runP_back (by omega) ⟨by simp [flat], by simp [flat]⟩ h (.inr hne)
    rw [Wd.txt_eq, if_pos r1, ← r2, render_lines]
    simp [flat, Wd.txt]
theorem prs_none {s : W} {q : List (List Pn.Op)} {n : Int} (h : prs s = (q, n)) (hn : n ≠ 0) : q = [] := by
  unfold prs at h
  split at h
  · simp only [Prod.mk.injEq] at h; exact h.1.symm
  · exact runP_fail (by omega) h hn
/-! ### and back -/
theorem no10_num {n : Int} (h0 : 0 ≤ n) (h : n < 1000) : (10 : UInt8) ∉ Wd.num n := by
  intro hm
  have hm : (10 : UInt8) ∈ Lib.itoa n := by simpa [Wd.num] using hm
  obtain ⟨k, rfl⟩ : ∃ k : Nat, n = k := ⟨n.toNat, by omega⟩
  have hk : k < 1000 := by omega
  have ne : ∀ j : Nat, j < 10 → (10 : UInt8) ≠ (48 + j).toUInt8 := fun j hj e => by
    have := congrArg UInt8.toNat e
    rw [ch_nat hj] at this
    simp at this; omega
  rw [itoa_nat] at hm
  by_cases h1 : k < 10
  · rw [dec1 h1] at hm
    simp only [List.mem_singleton] at hm
    exact ne _ h1 hm
  · by_cases h2 : k < 100
    · rw [dec2 (by omega) h2] at hm
      simp only [List.mem_cons, List.not_mem_nil, or_false] at hm
      rcases hm with hm | hm
      · exact ne _ (by omega) hm
      · exact ne _ (by omega) hm
    · rw [dec3 (by omega) hk] at hm
      simp only [List.mem_cons, List.not_mem_nil, or_false] at hm
      rcases hm with hm | hm | hm
      · exact ne _ (by omega) hm
      · exact ne _ (by omega) hm
      · exact ne _ (by omega) hm
theorem no10_kind (k : Int) : (10 : UInt8) ∉ Wd.kind k := by
  unfold Wd.kind
  rw [List.getD_eq_getElem?_getD]
  cases h : Wd.kinds[k.toNat]? with
  | none => simp
  | some l =>
    have hm := List.mem_of_getElem? h
    have : ∀ l ∈ Wd.kinds, (10 : UInt8) ∉ l := by decide
    exact this l hm
theorem no10_op {o : Pn.Op} (h : Pn.rightOp o = true) : (10 : UInt8) ∉ Wd.op1 o := by
  have hc := okC_of h
  unfold Pn.rightOp at h
  rw [decide_eq_true_iff] at h
  obtain ⟨r1, r2, r3, r4, r5, r6, r7, r8, r9, -⟩ := h
  have n1 := no10_num r5 (by omega)
  have n2 := no10_num r3 (by omega)
  have n3 := no10_num r7 (by omega)
  have nc : ∀ l : List Pn.Cs, (∀ c ∈ l, okC c) → (10 : UInt8) ∉ Wd.cass l := by
    intro l hl hm
    unfold Wd.cass at hm
    obtain ⟨c, hc1, hc2⟩ := List.mem_flatMap.1 hm
    obtain ⟨a, b, d, e, f⟩ := hl c hc1
    have m1 := no10_num a b
    have m2 := no10_num d e
    have k2 := no10_kind 2
    have k3 := no10_kind 3
    have kb : (10 : UInt8) ∉ Wd.bar := by decide
    unfold Wd.cas at hc2
    split at hc2 <;> simp_all
  have ke : (10 : UInt8) ∉ Wd.els := by decide
  unfold Wd.op1
  split
  · simp [n1, no10_kind]
  · split
    · have := nc o.cases hc
      split <;> simp [this, no10_kind, ke]
    · split <;> simp [n2, n3, no10_kind]
theorem ln_lines : ∀ {l : List W}, (∀ x ∈ l, (10 : UInt8) ∉ x) → lnOf (split 10 (l.flatMap fun x => x ++ [10])) = l.map fun x => (x, true)
  | [], _ => rfl
  | a :: l, h => by
    have ih := ln_lines (l := l) fun x hx => h x (List.mem_cons_of_mem _ hx)
    have e : (a :: l).flatMap (fun x => x ++ [10]) = a ++ 10 :: l.flatMap (fun x => x ++ [10]) := by simp
    rw [e, split_app (h a (List.mem_cons_self ..))]
    obtain ⟨x, t, e2⟩ := split_cons (10 : UInt8) (l.flatMap fun x => x ++ [10])
    rw [e2] at ih ⊢
    rw [lnOf, ih]
    rfl
def linesOf (p : List (List Pn.Op)) : List W := p.flatMap fun l => goW :: l.map Wd.op1
theorem txt_lines : ∀ {p : List (List Pn.Op)}, (∀ l ∈ p, Pn.rightOps l = true) → Wd.txt p = (linesOf p).flatMap fun x => x ++ [10]
  | [], _ => rfl
  | l :: p, h => by
    have ih := txt_lines (p := p) fun x hx => h x (List.mem_cons_of_mem _ hx)
    have hl := h l (List.mem_cons_self ..)
    unfold Pn.rightOps at hl
    rw [decide_eq_true_iff] at hl
    have e : Wd.ops l = (l.map Wd.op1).flatMap fun x => x ++ [10] := by
      have key : ∀ m : List Pn.Op, (∀ o ∈ m, Pn.rightOp o = true) → Wd.ops m = (m.map Wd.op1).flatMap fun x => x ++ [10] := by
        intro m
        induction m with
        | nil => intro _; rfl
        | cons o m ih =>
          intro hm
          have := ih fun x hx => hm x (List.mem_cons_of_mem _ hx)
          unfold Wd.ops at this ⊢
          rw [List.flatMap_cons, this, op_right (hm o (List.mem_cons_self ..))]
          simp
      exact key l hl.2
    have e2 : Wd.txt (l :: p) = Wd.blk l ++ Wd.txt p := by simp [Wd.txt]
    rw [e2, ih]
    unfold Wd.blk linesOf
    rw [e]
    simp [goW]
theorem op_ne_go {o : Pn.Op} (h : Pn.rightOp o = true) : Wd.op1 o ≠ goW := fun e => by
  have h1 := read_op h
  rw [e] at h1
  have h2 : read goW = none := by
    have : split 32 goW = [goW] := rfl
    unfold read
    rw [this]
    rfl
  rw [h2] at h1
  cases h1
theorem runP_ops : ∀ {l : List Pn.Op} {rest : List (W × Bool)} {d : List (List Pn.Op)} {c : List Pn.Op} {i : Int}, (∀ o ∈ l, Pn.rightOp o = true) → c.length + l.length ≤ 16 → runP (l.map (fun o => (Wd.op1 o, true)) ++ rest) (some (d, c)) i = runP rest (some (d, c ++ l)) (i + l.length)
  | [], rest, d, c, i, _, _ => by simp
  | o :: l, rest, d, c, i, h, hl => by
    have ho := h o (List.mem_cons_self ..)
    simp only [List.length_cons] at hl
    have e : stepP (some (d, c)) (Wd.op1 o, true) = some (some (d, c ++ [o])) := by
      unfold stepP
      rw [if_neg (by simp), if_neg (op_ne_go ho)]
      simp only [read_op ho]
      rw [if_pos (by omega)]
    rw [List.map_cons, List.cons_append, runP, e]
    simp only
    rw [runP_ops (fun x hx => h x (List.mem_cons_of_mem _ hx)) (by simp; omega)]
    simp only [List.append_assoc, List.cons_append, List.nil_append, List.length_cons]
    congr 1
    omega
theorem runP_plan : ∀ {p : List (List Pn.Op)} {st : PSt} {i : Int}, (∀ l ∈ p, Pn.rightOps l = true) → (flat st).length + p.length ≤ 8 → runP ((linesOf p).map fun x => (x, true)) st i = (flat st ++ p, 0)
  | [], st, i, _, _ => by simp [linesOf, runP]
  | l :: p, st, i, h, hl => by
    have hr := h l (List.mem_cons_self ..)
    unfold Pn.rightOps at hr
    rw [decide_eq_true_iff] at hr
    simp only [List.length_cons] at hl
    have e : (linesOf (l :: p)).map (fun x => (x, true)) = (goW, true) :: (l.map (fun o => (Wd.op1 o, true)) ++ (linesOf p).map fun x => (x, true)) := by simp [linesOf]
    have e1 : stepP st (goW, true) = some (some (flat st, [])) := by
      unfold stepP
      rw [if_neg (by simp), if_pos rfl, if_pos (by omega)]
    rw [e, runP, e1]
    simp only
    rw [runP_ops hr.2 (by simpa using hr.1), List.nil_append, runP_plan (fun x hx => h x (List.mem_cons_of_mem _ hx)) (by show (flat st ++ [l]).length + p.length ≤ 8; rw [List.length_append]; simp only [List.length_cons, List.length_nil]; omega)]
    show (flat st ++ [l] ++ p, (0 : Int)) = _
    simp
theorem text_prs {p : List (List Pn.Op)} (h : Pn.right p = true) : prs (Wd.text p) = (p, 0) := by
  have hr := h
  unfold Pn.right at hr
  rw [decide_eq_true_iff] at hr
  obtain ⟨h1, h2, h3⟩ := hr
  rw [Wd.txt_eq, if_pos h, txt_lines h3]
  have hn : ∀ x ∈ linesOf p, (10 : UInt8) ∉ x := fun x hx => by
    unfold linesOf at hx
    obtain ⟨l, hl, hx⟩ := List.mem_flatMap.1 hx
    have hl := h3 l hl
    unfold Pn.rightOps at hl
    rw [decide_eq_true_iff] at hl
    rcases List.mem_cons.1 hx with rfl | hx
    · decide
    · obtain ⟨o, ho, rfl⟩ := List.mem_map.1 hx
      exact no10_op (hl.2 o ho)
  unfold prs
  rw [ln_lines hn, if_neg (by
    cases p with
    | nil => simp at h1
    | cons l p => simp [linesOf]), runP_plan h3 (by simpa [flat] using h2)]
  simp [flat]
end Wr
end Go.Proofs.YtbjnbngpjdoejaaDoor
namespace Go.Proofs.YtbjnbngpjdoejaaDoor
open Go.RowKit
set_option linter.unusedVariables false
set_option linter.unusedSimpArgs false
set_option linter.unnecessarySimpa false

theorem list_same {α : Type} {a b : List α} (h : a.length = b.length) (hj : ∀ j, j < a.length → a[j]? = b[j]?) : a = b := by
  apply List.ext_getElem?
  intro j
  by_cases hl : j < a.length
  · exact hj j hl
  · rw [List.getElem?_eq_none (by omega), List.getElem?_eq_none (by omega)]

theorem case_fields : Tryd.prog.underlying 33 = some (.struct (Tryd.prog.fieldsOf 33)) := by kernel_rfl
theorem case_held : Tryd.prog.stoodInHeld 33 = false := by kernel_rfl
theorem case_guard : Tryd.prog.eqGuardType Tryd.prog.depth 33 = false := by kernel_rfl
theorem case_flds : ∃ f0 f1 f2 : Field, (Tryd.prog.fieldsOf 33).toList = [f0, f1, f2] ∧ f0.name ≠ "_" ∧ f1.name ≠ "_" ∧ f2.name ≠ "_" ∧ f0.type = 4 ∧ f1.type = 3 ∧ f2.type = 2 ∧ f0.offset = 0 ∧ f1.offset = 1 ∧ f2.offset = 2 := by
  unfold Program.fieldsOf
  rw [Tryd.underlying33]
  exact ⟨_, _, _, rfl, by decide, by decide, by decide, rfl, rfl, rfl, rfl, rfl, rfl⟩
theorem run_neq_case (w : World) (x y : Pn.Cs) : (binOp .neq 33 (.agg #[.bool x.send, .int .i64 x.ch, .int .i64 x.v]) (.agg #[.bool y.send, .int .i64 y.ch, .int .i64 y.v])).run Tryd.prog w = .ok (.bool (!decide (x = y))) w := by
  obtain ⟨f0, f1, f2, hf, n0, n1, n2, t0, t1, t2, o0, o1, o2⟩ := case_flds
  obtain ⟨x1, x2, x3⟩ := x
  obtain ⟨y1, y2, y3⟩ := y
  rw [run_neq_struct, run_equalIn_struct _ _ _ _ _ case_fields case_held, hf]
  have hb := Tryd.underlying4
  have hi := Tryd.underlying3
  have h64 := Tryd.underlying2
  simp [Op.eqFields, n0, n1, n2, t0, t1, t2, o0, o1, o2, go_sem, hb, hi, h64]
  by_cases h1 : x1 = y1 <;> by_cases h2 : x2 = y2 <;> by_cases h3 : x3 = y3 <;> simp [h1, h2, h3]

end Go.Proofs.YtbjnbngpjdoejaaDoor
namespace Go.Proofs.YtbjnbngpjdoejaaDoor
open Go.RowKit
set_option linter.unusedVariables false
set_option linter.unusedSimpArgs false
set_option linter.unnecessarySimpa false

set_option maxHeartbeats 1600000 in
theorem ref10_sameOp (w : World) (a b : Pn.Op) (va vb : Value) (SA SB : List Nat) (ha : GV caseE 3 w va a.cases SA) (hb : GV caseE 3 w vb b.cases SB) :
    Calls Tryd.prog 36 #[.agg #[.int .i64 a.kind, .int .i64 a.ch, .int .i64 a.n, .int .i64 a.v, va, .bool a.els], .agg #[.int .i64 b.kind, .int .i64 b.ch, .int .i64 b.n, .int .i64 b.v, vb, .bool b.els]] w fun e w' => e = .returned (.bool (decide (a = b))) ∧ Keeps [] w w' := by
  obtain ⟨k1, c1, n1, v1, s1, e1⟩ := a
  obtain ⟨k2, c2, n2, v2, s2, e2⟩ := b
  simp only at ha hb ⊢
  have hla := ha.le
  have hlb := hb.le
  unfold maxLen at hla hlb
  obtain ⟨ao1, cap1, rfl⟩ := ha.shape
  obtain ⟨ao2, cap2, rfl⟩ := hb.shape
  have HA := Lib.hid ha
  have HB := Lib.hid hb
  have ka : Keeps [] w ((w.alloc (.cells #[.int .i64 k1, .int .i64 c1, .int .i64 n1, .int .i64 v1, .slice ao1 s1.length cap1, .bool e1] 36)).alloc (.cells #[.int .i64 k2, .int .i64 c2, .int .i64 n2, .int .i64 v2, .slice ao2 s2.length cap2, .bool e2] 36)) := ((Keeps.refl [] w).alloc _).alloc _
  have KA := Lib.hid ka
  clear ha hb ka
  obtain ⟨q, hq0⟩ : ∃ q, decide ((⟨k1, c1, n1, v1, s1, e1⟩ : Pn.Op) = ⟨k2, c2, n2, v2, s2, e2⟩) = q := ⟨_, rfl⟩
  rw [hq0]
  have HQ0 := Lib.hid hq0
  clear hq0
  by_cases heq : k1 = k2 ∧ c1 = c2 ∧ n1 = n2 ∧ v1 = v2
  · obtain ⟨rfl, rfl, rfl, rfl⟩ := heq
    by_cases hee : e1 = e2
    rotate_left
    · have hne : false = q := by
        rw [← HQ0.out, eq_comm, decide_eq_false_iff_not]; intro e; injection e with _ _ _ _ _ e6; exact hee e6
      have HN := Lib.hid hne
      clear hne
      cases e1 <;> cases e2
      · exact absurd rfl hee
      · clear hee
        go_enter Tryd.func36, Tryd.ntmps36
        go_wp2_with fail
        go_ret
        exact ⟨ret_bool HN.out, KA.out⟩
      · clear hee
        go_enter Tryd.func36, Tryd.ntmps36
        go_wp2_with fail
        go_ret
        exact ⟨ret_bool HN.out, KA.out⟩
      · exact absurd rfl hee
    subst hee
    have he1 : (e1 != e1) = false := by cases e1 <;> rfl
    by_cases hl : s1.length = s2.length
    · have HL := Lib.hid hl
      have hq : ((s1.length : Int) != (s2.length : Int)) = false := by simp [hl]
      have hb2 := Blk.fresh (w.alloc (.cells #[.int .i64 k1, .int .i64 c1, .int .i64 n1, .int .i64 v1, .slice ao1 s1.length cap1, .bool e1] 36)) [.int .i64 k1, .int .i64 c1, .int .i64 n1, .int .i64 v1, .slice ao2 s2.length cap2, .bool e1] 36 (w.heap.size + 1) (by simp)
      have HB2 := Lib.hid hb2
      have HB1 := Lib.hid ((Blk.fresh w [.int .i64 k1, .int .i64 c1, .int .i64 n1, .int .i64 v1, .slice ao1 s1.length cap1, .bool e1] 36 _ rfl).alloc (.cells #[.int .i64 k1, .int .i64 c1, .int .i64 n1, .int .i64 v1, .slice ao2 s2.length cap2, .bool e1] 36))
      clear hl hb2
      go_enter Tryd.func36, Tryd.ntmps36
      go_wp2_with fail
      go_loopw [51] (fun u wr => ∃ k : Nat, k ≤ s1.length ∧ u = .int .i64 k ∧ Hid (Keeps [] w wr ∧ Blk wr w.heap.size [.int .i64 k1, .int .i64 c1, .int .i64 n1, .int .i64 v1, .slice ao1 s1.length cap1, .bool e1] 36 ∧ Blk wr (w.heap.size + 1) [.int .i64 k1, .int .i64 c1, .int .i64 n1, .int .i64 v1, .slice ao2 s2.length cap2, .bool e1] 36 ∧ ∀ j, j < k → s1[j]? = s2[j]?)) (fun u _ => s1.length - (intOf u).toNat)
      case atStart => exact ⟨0, Nat.zero_le _, rfl, Lib.hid ⟨KA.out, HB1.out, HB2.out, fun j hj => by omega⟩⟩
      case round =>
        obtain ⟨k, hk, rfl, HI⟩ := hrel
        obtain ⟨wo, rfl⟩ : ∃ wo : World, wo = wr := ⟨_, rfl⟩
        by_cases hlt : k < s1.length
        · obtain ⟨x, hx⟩ : ∃ x, s1[k]? = some x := ⟨_, List.getElem?_eq_getElem hlt⟩
          obtain ⟨y, hy⟩ : ∃ y, s2[k]? = some y := ⟨_, List.getElem?_eq_getElem (by have := HL.out; omega)⟩
          have hlt2 : k < s2.length := by have := HL.out; omega
          obtain ⟨g1, off1, rfl, _, hg1, a0, a1, a2⟩ := (HA.out.then caseE_kept HI.out.1).case hx
          obtain ⟨g2, off2, rfl, _, hg2, b0, b1, b2⟩ := (HB.out.then caseE_kept HI.out.1).case hy
          have hbx1 : wo.cell? ⟨w.heap.size, 4, none⟩ = some (.slice (some ⟨g1, off1, none⟩) s1.length cap1) := HI.out.2.1.cell 4
          have hbx : wo.cell? ⟨w.heap.size + 1, 4, none⟩ = some (.slice (some ⟨g2, off2, none⟩) s2.length cap2) := HI.out.2.2.1.cell 4
          have HX := Lib.hid hx
          have HY := Lib.hid hy
          have KR := Lib.hid HI.out.1
          obtain ⟨x1, x2, x3⟩ := x
          obtain ⟨y1, y2, y3⟩ := y
          simp only at a0 a1 a2 b0 b1 b2
          clear hx hy
          have hgd := case_guard
          by_cases hxy : (⟨x1, x2, x3⟩ : Pn.Cs) = ⟨y1, y2, y3⟩
          · have hrn : ∀ w : World, (binOp .neq 33 (.agg #[.bool x1, .int .i64 x2, .int .i64 x3]) (.agg #[.bool y1, .int .i64 y2, .int .i64 y3])).run Tryd.prog w = .ok (.bool false) w := fun w => by
              have := run_neq_case w ⟨x1, x2, x3⟩ ⟨y1, y2, y3⟩
              rwa [decide_eq_true hxy] at this
            have HXY := Lib.hid hxy
            clear hxy
            go_upto_region 6 with fail
            go_quiet (fail)
            go_wp2_with fail
            go_roundw
            case rel => exact ⟨k + 1, by omega, by go_num, Lib.hid ⟨KR.out.drewN _, HI.out.2.1.keep ((Keeps.refl [] _).drewN _) (by simp), HI.out.2.2.1.keep ((Keeps.refl [] _).drewN _) (by simp), fun j hj => by
              by_cases e : j = k
              · subst e; rw [HX.out, HY.out, HXY.out]
              · exact HI.out.2.2.2 j (by omega)⟩⟩
            case measure => simp [intOf]; omega
          · have hrn : ∀ w : World, (binOp .neq 33 (.agg #[.bool x1, .int .i64 x2, .int .i64 x3]) (.agg #[.bool y1, .int .i64 y2, .int .i64 y3])).run Tryd.prog w = .ok (.bool true) w := fun w => by
              have := run_neq_case w ⟨x1, x2, x3⟩ ⟨y1, y2, y3⟩
              rwa [decide_eq_false hxy] at this
            have HN : Hid (false = q) := Lib.hid (by
              rw [← HQ0.out, eq_comm, decide_eq_false_iff_not]
              intro e
              injection e with _ _ _ _ e5
              have h1 := HX.out
              rw [e5, HY.out] at h1
              exact hxy (Option.some.inj h1).symm)
            clear hxy
            go_upto_region 6 with fail
            go_quiet (fail)
            go_wp2_with fail
            go_ret
            exact ⟨ret_bool HN.out, KR.out.drewN _⟩
        · obtain rfl : k = s1.length := by omega
          have HN : Hid (true = q) := Lib.hid (by
            rw [← HQ0.out, eq_comm, decide_eq_true_iff, list_same HL.out HI.out.2.2.2])
          go_wp2_with fail
          go_ret
          exact ⟨ret_bool HN.out, HI.out.1⟩
    · have hq : ((s1.length : Int) != (s2.length : Int)) = true := by simp; omega
      have hne : false = q := by
        rw [← HQ0.out, eq_comm, decide_eq_false_iff_not]; intro e; injection e with _ _ _ _ e5; exact hl (by rw [e5])
      have HN := Lib.hid hne
      clear hne hl
      go_enter Tryd.func36, Tryd.ntmps36
      go_wp2_with fail
      go_ret
      exact ⟨ret_bool HN.out, KA.out⟩
  · have hne : false = q := by
      rw [← HQ0.out, eq_comm, decide_eq_false_iff_not]; intro e; injection e with h1 h2 h3 h4 h5 h6; exact heq ⟨h1, h2, h3, h4⟩
    have HN := Lib.hid hne
    have HQ := Lib.hid heq
    clear hne heq
    go_enter Tryd.func36, Tryd.ntmps36
    go_upto_if 47 with fail
    · exfalso; exact HQ.out ⟨by assumption, by assumption, by assumption, by assumption⟩
    all_goals
      go_wp2_with fail
      go_ret
      exact ⟨ret_bool HN.out, ((Keeps.refl [] w).alloc _).alloc _⟩
end Go.Proofs.YtbjnbngpjdoejaaDoor
