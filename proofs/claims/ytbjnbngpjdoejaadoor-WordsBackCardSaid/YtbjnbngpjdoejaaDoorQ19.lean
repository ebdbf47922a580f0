/-
  Texts RdG RowR of this claim, put together: what they show stands at their heads.
  Conditions: none but those that each theorem states.
-/
import Derived.Test.YtbjnbngpjdoejaaDoorQ18
namespace Go.Proofs.YtbjnbngpjdoejaaDoor
open Go.RowKit
set_option linter.unusedVariables false
set_option linter.unusedSimpArgs false
set_option linter.unnecessarySimpa false
namespace Wr
def ksF (k : Nat) : List Int := (List.range' k (10 - k)).map fun j : Nat => (j : Int)
theorem ksF_next {k : Nat} (h : k < 10) : ksF k = (k : Int) :: ksF (k + 1) := by
  unfold ksF
  obtain ⟨m, hm⟩ : ∃ m, 10 - k = m + 1 := ⟨9 - k, by omega⟩
  rw [hm, List.range'_succ, show 10 - (k + 1) = m by omega]
  rfl
theorem ksF_end : ksF 10 = [] := rfl
theorem look_all (s : W) : look s (ksF 1) = read s := look_read s
end Wr
namespace Fl
set_option maxRecDepth 100000
set_option maxHeartbeats 4000000
set_option maxHeartbeats 2000000 in
theorem c_readOp (s : Wr.W) (hs : s.length ≤ 60000) : PureW Hw Tryd.prog 15 [.c (sA s)] (.tup [.agg (eOp ((Wr.read s).getD Wr.zeroO)), .c (bI (Wr.read s).isSome)]) := by
  refine ConW.intro Tryd.func15 rfl rfl rfl (fun ok e hT => ?_)
  have hW : ∀ w, Keeps [] e w → Hw w := fun w k => hT.grows k
  rw [← Wr.look_all]
  generalize hR : Wr.look s (Wr.ksF 1) = R
  repeat (first
      | (refine K.assign ?_; refine JO.q rfl rfl (Nat.le_of_ble_eq_true rfl) (Qt.assign rfl) ?_)
      | (refine JO.alloc rfl (Nat.le_of_ble_eq_true rfl) ?_; intro _)
      | refine JO.nil ?_
      | refine J.seq ?_
      | refine J.region ?_
      | refine J.block ?_)
  rename_i b2
  refine J.loop (ι := { k : Nat // 1 ≤ k ∧ k ≤ 10 ∧ Wr.look s (Wr.ksF k) = R }) (fun q => [(4, .c (nI q.1)), (2, .c (.v (.pointer (some ⟨b2, 0, none⟩)))), (0, .c (sA s))]) (fun q => [.box b2 36 zB]) (fun q => 10 - q.1) ⟨1, by omega, by omega, hR⟩ (fun X h => h.weak ⟨rfl, rfl, rfl, trivial⟩) (fun q ih => ?_)
  obtain ⟨k, h1, h2, hG⟩ := q
  simp only at h1 h2 hG ih ⊢
  by_cases hk : k < 10
  · have t1 : decide ((k : Int) ≤ 9) = true := decide_eq_true (by omega)
    have CO := c_opName k (by omega) (by omega)
    have CP := l_cutPre s (Wd.kind k)
    rw [Wr.ksF_next hk, Wr.look, behind_lib] at hG
    cases hp : Lib.hasPrefix s (Wd.kind k) with
    | false =>
      rw [if_neg (by rw [hp]; simp)] at hG
      rw [hp] at CP
      repeat (first
          | (refine K.move ?_; refine JO.q rfl rfl (Nat.le_of_ble_eq_true rfl) (Qt.move rfl) ?_)
          | (refine K.assign ?_; refine JO.q rfl rfl (Nat.le_of_ble_eq_true rfl) (Qt.assign rfl) ?_)
          | (refine K.binOp ?_; first | refine JO.q rfl rfl (Nat.le_of_ble_eq_true rfl) (Qt.cmp rfl rfl (congrArg some t1)) ?_ | refine JO.q rfl rfl (Nat.le_of_ble_eq_true rfl) (Qt.ari rfl rfl rfl (w64 (by omega) (by omega))) ?_)
          | (refine K.call ?_; first | (refine JO.pure (CO) rfl (Nat.le_of_ble_eq_true rfl) rfl ?_ ?_; focus ((repeat (first | exact LeDs.nil | refine LeDs.cons LeD.refl ?_)); done)) | (refine JO.pure (CP) rfl (Nat.le_of_ble_eq_true rfl) rfl ?_ ?_; focus ((repeat (first | exact LeDs.nil | refine LeDs.cons LeD.refl ?_)); done)))
          | (refine K.unOp ?_; refine JO.q rfl rfl (Nat.le_of_ble_eq_true rfl) (Qt.not rfl) ?_)
          | (refine K.extract ?_; refine JO.q rfl rfl (Nat.le_of_ble_eq_true rfl) (Qt.extract rfl rfl) ?_)
          | refine JO.nil ?_
          | refine J.seq ?_
          | refine J.region ?_
          | refine J.block ?_
          | refine J.skip ?_
          | refine J.exit rfl ?_
          | refine J.cond_t rfl ?_)
      exact (ih ⟨k + 1, by omega, by omega, hG⟩ (by simp only; omega)).weak ⟨rfl, rfl, rfl, trivial⟩
    | true =>
      rw [if_pos hp] at hG
      simp only at hG
      rw [hp] at CP
      have et : Lib.trimPrefix s (Wd.kind k) = s.drop (Wd.kind k).length := by unfold Lib.trimPrefix; rw [if_pos hp]
      rw [et] at CP
      generalize hr : s.drop (Wd.kind k).length = r at CP hG
      have hrl : r.length ≤ 60000 := by rw [← hr, List.length_drop]; omega
      have CW := (c_wOp (Wr.cand k r)).mono (H' := Hw) fun w h => h.1
      have CN := c_readNums r hrl
      have CQ := fun b => c_readParts b r hrl
      by_cases k1 : k = 1
      · have e1 : Wr.cand (k : Int) r = ⟨k, 0, (Wr.nums r).1, 0, [], false⟩ := by unfold Wr.cand; rw [if_pos (by omega), show (k : Int) = 1 by omega]
        have u1 : ((k : Int) == 1) = true := by rw [k1]; rfl
        rw [e1] at CW hG
        cases hE : (Wd.op (⟨k, 0, (Wr.nums r).1, 0, [], false⟩ : Pn.Op) == s) with
        | true =>
          rw [if_pos (by simpa using hE)] at hG
          subst hG
          repeat (first
              | (refine K.fieldAddr ?_; refine JO.q rfl rfl (Nat.le_of_ble_eq_true rfl) (Qt.fieldAddr rfl rfl) ?_)
              | (refine K.load ?_; (refine JO.q rfl rfl (Nat.le_of_ble_eq_true rfl) (Qt.loadWb rfl (by exact rfl)) ?_))
              | (refine K.move ?_; refine JO.q rfl rfl (Nat.le_of_ble_eq_true rfl) (Qt.move rfl) ?_)
              | (refine K.store ?_; first | refine JO.ld (Ld.storeW rfl rfl rfl (by exact rfl) (by exact rfl)) rfl (fun _ => ?_) | refine JO.ld (Ld.store1 rfl rfl (by exact rfl)) rfl (fun _ => ?_))
              | (refine K.assign ?_; refine JO.q rfl rfl (Nat.le_of_ble_eq_true rfl) (Qt.assign rfl) ?_)
              | (refine K.binOp ?_; first | refine JO.q rfl rfl (Nat.le_of_ble_eq_true rfl) (Qt.cmp rfl rfl (congrArg some t1)) ?_ | refine JO.q rfl rfl (Nat.le_of_ble_eq_true rfl) (Qt.cmp rfl rfl (congrArg some u1)) ?_ | refine JO.q rfl rfl (Nat.le_of_ble_eq_true rfl) ((Qt.strE rfl rfl).eq (congrArg (fun z => D.c (.v (.bool z))) (hE))) ?_)
              | (refine K.call ?_; first | (refine JO.pure (CO) rfl (Nat.le_of_ble_eq_true rfl) rfl ?_ ?_; focus ((repeat (first | exact LeDs.nil | refine LeDs.cons LeD.refl ?_)); done)) | (refine JO.pure (CP) rfl (Nat.le_of_ble_eq_true rfl) rfl ?_ ?_; focus ((repeat (first | exact LeDs.nil | refine LeDs.cons LeD.refl ?_)); done)) | (refine JO.ld (Ld.pureW hW (CN) (Nat.le_of_ble_eq_true rfl) rfl ?_) rfl (fun _ => ?_); focus ((repeat (first | exact LeDs.nil | refine LeDs.cons LeD.refl ?_)); done)) | (refine JO.ld (Ld.pureW hW (CW) (Nat.le_of_ble_eq_true rfl) rfl ?_) rfl (fun _ => ?_); focus ((repeat (first | exact LeDs.nil | refine LeDs.cons (LeD.agg (by repeat (first | exact .nil | refine .cons .refl ?_ | refine .cons .nil ?_))) ?_)); done)))
              | (refine K.unOp ?_; refine JO.q rfl rfl (Nat.le_of_ble_eq_true rfl) (Qt.not rfl) ?_)
              | (refine K.extract ?_; refine JO.q rfl rfl (Nat.le_of_ble_eq_true rfl) (Qt.extract rfl rfl) ?_)
              | (refine JO.alloc rfl (Nat.le_of_ble_eq_true rfl) ?_; intro _)
              | (refine K.build ?_; refine JO.q rfl rfl (Nat.le_of_ble_eq_true rfl) (Qt.build rfl (by kernel_rfl)) ?_)
              | refine JO.nil ?_
              | refine J.seq ?_
              | refine J.region ?_
              | refine J.block ?_
              | refine J.inBlock ?_
              | refine J.skip ?_
              | refine J.cond_t rfl ?_
              | refine J.cond_f rfl ?_)
          (exact J.ret Tryd.func15 rfl (.cons (.cell 1 rfl rfl rfl) (.cons (.tmp rfl) .nil)) () (by (exact .tup (by repeat (first | exact .nil | refine .cons (.agg (by repeat (first | exact .nil | refine .cons .refl ?_ | refine .cons .nil ?_))) ?_ | refine .cons .refl ?_)))) [] .nil rfl rfl)
        | false =>
          rw [if_neg (by simpa using hE)] at hG
          repeat (first
              | (refine K.fieldAddr ?_; refine JO.q rfl rfl (Nat.le_of_ble_eq_true rfl) (Qt.fieldAddr rfl rfl) ?_)
              | (refine K.load ?_; (refine JO.q rfl rfl (Nat.le_of_ble_eq_true rfl) (Qt.loadWb rfl (by exact rfl)) ?_))
              | (refine K.move ?_; refine JO.q rfl rfl (Nat.le_of_ble_eq_true rfl) (Qt.move rfl) ?_)
              | (refine K.store ?_; first | refine JO.ld (Ld.storeW rfl rfl rfl (by exact rfl) (by exact rfl)) rfl (fun _ => ?_) | refine JO.ld (Ld.store1 rfl rfl (by exact rfl)) rfl (fun _ => ?_))
              | (refine K.assign ?_; refine JO.q rfl rfl (Nat.le_of_ble_eq_true rfl) (Qt.assign rfl) ?_)
              | (refine K.binOp ?_; first | refine JO.q rfl rfl (Nat.le_of_ble_eq_true rfl) (Qt.cmp rfl rfl (congrArg some t1)) ?_ | refine JO.q rfl rfl (Nat.le_of_ble_eq_true rfl) (Qt.cmp rfl rfl (congrArg some u1)) ?_ | refine JO.q rfl rfl (Nat.le_of_ble_eq_true rfl) ((Qt.strE rfl rfl).eq (congrArg (fun z => D.c (.v (.bool z))) (hE))) ?_ | refine JO.q rfl rfl (Nat.le_of_ble_eq_true rfl) (Qt.ari rfl rfl rfl (w64 (by omega) (by omega))) ?_)
              | (refine K.call ?_; first | (refine JO.pure (CO) rfl (Nat.le_of_ble_eq_true rfl) rfl ?_ ?_; focus ((repeat (first | exact LeDs.nil | refine LeDs.cons LeD.refl ?_)); done)) | (refine JO.pure (CP) rfl (Nat.le_of_ble_eq_true rfl) rfl ?_ ?_; focus ((repeat (first | exact LeDs.nil | refine LeDs.cons LeD.refl ?_)); done)) | (refine JO.ld (Ld.pureW hW (CN) (Nat.le_of_ble_eq_true rfl) rfl ?_) rfl (fun _ => ?_); focus ((repeat (first | exact LeDs.nil | refine LeDs.cons LeD.refl ?_)); done)) | (refine JO.ld (Ld.pureW hW (CW) (Nat.le_of_ble_eq_true rfl) rfl ?_) rfl (fun _ => ?_); focus ((repeat (first | exact LeDs.nil | refine LeDs.cons (LeD.agg (by repeat (first | exact .nil | refine .cons .refl ?_ | refine .cons .nil ?_))) ?_)); done)))
              | (refine K.unOp ?_; refine JO.q rfl rfl (Nat.le_of_ble_eq_true rfl) (Qt.not rfl) ?_)
              | (refine K.extract ?_; refine JO.q rfl rfl (Nat.le_of_ble_eq_true rfl) (Qt.extract rfl rfl) ?_)
              | (refine JO.alloc rfl (Nat.le_of_ble_eq_true rfl) ?_; intro _)
              | (refine K.build ?_; refine JO.q rfl rfl (Nat.le_of_ble_eq_true rfl) (Qt.build rfl (by kernel_rfl)) ?_)
              | refine JO.nil ?_
              | refine J.seq ?_
              | refine J.region ?_
              | refine J.block ?_
              | refine J.inBlock ?_
              | refine J.skip ?_
              | refine J.cond_t rfl ?_
              | refine J.cond_f rfl ?_)
          refine J.drop 0 ?_
          exact (ih ⟨k + 1, by omega, by omega, hG⟩ (by simp only; omega)).weak ⟨rfl, rfl, rfl, trivial⟩
      · have u1 : ((k : Int) == 1) = false := by rw [beq_eq_false_iff_ne]; omega
        by_cases k9 : k = 9
        · have e1 : Wr.cand (k : Int) r = ⟨9, 0, 0, 0, Wr.casesOf (Wr.spl Wd.bar 8 r).tail, Wr.elseOf (Wr.spl Wd.bar 8 r).tail⟩ := by unfold Wr.cand; rw [if_neg (by omega), if_pos (by omega)]
          have u2 : ((k : Int) == 9) = true := by rw [k9]; rfl
          subst k9
          rw [e1] at CW hG
          cases hE : (Wd.op (⟨9, 0, 0, 0, Wr.casesOf (Wr.spl Wd.bar 8 r).tail, Wr.elseOf (Wr.spl Wd.bar 8 r).tail⟩ : Pn.Op) == s) with
          | true =>
            rw [if_pos (by simpa using hE)] at hG
            subst hG
            repeat (first
                | (refine K.load ?_; (refine JO.q rfl rfl (Nat.le_of_ble_eq_true rfl) (Qt.loadWb rfl (by exact rfl)) ?_))
                | (refine K.move ?_; refine JO.q rfl rfl (Nat.le_of_ble_eq_true rfl) (Qt.move rfl) ?_)
                | (refine K.store ?_; (refine JO.ld (Ld.storeW rfl rfl rfl (by exact rfl) (by exact rfl)) rfl (fun _ => ?_)))
                | (refine K.assign ?_; refine JO.q rfl rfl (Nat.le_of_ble_eq_true rfl) (Qt.assign rfl) ?_)
                | (refine K.binOp ?_; first | refine JO.q rfl rfl (Nat.le_of_ble_eq_true rfl) (Qt.cmp rfl rfl (congrArg some t1)) ?_ | refine JO.q rfl rfl (Nat.le_of_ble_eq_true rfl) (Qt.cmp rfl rfl (congrArg some u1)) ?_ | refine JO.q rfl rfl (Nat.le_of_ble_eq_true rfl) ((Qt.strE rfl rfl).eq (congrArg (fun z => D.c (.v (.bool z))) (hE))) ?_)
                | (refine K.call ?_; first | (refine JO.pure (CO) rfl (Nat.le_of_ble_eq_true rfl) rfl ?_ ?_; focus ((repeat (first | exact LeDs.nil | refine LeDs.cons LeD.refl ?_)); done)) | (refine JO.pure (CP) rfl (Nat.le_of_ble_eq_true rfl) rfl ?_ ?_; focus ((repeat (first | exact LeDs.nil | refine LeDs.cons LeD.refl ?_)); done)) | (refine JO.ld (Ld.callW hW (CQ _) (Nat.le_of_ble_eq_true rfl) rfl (.cons .refl (.cons .refl .nil)) rfl) rfl ?_; intro _; simp only [List.cons_append, List.nil_append]) | (refine JO.ld (Ld.pureW hW (CW) (Nat.le_of_ble_eq_true rfl) rfl ?_) rfl (fun _ => ?_); focus ((repeat (first | exact LeDs.nil | refine LeDs.cons (LeD.agg (by repeat (first | exact .nil | refine .cons .refl ?_))) ?_)); done)))
                | (refine K.unOp ?_; refine JO.q rfl rfl (Nat.le_of_ble_eq_true rfl) (Qt.not rfl) ?_)
                | (refine K.extract ?_; refine JO.q rfl rfl (Nat.le_of_ble_eq_true rfl) (Qt.extract rfl rfl) ?_)
                | (refine JO.alloc rfl (Nat.le_of_ble_eq_true rfl) ?_; intro _)
                | (refine K.build ?_; refine JO.q rfl rfl (Nat.le_of_ble_eq_true rfl) (Qt.build rfl (by kernel_rfl)) ?_)
                | refine JO.nil ?_
                | refine J.seq ?_
                | refine J.region ?_
                | refine J.block ?_
                | refine J.inBlock ?_
                | refine J.skip ?_
                | refine J.cond_t rfl ?_
                | refine J.cond_f rfl ?_)
            (exact J.ret Tryd.func15 rfl (.cons (.cell 1 rfl rfl rfl) (.cons (.tmp rfl) .nil)) () (by (exact .refl)) [] .nil rfl rfl)
          | false =>
            rw [if_neg (by simpa using hE)] at hG
            repeat (first
                | (refine K.load ?_; (refine JO.q rfl rfl (Nat.le_of_ble_eq_true rfl) (Qt.loadWb rfl (by exact rfl)) ?_))
                | (refine K.move ?_; refine JO.q rfl rfl (Nat.le_of_ble_eq_true rfl) (Qt.move rfl) ?_)
                | (refine K.store ?_; (refine JO.ld (Ld.storeW rfl rfl rfl (by exact rfl) (by exact rfl)) rfl (fun _ => ?_)))
                | (refine K.assign ?_; refine JO.q rfl rfl (Nat.le_of_ble_eq_true rfl) (Qt.assign rfl) ?_)
                | (refine K.binOp ?_; first | refine JO.q rfl rfl (Nat.le_of_ble_eq_true rfl) (Qt.cmp rfl rfl (congrArg some t1)) ?_ | refine JO.q rfl rfl (Nat.le_of_ble_eq_true rfl) (Qt.cmp rfl rfl (congrArg some u1)) ?_ | refine JO.q rfl rfl (Nat.le_of_ble_eq_true rfl) ((Qt.strE rfl rfl).eq (congrArg (fun z => D.c (.v (.bool z))) (hE))) ?_ | refine JO.q rfl rfl (Nat.le_of_ble_eq_true rfl) (Qt.ari rfl rfl rfl (w64 (by omega) (by omega))) ?_)
                | (refine K.call ?_; first | (refine JO.pure (CO) rfl (Nat.le_of_ble_eq_true rfl) rfl ?_ ?_; focus ((repeat (first | exact LeDs.nil | refine LeDs.cons LeD.refl ?_)); done)) | (refine JO.pure (CP) rfl (Nat.le_of_ble_eq_true rfl) rfl ?_ ?_; focus ((repeat (first | exact LeDs.nil | refine LeDs.cons LeD.refl ?_)); done)) | (refine JO.ld (Ld.callW hW (CQ _) (Nat.le_of_ble_eq_true rfl) rfl (.cons .refl (.cons .refl .nil)) rfl) rfl ?_; intro _; simp only [List.cons_append, List.nil_append]) | (refine JO.ld (Ld.pureW hW (CW) (Nat.le_of_ble_eq_true rfl) rfl ?_) rfl (fun _ => ?_); focus ((repeat (first | exact LeDs.nil | refine LeDs.cons (LeD.agg (by repeat (first | exact .nil | refine .cons .refl ?_))) ?_)); done)))
                | (refine K.unOp ?_; refine JO.q rfl rfl (Nat.le_of_ble_eq_true rfl) (Qt.not rfl) ?_)
                | (refine K.extract ?_; refine JO.q rfl rfl (Nat.le_of_ble_eq_true rfl) (Qt.extract rfl rfl) ?_)
                | (refine JO.alloc rfl (Nat.le_of_ble_eq_true rfl) ?_; intro _)
                | (refine K.build ?_; refine JO.q rfl rfl (Nat.le_of_ble_eq_true rfl) (Qt.build rfl (by kernel_rfl)) ?_)
                | refine JO.nil ?_
                | refine J.seq ?_
                | refine J.region ?_
                | refine J.block ?_
                | refine J.inBlock ?_
                | refine J.skip ?_
                | refine J.cond_t rfl ?_
                | refine J.cond_f rfl ?_)
            refine J.drop 0 ?_
            exact (ih ⟨9 + 1, by omega, by omega, hG⟩ (by simp only; omega)).weak ⟨rfl, rfl, rfl, trivial⟩
        · have e1 : Wr.cand (k : Int) r = ⟨k, (Wr.nums r).1, 0, (Wr.nums r).2, [], false⟩ := by unfold Wr.cand; rw [if_neg (by omega), if_neg (by omega)]
          have u2 : ((k : Int) == 9) = false := by rw [beq_eq_false_iff_ne]; omega
          rw [e1] at CW hG
          cases hE : (Wd.op (⟨k, (Wr.nums r).1, 0, (Wr.nums r).2, [], false⟩ : Pn.Op) == s) with
          | true =>
            rw [if_pos (by simpa using hE)] at hG
            subst hG
            repeat (first
                | (refine K.fieldAddr ?_; refine JO.q rfl rfl (Nat.le_of_ble_eq_true rfl) (Qt.fieldAddr rfl rfl) ?_)
                | (refine K.load ?_; (refine JO.q rfl rfl (Nat.le_of_ble_eq_true rfl) (Qt.loadWb rfl (by exact rfl)) ?_))
                | (refine K.move ?_; refine JO.q rfl rfl (Nat.le_of_ble_eq_true rfl) (Qt.move rfl) ?_)
                | (refine K.store ?_; first | refine JO.ld (Ld.storeW rfl rfl rfl (by exact rfl) (by exact rfl)) rfl (fun _ => ?_) | refine JO.ld (Ld.store1 rfl rfl (by exact rfl)) rfl (fun _ => ?_))
                | (refine K.assign ?_; refine JO.q rfl rfl (Nat.le_of_ble_eq_true rfl) (Qt.assign rfl) ?_)
                | (refine K.binOp ?_; first | refine JO.q rfl rfl (Nat.le_of_ble_eq_true rfl) (Qt.cmp rfl rfl (congrArg some t1)) ?_ | refine JO.q rfl rfl (Nat.le_of_ble_eq_true rfl) (Qt.cmp rfl rfl (congrArg some u1)) ?_ | refine JO.q rfl rfl (Nat.le_of_ble_eq_true rfl) (Qt.cmp rfl rfl (congrArg some u2)) ?_ | refine JO.q rfl rfl (Nat.le_of_ble_eq_true rfl) ((Qt.strE rfl rfl).eq (congrArg (fun z => D.c (.v (.bool z))) (hE))) ?_)
                | (refine K.call ?_; first | (refine JO.pure (CO) rfl (Nat.le_of_ble_eq_true rfl) rfl ?_ ?_; focus ((repeat (first | exact LeDs.nil | refine LeDs.cons LeD.refl ?_)); done)) | (refine JO.pure (CP) rfl (Nat.le_of_ble_eq_true rfl) rfl ?_ ?_; focus ((repeat (first | exact LeDs.nil | refine LeDs.cons LeD.refl ?_)); done)) | (refine JO.ld (Ld.pureW hW (CN) (Nat.le_of_ble_eq_true rfl) rfl ?_) rfl (fun _ => ?_); focus ((repeat (first | exact LeDs.nil | refine LeDs.cons LeD.refl ?_)); done)) | (refine JO.ld (Ld.pureW hW (CW) (Nat.le_of_ble_eq_true rfl) rfl ?_) rfl (fun _ => ?_); focus ((repeat (first | exact LeDs.nil | refine LeDs.cons (LeD.agg (by repeat (first | exact .nil | refine .cons .refl ?_ | refine .cons .nil ?_))) ?_)); done)))
                | (refine K.unOp ?_; refine JO.q rfl rfl (Nat.le_of_ble_eq_true rfl) (Qt.not rfl) ?_)
                | (refine K.extract ?_; refine JO.q rfl rfl (Nat.le_of_ble_eq_true rfl) (Qt.extract rfl rfl) ?_)
                | (refine JO.alloc rfl (Nat.le_of_ble_eq_true rfl) ?_; intro _)
                | (refine K.build ?_; refine JO.q rfl rfl (Nat.le_of_ble_eq_true rfl) (Qt.build rfl (by kernel_rfl)) ?_)
                | refine JO.nil ?_
                | refine J.seq ?_
                | refine J.region ?_
                | refine J.block ?_
                | refine J.inBlock ?_
                | refine J.skip ?_
                | refine J.cond_t rfl ?_
                | refine J.cond_f rfl ?_)
            (exact J.ret Tryd.func15 rfl (.cons (.cell 1 rfl rfl rfl) (.cons (.tmp rfl) .nil)) () (by (exact .tup (by repeat (first | exact .nil | refine .cons (.agg (by repeat (first | exact .nil | refine .cons .refl ?_ | refine .cons .nil ?_))) ?_ | refine .cons .refl ?_)))) [] .nil rfl rfl)
          | false =>
            rw [if_neg (by simpa using hE)] at hG
            repeat (first
                | (refine K.fieldAddr ?_; refine JO.q rfl rfl (Nat.le_of_ble_eq_true rfl) (Qt.fieldAddr rfl rfl) ?_)
                | (refine K.load ?_; (refine JO.q rfl rfl (Nat.le_of_ble_eq_true rfl) (Qt.loadWb rfl (by exact rfl)) ?_))
                | (refine K.move ?_; refine JO.q rfl rfl (Nat.le_of_ble_eq_true rfl) (Qt.move rfl) ?_)
                | (refine K.store ?_; first | refine JO.ld (Ld.storeW rfl rfl rfl (by exact rfl) (by exact rfl)) rfl (fun _ => ?_) | refine JO.ld (Ld.store1 rfl rfl (by exact rfl)) rfl (fun _ => ?_))
                | (refine K.assign ?_; refine JO.q rfl rfl (Nat.le_of_ble_eq_true rfl) (Qt.assign rfl) ?_)
                | (refine K.binOp ?_; first | refine JO.q rfl rfl (Nat.le_of_ble_eq_true rfl) (Qt.cmp rfl rfl (congrArg some t1)) ?_ | refine JO.q rfl rfl (Nat.le_of_ble_eq_true rfl) (Qt.cmp rfl rfl (congrArg some u1)) ?_ | refine JO.q rfl rfl (Nat.le_of_ble_eq_true rfl) (Qt.cmp rfl rfl (congrArg some u2)) ?_ | refine JO.q rfl rfl (Nat.le_of_ble_eq_true rfl) ((Qt.strE rfl rfl).eq (congrArg (fun z => D.c (.v (.bool z))) (hE))) ?_ | refine JO.q rfl rfl (Nat.le_of_ble_eq_true rfl) (Qt.ari rfl rfl rfl (w64 (by omega) (by omega))) ?_)
                | (refine K.call ?_; first | (refine JO.pure (CO) rfl (Nat.le_of_ble_eq_true rfl) rfl ?_ ?_; focus ((repeat (first | exact LeDs.nil | refine LeDs.cons LeD.refl ?_)); done)) | (refine JO.pure (CP) rfl (Nat.le_of_ble_eq_true rfl) rfl ?_ ?_; focus ((repeat (first | exact LeDs.nil | refine LeDs.cons LeD.refl ?_)); done)) | (refine JO.ld (Ld.pureW hW (CN) (Nat.le_of_ble_eq_true rfl) rfl ?_) rfl (fun _ => ?_); focus ((repeat (first | exact LeDs.nil | refine LeDs.cons LeD.refl ?_)); done)) | (refine JO.ld (Ld.pureW hW (CW) (Nat.le_of_ble_eq_true rfl) rfl ?_) rfl (fun _ => ?_); focus ((repeat (first | exact LeDs.nil | refine LeDs.cons (LeD.agg (by repeat (first | exact .nil | refine .cons .refl ?_ | refine .cons .nil ?_))) ?_)); done)))
                | (refine K.unOp ?_; refine JO.q rfl rfl (Nat.le_of_ble_eq_true rfl) (Qt.not rfl) ?_)
                | (refine K.extract ?_; refine JO.q rfl rfl (Nat.le_of_ble_eq_true rfl) (Qt.extract rfl rfl) ?_)
                | (refine JO.alloc rfl (Nat.le_of_ble_eq_true rfl) ?_; intro _)
                | (refine K.build ?_; refine JO.q rfl rfl (Nat.le_of_ble_eq_true rfl) (Qt.build rfl (by kernel_rfl)) ?_)
                | refine JO.nil ?_
                | refine J.seq ?_
                | refine J.region ?_
                | refine J.block ?_
                | refine J.inBlock ?_
                | refine J.skip ?_
                | refine J.cond_t rfl ?_
                | refine J.cond_f rfl ?_)
            refine J.drop 0 ?_
            exact (ih ⟨k + 1, by omega, by omega, hG⟩ (by simp only; omega)).weak ⟨rfl, rfl, rfl, trivial⟩
  · obtain rfl : k = 10 := by omega
    rw [Wr.ksF_end, Wr.look] at hG
    subst hG
    repeat (first
        | (refine K.move ?_; refine JO.q rfl rfl (Nat.le_of_ble_eq_true rfl) (Qt.move rfl) ?_)
        | (refine K.store ?_; (refine JO.ld (Ld.storeW rfl rfl rfl (by exact rfl) (by exact rfl)) rfl (fun _ => ?_)))
        | (refine K.assign ?_; refine JO.q rfl rfl (Nat.le_of_ble_eq_true rfl) (Qt.assign rfl) ?_)
        | (refine K.binOp ?_; (refine JO.q rfl rfl (Nat.le_of_ble_eq_true rfl) (Qt.cmp rfl rfl rfl) ?_))
        | (refine K.build ?_; refine JO.q rfl rfl (Nat.le_of_ble_eq_true rfl) (Qt.build rfl (by kernel_rfl)) ?_)
        | refine JO.nil ?_
        | refine J.seq ?_
        | refine J.region ?_
        | refine J.exit rfl ?_
        | refine J.cond_f rfl ?_)
    (exact J.ret Tryd.func15 rfl (.cons (.cell 0 rfl rfl rfl) (.cons (.tmp rfl) .nil)) () (by (exact .tup (by repeat (first | exact .nil | refine .cons (.agg (by repeat (first | exact .nil | refine .cons .refl ?_ | refine .cons .nil ?_))) ?_ | refine .cons .refl ?_)))) [] .nil rfl rfl)
end Fl
end Go.Proofs.YtbjnbngpjdoejaaDoor
namespace Go.Proofs.YtbjnbngpjdoejaaDoor
open Go.RowKit
set_option linter.unusedVariables false
set_option linter.unusedSimpArgs false
set_option linter.unnecessarySimpa false
namespace Fl
section
variable {P : Program} {c : Cx} {k : List Item} {f : Fm} {L : List Res}
theorem St.frzR {pv iv : Value} {e e2 : TypeId} {sz : Nat} {X R : List (List A)} {a : Act} {w : World} (s : St c f (.row pv e 1 (X ++ [[.v iv]]) :: .row iv e2 sz R :: L) a w) : St c f (.row pv e 1 (X ++ [[.r sz R]]) :: L) a w := by
  have hf : ∀ x, x ∈ foots (.row pv e 1 (X ++ [[.r sz R]]) :: L) → x ∈ foots (.row pv e 1 (X ++ [[.v iv]]) :: .row iv e2 sz R :: L) := fun x hx => by
    rw [foots_cons] at hx
    rw [foots_cons, foots_cons]
    rcases hx with hx | hx
    · exact .inl hx
    · exact .inr (.inr hx)
  have mo : Mon (okk c (.row pv e 1 (X ++ [[.v iv]]) :: .row iv e2 sz R :: L)) (okk c (.row pv e 1 (X ++ [[.r sz R]]) :: L)) w w := ⟨Nat.le_refl _, fun g _ hg => ⟨⟨hg.1, fun hx => hg.2 (hf g hx)⟩, rfl⟩⟩
  have ap := s.ap
  unfold Apart at ap
  rw [List.pairwise_cons, List.pairwise_cons] at ap
  obtain ⟨a1, a2, a3⟩ := ap
  obtain ⟨xs, r1, r2⟩ := s.res (.row iv e2 sz R) (by simp)
  have hR : RA (okk c (.row pv e 1 (X ++ [[.r sz R]]) :: L)) w (.r sz R) iv := RA.of_view r1.view (RX.mon mo _ _ r2) fun g hg => ⟨.inr (s.frm g (by rw [foots_cons, foots_cons]; exact .inr (.inl hg))), fun hx => by
    rw [foots_cons] at hx
    rcases hx with hx | hx
    · exact a1 _ (List.mem_cons_self ..) g hx hg
    · obtain ⟨q, hq, hxq⟩ := mem_foots.1 hx
      exact a2 q hq g hg hxq⟩
  refine ⟨s.kp, s.size, s.dfr, fun q hq => ?_, fun x hx => s.frm x (hf x hx), ?_, fun t d ht => RD.mon mo d _ (s.fr t d ht)⟩
  · rcases List.mem_cons.1 hq with rfl | hq
    · obtain ⟨ys, q1, q2⟩ := s.res (.row pv e 1 (X ++ [[.v iv]])) (by simp)
      have hk : (X ++ [[A.v iv]])[X.length]? = some [.v iv] := by simp
      have q3 := RX.mon mo _ _ q2
      have q4 := RX.set X.length 0 q3 hk (by omega) hR
      have hl : (X ++ [[A.v iv]]).set X.length ([A.v iv].set 0 (.r sz R)) = X ++ [[.r sz R]] := by simp
      rw [hl] at q4
      obtain ⟨vs, g1, g2, g3⟩ := RX.get X.length q3 hk
      have hv : ys[X.length * 1 + 0]? = some iv := by
        unfold RC at g3
        obtain ⟨x, xs', rfl, h1, h2⟩ := g3
        unfold RA at h1
        obtain ⟨rfl, _⟩ := h1
        have := g2 0 (by omega)
        simpa using this
      have hy : ys.set (X.length * 1 + 0) iv = ys := by
        apply List.ext_getElem?
        intro m
        rw [List.getElem?_set]
        split
        · rename_i h
          subst h
          split
          · exact hv.symm
          · rename_i h2
            rw [List.getElem?_eq_none (by omega)]
        · rfl
      rw [hy] at q4
      refine ⟨ys, ?_, q4⟩
      have : (X ++ [[A.r sz R]]).length = (X ++ [[A.v iv]]).length := by simp
      rw [this]
      exact q1
    · exact (s.res q (by simp [hq])).mon (Keeps.refl [] w) mo (by simp)
  · refine List.pairwise_cons.2 ⟨fun q hq x hx hx' => a1 q (List.mem_cons_of_mem _ hq) x hx hx', a3⟩
theorem J.frzR {pv iv : Value} {e e2 : TypeId} {sz : Nat} {X R : List (List A)} (h : J P c k f (.row pv e 1 (X ++ [[.r sz R]]) :: L)) : J P c k f (.row pv e 1 (X ++ [[.v iv]]) :: .row iv e2 sz R :: L) := ⟨fun a w s => h.go a w s.frzR⟩
end
end Fl
end Go.Proofs.YtbjnbngpjdoejaaDoor
