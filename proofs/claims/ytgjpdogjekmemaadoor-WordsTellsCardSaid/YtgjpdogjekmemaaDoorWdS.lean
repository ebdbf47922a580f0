/-
  The document's words of results.
  Conditions: none.
-/
import Derived.Test.YtgjpdogjekmemaaDoorWdN
import Derived.Test.YtgjpdogjekmemaaDoorWdL
import Derived.Test.YtgjpdogjekmemaaDoorTab
import Derived.Test.YtgjpdogjekmemaaDoorWdR
namespace Go.Proofs.YtgjpdogjekmemaaDoor
open Go.RowKit
set_option linter.unusedVariables false
set_option linter.unusedSimpArgs false
set_option linter.unnecessarySimpa false
namespace Fl
set_option maxRecDepth 100000
theorem code_at {k : Int} (h0 : 0 ≤ k) (h1 : k < 8) : ((Wd.codes.map strV).map fun z => [A.v z])[k.toNat]? = some [sA (Wd.code k)] := by
  have : k.toNat < Wd.codes.length := by show k.toNat < 8; omega
  unfold Wd.code
  rw [List.getElem?_map, List.getElem?_map, List.getElem?_eq_getElem this, List.getD_eq_getElem?_getD, List.getElem?_eq_getElem this]
  rfl
theorem t_rResult (r : Md.Res) (h : isI r.code ∧ isI r.cs ∧ isI r.v ∧ isI r.n) : Pure Tryd.prog 13 [.agg (eRes r)] (.c (sA (Wd.res r))) := by
  obtain ⟨kd, cs, v, okk, n⟩ := r
  simp only at h
  have C1 := t_rnum kd h.1
  have C2 := t_rnum cs h.2.1
  have C3 := t_num v h.2.2.1
  have C4 := t_rnum n h.2.2.2
  have l1 := Lib.itoa_length_le kd h.1.1 h.1.2
  have l2 := Lib.itoa_length_le cs h.2.1.1 h.2.1.2
  have l3 := Lib.itoa_length_le v h.2.2.1.1 h.2.2.1.2
  have l4 := Lib.itoa_length_le n h.2.2.2.1 h.2.2.2.2
  have lk : (Wd.code 1).length = 4 := rfl
  clear h
  refine Con.intro Tryd.func13 rfl rfl rfl (fun ok e => ?_)
  unfold Wd.res
  by_cases hk : 1 ≤ kd ∧ kd ≤ 7
  · rw [if_pos (by exact hk)]
    have HZ : 0 ≤ kd := by omega
    have HX : kd < (((Wd.codes.map strV).map fun z => [A.v z]).length : Int) := by show kd < 8; omega
    have KA := code_at (k := kd) (by omega) (by omega)
    have g1 : decide (kd < 1) = false := decide_eq_false (by omega)
    have g2 : decide (kd > 7) = false := decide_eq_false (by omega)
    by_cases h1 : kd = 1
    · subst h1
      rw [if_pos (by exact rfl)]
      cases c1 : (cs != -1) with
      | true =>
        rw [if_neg (by simpa using c1)]
        cases okk with
        | true =>
          repeat (first
              | (refine K.fieldAddr ?_; refine JO.q rfl rfl (Nat.le_of_ble_eq_true rfl) (Qt.fieldAddr rfl rfl) ?_)
              | (refine K.load ?_; first | (first | refine JO.q rfl rfl (Nat.le_of_ble_eq_true rfl) (Qt.load1o rfl (KA) (by exact rfl)) ?_ | refine JO.q rfl rfl (Nat.le_of_ble_eq_true rfl) (Qt.loadWo rfl (KA) (by exact rfl)) ?_ | refine JO.q rfl rfl (Nat.le_of_ble_eq_true rfl) (Qt.loadNo rfl (KA) (by exact rfl) (by exact rfl)) ?_) | refine JO.q rfl rfl (Nat.le_of_ble_eq_true rfl) (Qt.load1 rfl .el rfl) ?_ | refine JO.q rfl rfl (Nat.le_of_ble_eq_true rfl) (Qt.loadW rfl .el rfl) ?_ | refine JO.q rfl rfl (Nat.le_of_ble_eq_true rfl) (Qt.loadN rfl .el rfl rfl) ?_ | refine JO.q rfl rfl (Nat.le_of_ble_eq_true rfl) (Qt.load1b rfl (by exact rfl)) ?_ | refine JO.q rfl rfl (Nat.le_of_ble_eq_true rfl) (Qt.loadWb rfl (by exact rfl)) ?_ | refine JO.q rfl rfl (Nat.le_of_ble_eq_true rfl) (Qt.loadNb rfl (by exact rfl) (by exact rfl)) ?_)
              | (refine K.move ?_; refine JO.q rfl rfl (Nat.le_of_ble_eq_true rfl) (Qt.move rfl) ?_)
              | (refine K.store ?_; first | refine JO.ld (Ld.storeW rfl rfl rfl (by exact rfl) (by exact rfl)) rfl (fun _ => ?_) | refine JO.ld (Ld.store1 rfl rfl (by exact rfl)) rfl (fun _ => ?_) | refine JO.ld (Ld.storeN rfl rfl rfl (by exact rfl) (by exact rfl)) rfl (fun _ => ?_))
              | (refine K.assign ?_; refine JO.q rfl rfl (Nat.le_of_ble_eq_true rfl) (Qt.assign rfl) ?_)
              | (refine K.indexAddr ?_; refine JO.q rfl rfl (Nat.le_of_ble_eq_true rfl) (Qt.indexO rfl rfl HZ HX) ?_)
              | (refine K.binOp ?_; first | refine JO.q rfl rfl (Nat.le_of_ble_eq_true rfl) (Qt.cmp rfl rfl (congrArg some g1)) ?_ | refine JO.q rfl rfl (Nat.le_of_ble_eq_true rfl) (Qt.cmp rfl rfl (congrArg some g2)) ?_ | refine JO.q rfl rfl (Nat.le_of_ble_eq_true rfl) (Qt.cmp rfl rfl (congrArg some c1)) ?_ | refine JO.q rfl rfl (Nat.le_of_ble_eq_true rfl) (Qt.cat rfl rfl (by first | omega | (simp only [List.length_append, List.length_cons, List.length_nil]; omega))) ?_ | refine JO.q rfl rfl (Nat.le_of_ble_eq_true rfl) (Qt.cmp rfl rfl rfl) ?_ | refine JO.q rfl rfl (Nat.le_of_ble_eq_true rfl) (Qt.eqB rfl rfl) ?_ | refine JO.q rfl rfl (Nat.le_of_ble_eq_true rfl) (Qt.neB rfl rfl) ?_)
              | (refine K.call ?_; first | (refine JO.pure (C2) rfl (Nat.le_of_ble_eq_true rfl) rfl ?_ ?_; focus ((repeat (first | exact LeDs.nil | refine LeDs.cons (LeD.agg (by repeat (first | exact .nil | refine .cons .refl ?_ | refine .cons .nil ?_ | refine .cons .snoc ?_ | refine .cons .clone ?_))) ?_ | refine LeDs.cons LeD.refl ?_ | refine LeDs.cons (LeD.c LeA.nil) ?_ | refine LeDs.cons (LeD.c LeA.snoc) ?_ | refine LeDs.cons (LeD.c LeA.clone) ?_)); done)) | (refine JO.pure (C3) rfl (Nat.le_of_ble_eq_true rfl) rfl ?_ ?_; focus ((repeat (first | exact LeDs.nil | refine LeDs.cons (LeD.agg (by repeat (first | exact .nil | refine .cons .refl ?_ | refine .cons .nil ?_ | refine .cons .snoc ?_ | refine .cons .clone ?_))) ?_ | refine LeDs.cons LeD.refl ?_ | refine LeDs.cons (LeD.c LeA.nil) ?_ | refine LeDs.cons (LeD.c LeA.snoc) ?_ | refine LeDs.cons (LeD.c LeA.clone) ?_)); done)) | (refine JO.pure (C4) rfl (Nat.le_of_ble_eq_true rfl) rfl ?_ ?_; focus ((repeat (first | exact LeDs.nil | refine LeDs.cons (LeD.agg (by repeat (first | exact .nil | refine .cons .refl ?_ | refine .cons .nil ?_ | refine .cons .snoc ?_ | refine .cons .clone ?_))) ?_ | refine LeDs.cons LeD.refl ?_ | refine LeDs.cons (LeD.c LeA.nil) ?_ | refine LeDs.cons (LeD.c LeA.snoc) ?_ | refine LeDs.cons (LeD.c LeA.clone) ?_)); done)))
              | (refine K.unOp ?_; refine JO.q rfl rfl (Nat.le_of_ble_eq_true rfl) (Qt.not rfl) ?_)
              | (refine K.bi ?_; first | refine JO.q rfl rfl (Nat.le_of_ble_eq_true rfl) (Qt.lenM rfl) ?_ | refine JO.q rfl rfl (Nat.le_of_ble_eq_true rfl) (Qt.lenR rfl) ?_ | refine JO.q rfl rfl (Nat.le_of_ble_eq_true rfl) (Qt.lenV rfl) ?_ | refine JO.q rfl rfl (Nat.le_of_ble_eq_true rfl) (Qt.lenO rfl) ?_)
              | (refine K.extract ?_; refine JO.q rfl rfl (Nat.le_of_ble_eq_true rfl) (Qt.extract rfl rfl) ?_)
              | (refine JO.alloc rfl (Nat.le_of_ble_eq_true rfl) ?_; intro _)
              | (refine JO.box rfl (Nat.le_of_ble_eq_true rfl) rfl rfl ?_; intro _)
              | (refine K.pick ?_; refine JO.q rfl rfl (Nat.le_of_ble_eq_true rfl) (Qt.pick rfl rfl) ?_)
              | (refine K.build ?_; refine JO.q rfl rfl (Nat.le_of_ble_eq_true rfl) (Qt.build rfl (by kernel_rfl)) ?_)
              | (refine K.lit ?_; first | (refine JO.ld (Ld.litC 9 (Wd.codes.map strV) ((List.range 8).zip (Wd.codes.map strV)) (fun a => rfl) (fun w => by kernel_rfl) (by decide) rfl rfl (Nat.le_of_ble_eq_true rfl)) rfl ?_; intro _) | (refine JO.lit0 rfl (Nat.le_of_ble_eq_true rfl) ?_; intro _) | (refine JO.lit1 rfl (Nat.le_of_ble_eq_true rfl) rfl rfl rfl rfl rfl ?_; intro _))
              | (refine K.nilCheck ?_; refine JO.q rfl rfl (Nat.le_of_ble_eq_true rfl) (Qt.nilCheck rfl rfl) ?_)
              | (refine K.field ?_; refine JO.q rfl rfl (Nat.le_of_ble_eq_true rfl) (Qt.field rfl rfl (by kernel_rfl) rfl) ?_)
              | (refine K.convert ?_; refine JO.q rfl rfl (Nat.le_of_ble_eq_true rfl) (Qt.conv rfl rfl) ?_)
              | refine JO.nil ?_
              | refine J.seq ?_
              | refine J.region ?_
              | refine J.block ?_
              | refine J.inBlock ?_
              | refine J.skip ?_
              | refine J.exit rfl ?_
              | refine J.cond_t rfl ?_
              | refine J.cond_f rfl ?_
              | refine JO.no rfl rfl (Nat.le_of_ble_eq_true rfl) ?_)
          refine J.ret Tryd.func13 rfl (.cons (.tmp rfl) .nil) () (.of_eq ?_) [] .nil rfl rfl
          simp [Wd.num]; rfl
        | false =>
          repeat (first
              | (refine K.fieldAddr ?_; refine JO.q rfl rfl (Nat.le_of_ble_eq_true rfl) (Qt.fieldAddr rfl rfl) ?_)
              | (refine K.load ?_; first | (first | refine JO.q rfl rfl (Nat.le_of_ble_eq_true rfl) (Qt.load1o rfl (KA) (by exact rfl)) ?_ | refine JO.q rfl rfl (Nat.le_of_ble_eq_true rfl) (Qt.loadWo rfl (KA) (by exact rfl)) ?_ | refine JO.q rfl rfl (Nat.le_of_ble_eq_true rfl) (Qt.loadNo rfl (KA) (by exact rfl) (by exact rfl)) ?_) | refine JO.q rfl rfl (Nat.le_of_ble_eq_true rfl) (Qt.load1 rfl .el rfl) ?_ | refine JO.q rfl rfl (Nat.le_of_ble_eq_true rfl) (Qt.loadW rfl .el rfl) ?_ | refine JO.q rfl rfl (Nat.le_of_ble_eq_true rfl) (Qt.loadN rfl .el rfl rfl) ?_ | refine JO.q rfl rfl (Nat.le_of_ble_eq_true rfl) (Qt.load1b rfl (by exact rfl)) ?_ | refine JO.q rfl rfl (Nat.le_of_ble_eq_true rfl) (Qt.loadWb rfl (by exact rfl)) ?_ | refine JO.q rfl rfl (Nat.le_of_ble_eq_true rfl) (Qt.loadNb rfl (by exact rfl) (by exact rfl)) ?_)
              | (refine K.move ?_; refine JO.q rfl rfl (Nat.le_of_ble_eq_true rfl) (Qt.move rfl) ?_)
              | (refine K.store ?_; first | refine JO.ld (Ld.storeW rfl rfl rfl (by exact rfl) (by exact rfl)) rfl (fun _ => ?_) | refine JO.ld (Ld.store1 rfl rfl (by exact rfl)) rfl (fun _ => ?_) | refine JO.ld (Ld.storeN rfl rfl rfl (by exact rfl) (by exact rfl)) rfl (fun _ => ?_))
              | (refine K.assign ?_; refine JO.q rfl rfl (Nat.le_of_ble_eq_true rfl) (Qt.assign rfl) ?_)
              | (refine K.indexAddr ?_; refine JO.q rfl rfl (Nat.le_of_ble_eq_true rfl) (Qt.indexO rfl rfl HZ HX) ?_)
              | (refine K.binOp ?_; first | refine JO.q rfl rfl (Nat.le_of_ble_eq_true rfl) (Qt.cmp rfl rfl (congrArg some g1)) ?_ | refine JO.q rfl rfl (Nat.le_of_ble_eq_true rfl) (Qt.cmp rfl rfl (congrArg some g2)) ?_ | refine JO.q rfl rfl (Nat.le_of_ble_eq_true rfl) (Qt.cmp rfl rfl (congrArg some c1)) ?_ | refine JO.q rfl rfl (Nat.le_of_ble_eq_true rfl) (Qt.cat rfl rfl (by first | omega | (simp only [List.length_append, List.length_cons, List.length_nil]; omega))) ?_ | refine JO.q rfl rfl (Nat.le_of_ble_eq_true rfl) (Qt.cmp rfl rfl rfl) ?_ | refine JO.q rfl rfl (Nat.le_of_ble_eq_true rfl) (Qt.eqB rfl rfl) ?_ | refine JO.q rfl rfl (Nat.le_of_ble_eq_true rfl) (Qt.neB rfl rfl) ?_)
              | (refine K.call ?_; first | (refine JO.pure (C2) rfl (Nat.le_of_ble_eq_true rfl) rfl ?_ ?_; focus ((repeat (first | exact LeDs.nil | refine LeDs.cons (LeD.agg (by repeat (first | exact .nil | refine .cons .refl ?_ | refine .cons .nil ?_ | refine .cons .snoc ?_ | refine .cons .clone ?_))) ?_ | refine LeDs.cons LeD.refl ?_ | refine LeDs.cons (LeD.c LeA.nil) ?_ | refine LeDs.cons (LeD.c LeA.snoc) ?_ | refine LeDs.cons (LeD.c LeA.clone) ?_)); done)) | (refine JO.pure (C3) rfl (Nat.le_of_ble_eq_true rfl) rfl ?_ ?_; focus ((repeat (first | exact LeDs.nil | refine LeDs.cons (LeD.agg (by repeat (first | exact .nil | refine .cons .refl ?_ | refine .cons .nil ?_ | refine .cons .snoc ?_ | refine .cons .clone ?_))) ?_ | refine LeDs.cons LeD.refl ?_ | refine LeDs.cons (LeD.c LeA.nil) ?_ | refine LeDs.cons (LeD.c LeA.snoc) ?_ | refine LeDs.cons (LeD.c LeA.clone) ?_)); done)) | (refine JO.pure (C4) rfl (Nat.le_of_ble_eq_true rfl) rfl ?_ ?_; focus ((repeat (first | exact LeDs.nil | refine LeDs.cons (LeD.agg (by repeat (first | exact .nil | refine .cons .refl ?_ | refine .cons .nil ?_ | refine .cons .snoc ?_ | refine .cons .clone ?_))) ?_ | refine LeDs.cons LeD.refl ?_ | refine LeDs.cons (LeD.c LeA.nil) ?_ | refine LeDs.cons (LeD.c LeA.snoc) ?_ | refine LeDs.cons (LeD.c LeA.clone) ?_)); done)))
              | (refine K.unOp ?_; refine JO.q rfl rfl (Nat.le_of_ble_eq_true rfl) (Qt.not rfl) ?_)
              | (refine K.bi ?_; first | refine JO.q rfl rfl (Nat.le_of_ble_eq_true rfl) (Qt.lenM rfl) ?_ | refine JO.q rfl rfl (Nat.le_of_ble_eq_true rfl) (Qt.lenR rfl) ?_ | refine JO.q rfl rfl (Nat.le_of_ble_eq_true rfl) (Qt.lenV rfl) ?_ | refine JO.q rfl rfl (Nat.le_of_ble_eq_true rfl) (Qt.lenO rfl) ?_)
              | (refine K.extract ?_; refine JO.q rfl rfl (Nat.le_of_ble_eq_true rfl) (Qt.extract rfl rfl) ?_)
              | (refine JO.alloc rfl (Nat.le_of_ble_eq_true rfl) ?_; intro _)
              | (refine JO.box rfl (Nat.le_of_ble_eq_true rfl) rfl rfl ?_; intro _)
              | (refine K.pick ?_; refine JO.q rfl rfl (Nat.le_of_ble_eq_true rfl) (Qt.pick rfl rfl) ?_)
              | (refine K.build ?_; refine JO.q rfl rfl (Nat.le_of_ble_eq_true rfl) (Qt.build rfl (by kernel_rfl)) ?_)
              | (refine K.lit ?_; first | (refine JO.ld (Ld.litC 9 (Wd.codes.map strV) ((List.range 8).zip (Wd.codes.map strV)) (fun a => rfl) (fun w => by kernel_rfl) (by decide) rfl rfl (Nat.le_of_ble_eq_true rfl)) rfl ?_; intro _) | (refine JO.lit0 rfl (Nat.le_of_ble_eq_true rfl) ?_; intro _) | (refine JO.lit1 rfl (Nat.le_of_ble_eq_true rfl) rfl rfl rfl rfl rfl ?_; intro _))
              | (refine K.nilCheck ?_; refine JO.q rfl rfl (Nat.le_of_ble_eq_true rfl) (Qt.nilCheck rfl rfl) ?_)
              | (refine K.field ?_; refine JO.q rfl rfl (Nat.le_of_ble_eq_true rfl) (Qt.field rfl rfl (by kernel_rfl) rfl) ?_)
              | (refine K.convert ?_; refine JO.q rfl rfl (Nat.le_of_ble_eq_true rfl) (Qt.conv rfl rfl) ?_)
              | refine JO.nil ?_
              | refine J.seq ?_
              | refine J.region ?_
              | refine J.block ?_
              | refine J.inBlock ?_
              | refine J.skip ?_
              | refine J.exit rfl ?_
              | refine J.cond_t rfl ?_
              | refine J.cond_f rfl ?_
              | refine JO.no rfl rfl (Nat.le_of_ble_eq_true rfl) ?_)
          refine J.ret Tryd.func13 rfl (.cons (.tmp rfl) .nil) () (.of_eq ?_) [] .nil rfl rfl
          simp [Wd.num]; rfl
      | false =>
        rw [if_pos (by simpa using c1)]
        cases okk with
        | true =>
          repeat (first
              | (refine K.fieldAddr ?_; refine JO.q rfl rfl (Nat.le_of_ble_eq_true rfl) (Qt.fieldAddr rfl rfl) ?_)
              | (refine K.load ?_; first | (first | refine JO.q rfl rfl (Nat.le_of_ble_eq_true rfl) (Qt.load1o rfl (KA) (by exact rfl)) ?_ | refine JO.q rfl rfl (Nat.le_of_ble_eq_true rfl) (Qt.loadWo rfl (KA) (by exact rfl)) ?_ | refine JO.q rfl rfl (Nat.le_of_ble_eq_true rfl) (Qt.loadNo rfl (KA) (by exact rfl) (by exact rfl)) ?_) | refine JO.q rfl rfl (Nat.le_of_ble_eq_true rfl) (Qt.load1 rfl .el rfl) ?_ | refine JO.q rfl rfl (Nat.le_of_ble_eq_true rfl) (Qt.loadW rfl .el rfl) ?_ | refine JO.q rfl rfl (Nat.le_of_ble_eq_true rfl) (Qt.loadN rfl .el rfl rfl) ?_ | refine JO.q rfl rfl (Nat.le_of_ble_eq_true rfl) (Qt.load1b rfl (by exact rfl)) ?_ | refine JO.q rfl rfl (Nat.le_of_ble_eq_true rfl) (Qt.loadWb rfl (by exact rfl)) ?_ | refine JO.q rfl rfl (Nat.le_of_ble_eq_true rfl) (Qt.loadNb rfl (by exact rfl) (by exact rfl)) ?_)
              | (refine K.move ?_; refine JO.q rfl rfl (Nat.le_of_ble_eq_true rfl) (Qt.move rfl) ?_)
              | (refine K.store ?_; first | refine JO.ld (Ld.storeW rfl rfl rfl (by exact rfl) (by exact rfl)) rfl (fun _ => ?_) | refine JO.ld (Ld.store1 rfl rfl (by exact rfl)) rfl (fun _ => ?_) | refine JO.ld (Ld.storeN rfl rfl rfl (by exact rfl) (by exact rfl)) rfl (fun _ => ?_))
              | (refine K.assign ?_; refine JO.q rfl rfl (Nat.le_of_ble_eq_true rfl) (Qt.assign rfl) ?_)
              | (refine K.indexAddr ?_; refine JO.q rfl rfl (Nat.le_of_ble_eq_true rfl) (Qt.indexO rfl rfl HZ HX) ?_)
              | (refine K.binOp ?_; first | refine JO.q rfl rfl (Nat.le_of_ble_eq_true rfl) (Qt.cmp rfl rfl (congrArg some g1)) ?_ | refine JO.q rfl rfl (Nat.le_of_ble_eq_true rfl) (Qt.cmp rfl rfl (congrArg some g2)) ?_ | refine JO.q rfl rfl (Nat.le_of_ble_eq_true rfl) (Qt.cmp rfl rfl (congrArg some c1)) ?_ | refine JO.q rfl rfl (Nat.le_of_ble_eq_true rfl) (Qt.cat rfl rfl (by first | omega | (simp only [List.length_append, List.length_cons, List.length_nil]; omega))) ?_ | refine JO.q rfl rfl (Nat.le_of_ble_eq_true rfl) (Qt.cmp rfl rfl rfl) ?_ | refine JO.q rfl rfl (Nat.le_of_ble_eq_true rfl) (Qt.eqB rfl rfl) ?_ | refine JO.q rfl rfl (Nat.le_of_ble_eq_true rfl) (Qt.neB rfl rfl) ?_)
              | (refine K.call ?_; first | (refine JO.pure (C3) rfl (Nat.le_of_ble_eq_true rfl) rfl ?_ ?_; focus ((repeat (first | exact LeDs.nil | refine LeDs.cons (LeD.agg (by repeat (first | exact .nil | refine .cons .refl ?_ | refine .cons .nil ?_ | refine .cons .snoc ?_ | refine .cons .clone ?_))) ?_ | refine LeDs.cons LeD.refl ?_ | refine LeDs.cons (LeD.c LeA.nil) ?_ | refine LeDs.cons (LeD.c LeA.snoc) ?_ | refine LeDs.cons (LeD.c LeA.clone) ?_)); done)) | (refine JO.pure (C4) rfl (Nat.le_of_ble_eq_true rfl) rfl ?_ ?_; focus ((repeat (first | exact LeDs.nil | refine LeDs.cons (LeD.agg (by repeat (first | exact .nil | refine .cons .refl ?_ | refine .cons .nil ?_ | refine .cons .snoc ?_ | refine .cons .clone ?_))) ?_ | refine LeDs.cons LeD.refl ?_ | refine LeDs.cons (LeD.c LeA.nil) ?_ | refine LeDs.cons (LeD.c LeA.snoc) ?_ | refine LeDs.cons (LeD.c LeA.clone) ?_)); done)))
              | (refine K.unOp ?_; refine JO.q rfl rfl (Nat.le_of_ble_eq_true rfl) (Qt.not rfl) ?_)
              | (refine K.bi ?_; first | refine JO.q rfl rfl (Nat.le_of_ble_eq_true rfl) (Qt.lenM rfl) ?_ | refine JO.q rfl rfl (Nat.le_of_ble_eq_true rfl) (Qt.lenR rfl) ?_ | refine JO.q rfl rfl (Nat.le_of_ble_eq_true rfl) (Qt.lenV rfl) ?_ | refine JO.q rfl rfl (Nat.le_of_ble_eq_true rfl) (Qt.lenO rfl) ?_)
              | (refine K.extract ?_; refine JO.q rfl rfl (Nat.le_of_ble_eq_true rfl) (Qt.extract rfl rfl) ?_)
              | (refine JO.alloc rfl (Nat.le_of_ble_eq_true rfl) ?_; intro _)
              | (refine JO.box rfl (Nat.le_of_ble_eq_true rfl) rfl rfl ?_; intro _)
              | (refine K.pick ?_; refine JO.q rfl rfl (Nat.le_of_ble_eq_true rfl) (Qt.pick rfl rfl) ?_)
              | (refine K.build ?_; refine JO.q rfl rfl (Nat.le_of_ble_eq_true rfl) (Qt.build rfl (by kernel_rfl)) ?_)
              | (refine K.lit ?_; first | (refine JO.ld (Ld.litC 9 (Wd.codes.map strV) ((List.range 8).zip (Wd.codes.map strV)) (fun a => rfl) (fun w => by kernel_rfl) (by decide) rfl rfl (Nat.le_of_ble_eq_true rfl)) rfl ?_; intro _) | (refine JO.lit0 rfl (Nat.le_of_ble_eq_true rfl) ?_; intro _) | (refine JO.lit1 rfl (Nat.le_of_ble_eq_true rfl) rfl rfl rfl rfl rfl ?_; intro _))
              | (refine K.nilCheck ?_; refine JO.q rfl rfl (Nat.le_of_ble_eq_true rfl) (Qt.nilCheck rfl rfl) ?_)
              | (refine K.field ?_; refine JO.q rfl rfl (Nat.le_of_ble_eq_true rfl) (Qt.field rfl rfl (by kernel_rfl) rfl) ?_)
              | (refine K.convert ?_; refine JO.q rfl rfl (Nat.le_of_ble_eq_true rfl) (Qt.conv rfl rfl) ?_)
              | refine JO.nil ?_
              | refine J.seq ?_
              | refine J.region ?_
              | refine J.block ?_
              | refine J.inBlock ?_
              | refine J.skip ?_
              | refine J.exit rfl ?_
              | refine J.cond_t rfl ?_
              | refine J.cond_f rfl ?_
              | refine JO.no rfl rfl (Nat.le_of_ble_eq_true rfl) ?_)
          refine J.ret Tryd.func13 rfl (.cons (.tmp rfl) .nil) () (.of_eq ?_) [] .nil rfl rfl
          simp [Wd.num]; rfl
        | false =>
          repeat (first
              | (refine K.fieldAddr ?_; refine JO.q rfl rfl (Nat.le_of_ble_eq_true rfl) (Qt.fieldAddr rfl rfl) ?_)
              | (refine K.load ?_; first | (first | refine JO.q rfl rfl (Nat.le_of_ble_eq_true rfl) (Qt.load1o rfl (KA) (by exact rfl)) ?_ | refine JO.q rfl rfl (Nat.le_of_ble_eq_true rfl) (Qt.loadWo rfl (KA) (by exact rfl)) ?_ | refine JO.q rfl rfl (Nat.le_of_ble_eq_true rfl) (Qt.loadNo rfl (KA) (by exact rfl) (by exact rfl)) ?_) | refine JO.q rfl rfl (Nat.le_of_ble_eq_true rfl) (Qt.load1 rfl .el rfl) ?_ | refine JO.q rfl rfl (Nat.le_of_ble_eq_true rfl) (Qt.loadW rfl .el rfl) ?_ | refine JO.q rfl rfl (Nat.le_of_ble_eq_true rfl) (Qt.loadN rfl .el rfl rfl) ?_ | refine JO.q rfl rfl (Nat.le_of_ble_eq_true rfl) (Qt.load1b rfl (by exact rfl)) ?_ | refine JO.q rfl rfl (Nat.le_of_ble_eq_true rfl) (Qt.loadWb rfl (by exact rfl)) ?_ | refine JO.q rfl rfl (Nat.le_of_ble_eq_true rfl) (Qt.loadNb rfl (by exact rfl) (by exact rfl)) ?_)
              | (refine K.move ?_; refine JO.q rfl rfl (Nat.le_of_ble_eq_true rfl) (Qt.move rfl) ?_)
              | (refine K.store ?_; first | refine JO.ld (Ld.storeW rfl rfl rfl (by exact rfl) (by exact rfl)) rfl (fun _ => ?_) | refine JO.ld (Ld.store1 rfl rfl (by exact rfl)) rfl (fun _ => ?_) | refine JO.ld (Ld.storeN rfl rfl rfl (by exact rfl) (by exact rfl)) rfl (fun _ => ?_))
              | (refine K.assign ?_; refine JO.q rfl rfl (Nat.le_of_ble_eq_true rfl) (Qt.assign rfl) ?_)
              | (refine K.indexAddr ?_; refine JO.q rfl rfl (Nat.le_of_ble_eq_true rfl) (Qt.indexO rfl rfl HZ HX) ?_)
              | (refine K.binOp ?_; first | refine JO.q rfl rfl (Nat.le_of_ble_eq_true rfl) (Qt.cmp rfl rfl (congrArg some g1)) ?_ | refine JO.q rfl rfl (Nat.le_of_ble_eq_true rfl) (Qt.cmp rfl rfl (congrArg some g2)) ?_ | refine JO.q rfl rfl (Nat.le_of_ble_eq_true rfl) (Qt.cmp rfl rfl (congrArg some c1)) ?_ | refine JO.q rfl rfl (Nat.le_of_ble_eq_true rfl) (Qt.cat rfl rfl (by first | omega | (simp only [List.length_append, List.length_cons, List.length_nil]; omega))) ?_ | refine JO.q rfl rfl (Nat.le_of_ble_eq_true rfl) (Qt.cmp rfl rfl rfl) ?_ | refine JO.q rfl rfl (Nat.le_of_ble_eq_true rfl) (Qt.eqB rfl rfl) ?_ | refine JO.q rfl rfl (Nat.le_of_ble_eq_true rfl) (Qt.neB rfl rfl) ?_)
              | (refine K.call ?_; first | (refine JO.pure (C3) rfl (Nat.le_of_ble_eq_true rfl) rfl ?_ ?_; focus ((repeat (first | exact LeDs.nil | refine LeDs.cons (LeD.agg (by repeat (first | exact .nil | refine .cons .refl ?_ | refine .cons .nil ?_ | refine .cons .snoc ?_ | refine .cons .clone ?_))) ?_ | refine LeDs.cons LeD.refl ?_ | refine LeDs.cons (LeD.c LeA.nil) ?_ | refine LeDs.cons (LeD.c LeA.snoc) ?_ | refine LeDs.cons (LeD.c LeA.clone) ?_)); done)) | (refine JO.pure (C4) rfl (Nat.le_of_ble_eq_true rfl) rfl ?_ ?_; focus ((repeat (first | exact LeDs.nil | refine LeDs.cons (LeD.agg (by repeat (first | exact .nil | refine .cons .refl ?_ | refine .cons .nil ?_ | refine .cons .snoc ?_ | refine .cons .clone ?_))) ?_ | refine LeDs.cons LeD.refl ?_ | refine LeDs.cons (LeD.c LeA.nil) ?_ | refine LeDs.cons (LeD.c LeA.snoc) ?_ | refine LeDs.cons (LeD.c LeA.clone) ?_)); done)))
              | (refine K.unOp ?_; refine JO.q rfl rfl (Nat.le_of_ble_eq_true rfl) (Qt.not rfl) ?_)
              | (refine K.bi ?_; first | refine JO.q rfl rfl (Nat.le_of_ble_eq_true rfl) (Qt.lenM rfl) ?_ | refine JO.q rfl rfl (Nat.le_of_ble_eq_true rfl) (Qt.lenR rfl) ?_ | refine JO.q rfl rfl (Nat.le_of_ble_eq_true rfl) (Qt.lenV rfl) ?_ | refine JO.q rfl rfl (Nat.le_of_ble_eq_true rfl) (Qt.lenO rfl) ?_)
              | (refine K.extract ?_; refine JO.q rfl rfl (Nat.le_of_ble_eq_true rfl) (Qt.extract rfl rfl) ?_)
              | (refine JO.alloc rfl (Nat.le_of_ble_eq_true rfl) ?_; intro _)
              | (refine JO.box rfl (Nat.le_of_ble_eq_true rfl) rfl rfl ?_; intro _)
              | (refine K.pick ?_; refine JO.q rfl rfl (Nat.le_of_ble_eq_true rfl) (Qt.pick rfl rfl) ?_)
              | (refine K.build ?_; refine JO.q rfl rfl (Nat.le_of_ble_eq_true rfl) (Qt.build rfl (by kernel_rfl)) ?_)
              | (refine K.lit ?_; first | (refine JO.ld (Ld.litC 9 (Wd.codes.map strV) ((List.range 8).zip (Wd.codes.map strV)) (fun a => rfl) (fun w => by kernel_rfl) (by decide) rfl rfl (Nat.le_of_ble_eq_true rfl)) rfl ?_; intro _) | (refine JO.lit0 rfl (Nat.le_of_ble_eq_true rfl) ?_; intro _) | (refine JO.lit1 rfl (Nat.le_of_ble_eq_true rfl) rfl rfl rfl rfl rfl ?_; intro _))
              | (refine K.nilCheck ?_; refine JO.q rfl rfl (Nat.le_of_ble_eq_true rfl) (Qt.nilCheck rfl rfl) ?_)
              | (refine K.field ?_; refine JO.q rfl rfl (Nat.le_of_ble_eq_true rfl) (Qt.field rfl rfl (by kernel_rfl) rfl) ?_)
              | (refine K.convert ?_; refine JO.q rfl rfl (Nat.le_of_ble_eq_true rfl) (Qt.conv rfl rfl) ?_)
              | refine JO.nil ?_
              | refine J.seq ?_
              | refine J.region ?_
              | refine J.block ?_
              | refine J.inBlock ?_
              | refine J.skip ?_
              | refine J.exit rfl ?_
              | refine J.cond_t rfl ?_
              | refine J.cond_f rfl ?_
              | refine JO.no rfl rfl (Nat.le_of_ble_eq_true rfl) ?_)
          refine J.ret Tryd.func13 rfl (.cons (.tmp rfl) .nil) () (.of_eq ?_) [] .nil rfl rfl
          simp [Wd.num]; rfl
    · have t1 : decide (kd > 1) = true := decide_eq_true (by omega)
      rw [if_neg (by exact h1)]
      repeat (first
          | (refine K.fieldAddr ?_; refine JO.q rfl rfl (Nat.le_of_ble_eq_true rfl) (Qt.fieldAddr rfl rfl) ?_)
          | (refine K.load ?_; first | (first | refine JO.q rfl rfl (Nat.le_of_ble_eq_true rfl) (Qt.load1o rfl (KA) (by exact rfl)) ?_ | refine JO.q rfl rfl (Nat.le_of_ble_eq_true rfl) (Qt.loadWo rfl (KA) (by exact rfl)) ?_ | refine JO.q rfl rfl (Nat.le_of_ble_eq_true rfl) (Qt.loadNo rfl (KA) (by exact rfl) (by exact rfl)) ?_) | refine JO.q rfl rfl (Nat.le_of_ble_eq_true rfl) (Qt.load1 rfl .el rfl) ?_ | refine JO.q rfl rfl (Nat.le_of_ble_eq_true rfl) (Qt.loadW rfl .el rfl) ?_ | refine JO.q rfl rfl (Nat.le_of_ble_eq_true rfl) (Qt.loadN rfl .el rfl rfl) ?_ | refine JO.q rfl rfl (Nat.le_of_ble_eq_true rfl) (Qt.load1b rfl (by exact rfl)) ?_ | refine JO.q rfl rfl (Nat.le_of_ble_eq_true rfl) (Qt.loadWb rfl (by exact rfl)) ?_ | refine JO.q rfl rfl (Nat.le_of_ble_eq_true rfl) (Qt.loadNb rfl (by exact rfl) (by exact rfl)) ?_)
          | (refine K.move ?_; refine JO.q rfl rfl (Nat.le_of_ble_eq_true rfl) (Qt.move rfl) ?_)
          | (refine K.store ?_; first | refine JO.ld (Ld.storeW rfl rfl rfl (by exact rfl) (by exact rfl)) rfl (fun _ => ?_) | refine JO.ld (Ld.store1 rfl rfl (by exact rfl)) rfl (fun _ => ?_) | refine JO.ld (Ld.storeN rfl rfl rfl (by exact rfl) (by exact rfl)) rfl (fun _ => ?_))
          | (refine K.assign ?_; refine JO.q rfl rfl (Nat.le_of_ble_eq_true rfl) (Qt.assign rfl) ?_)
          | (refine K.indexAddr ?_; refine JO.q rfl rfl (Nat.le_of_ble_eq_true rfl) (Qt.indexO rfl rfl HZ HX) ?_)
          | (refine K.binOp ?_; first | refine JO.q rfl rfl (Nat.le_of_ble_eq_true rfl) (Qt.cmp rfl rfl (congrArg some g1)) ?_ | refine JO.q rfl rfl (Nat.le_of_ble_eq_true rfl) (Qt.cmp rfl rfl (congrArg some g2)) ?_ | refine JO.q rfl rfl (Nat.le_of_ble_eq_true rfl) (Qt.cmp rfl rfl (congrArg some t1)) ?_ | refine JO.q rfl rfl (Nat.le_of_ble_eq_true rfl) (Qt.cmp rfl rfl rfl) ?_ | refine JO.q rfl rfl (Nat.le_of_ble_eq_true rfl) (Qt.eqB rfl rfl) ?_ | refine JO.q rfl rfl (Nat.le_of_ble_eq_true rfl) (Qt.neB rfl rfl) ?_)
          | (refine K.unOp ?_; refine JO.q rfl rfl (Nat.le_of_ble_eq_true rfl) (Qt.not rfl) ?_)
          | (refine K.bi ?_; first | refine JO.q rfl rfl (Nat.le_of_ble_eq_true rfl) (Qt.lenM rfl) ?_ | refine JO.q rfl rfl (Nat.le_of_ble_eq_true rfl) (Qt.lenR rfl) ?_ | refine JO.q rfl rfl (Nat.le_of_ble_eq_true rfl) (Qt.lenV rfl) ?_ | refine JO.q rfl rfl (Nat.le_of_ble_eq_true rfl) (Qt.lenO rfl) ?_)
          | (refine K.extract ?_; refine JO.q rfl rfl (Nat.le_of_ble_eq_true rfl) (Qt.extract rfl rfl) ?_)
          | (refine JO.alloc rfl (Nat.le_of_ble_eq_true rfl) ?_; intro _)
          | (refine JO.box rfl (Nat.le_of_ble_eq_true rfl) rfl rfl ?_; intro _)
          | (refine K.pick ?_; refine JO.q rfl rfl (Nat.le_of_ble_eq_true rfl) (Qt.pick rfl rfl) ?_)
          | (refine K.build ?_; refine JO.q rfl rfl (Nat.le_of_ble_eq_true rfl) (Qt.build rfl (by kernel_rfl)) ?_)
          | (refine K.lit ?_; first | (refine JO.ld (Ld.litC 9 (Wd.codes.map strV) ((List.range 8).zip (Wd.codes.map strV)) (fun a => rfl) (fun w => by kernel_rfl) (by decide) rfl rfl (Nat.le_of_ble_eq_true rfl)) rfl ?_; intro _) | (refine JO.lit0 rfl (Nat.le_of_ble_eq_true rfl) ?_; intro _) | (refine JO.lit1 rfl (Nat.le_of_ble_eq_true rfl) rfl rfl rfl rfl rfl ?_; intro _))
          | (refine K.nilCheck ?_; refine JO.q rfl rfl (Nat.le_of_ble_eq_true rfl) (Qt.nilCheck rfl rfl) ?_)
          | (refine K.field ?_; refine JO.q rfl rfl (Nat.le_of_ble_eq_true rfl) (Qt.field rfl rfl (by kernel_rfl) rfl) ?_)
          | (refine K.convert ?_; refine JO.q rfl rfl (Nat.le_of_ble_eq_true rfl) (Qt.conv rfl rfl) ?_)
          | refine JO.nil ?_
          | refine J.seq ?_
          | refine J.region ?_
          | refine J.block ?_
          | refine J.inBlock ?_
          | refine J.skip ?_
          | refine J.exit rfl ?_
          | refine J.cond_t rfl ?_
          | refine J.cond_f rfl ?_
          | refine JO.no rfl rfl (Nat.le_of_ble_eq_true rfl) ?_)
      exact J.ret Tryd.func13 rfl (.cons (.tmp rfl) .nil) () (by first | exact .agg (by repeat (first | exact .nil | refine .cons .refl ?_ | refine .cons .nil ?_ | refine .cons .snoc ?_ | refine .cons .clone ?_)) | exact .refl | exact .c .nil | exact .tup (by repeat (first | exact .nil | refine .cons (.agg (by repeat (first | exact .nil | refine .cons .refl ?_ | refine .cons .nil ?_ | refine .cons .snoc ?_ | refine .cons .clone ?_))) ?_ | refine .cons .refl ?_ | refine .cons (.c .nil) ?_ | refine .cons (.c .snoc) ?_ | refine .cons (.c .clone) ?_))) [] .nil rfl rfl
  · rw [if_neg (by exact hk)]
    cases g1 : decide (kd < 1) with
    | true =>
      repeat (first
          | (refine K.fieldAddr ?_; refine JO.q rfl rfl (Nat.le_of_ble_eq_true rfl) (Qt.fieldAddr rfl rfl) ?_)
          | (refine K.load ?_; first | refine JO.q rfl rfl (Nat.le_of_ble_eq_true rfl) (Qt.load1 rfl .el rfl) ?_ | refine JO.q rfl rfl (Nat.le_of_ble_eq_true rfl) (Qt.loadW rfl .el rfl) ?_ | refine JO.q rfl rfl (Nat.le_of_ble_eq_true rfl) (Qt.loadN rfl .el rfl rfl) ?_ | refine JO.q rfl rfl (Nat.le_of_ble_eq_true rfl) (Qt.load1b rfl (by exact rfl)) ?_ | refine JO.q rfl rfl (Nat.le_of_ble_eq_true rfl) (Qt.loadWb rfl (by exact rfl)) ?_ | refine JO.q rfl rfl (Nat.le_of_ble_eq_true rfl) (Qt.loadNb rfl (by exact rfl) (by exact rfl)) ?_)
          | (refine K.move ?_; refine JO.q rfl rfl (Nat.le_of_ble_eq_true rfl) (Qt.move rfl) ?_)
          | (refine K.store ?_; first | refine JO.ld (Ld.storeW rfl rfl rfl (by exact rfl) (by exact rfl)) rfl (fun _ => ?_) | refine JO.ld (Ld.store1 rfl rfl (by exact rfl)) rfl (fun _ => ?_) | refine JO.ld (Ld.storeN rfl rfl rfl (by exact rfl) (by exact rfl)) rfl (fun _ => ?_))
          | (refine K.assign ?_; refine JO.q rfl rfl (Nat.le_of_ble_eq_true rfl) (Qt.assign rfl) ?_)
          | (refine K.binOp ?_; first | refine JO.q rfl rfl (Nat.le_of_ble_eq_true rfl) (Qt.cmp rfl rfl (congrArg some g1)) ?_ | refine JO.q rfl rfl (Nat.le_of_ble_eq_true rfl) (Qt.cat rfl rfl (by first | omega | (simp only [List.length_append, List.length_cons, List.length_nil]; omega))) ?_ | refine JO.q rfl rfl (Nat.le_of_ble_eq_true rfl) (Qt.cmp rfl rfl rfl) ?_ | refine JO.q rfl rfl (Nat.le_of_ble_eq_true rfl) (Qt.eqB rfl rfl) ?_ | refine JO.q rfl rfl (Nat.le_of_ble_eq_true rfl) (Qt.neB rfl rfl) ?_)
          | (refine K.call ?_; first | (refine JO.pure (C1) rfl (Nat.le_of_ble_eq_true rfl) rfl ?_ ?_; focus ((repeat (first | exact LeDs.nil | refine LeDs.cons (LeD.agg (by repeat (first | exact .nil | refine .cons .refl ?_ | refine .cons .nil ?_ | refine .cons .snoc ?_ | refine .cons .clone ?_))) ?_ | refine LeDs.cons LeD.refl ?_ | refine LeDs.cons (LeD.c LeA.nil) ?_ | refine LeDs.cons (LeD.c LeA.snoc) ?_ | refine LeDs.cons (LeD.c LeA.clone) ?_)); done)))
          | (refine K.unOp ?_; refine JO.q rfl rfl (Nat.le_of_ble_eq_true rfl) (Qt.not rfl) ?_)
          | (refine K.bi ?_; first | refine JO.q rfl rfl (Nat.le_of_ble_eq_true rfl) (Qt.lenM rfl) ?_ | refine JO.q rfl rfl (Nat.le_of_ble_eq_true rfl) (Qt.lenR rfl) ?_ | refine JO.q rfl rfl (Nat.le_of_ble_eq_true rfl) (Qt.lenV rfl) ?_ | refine JO.q rfl rfl (Nat.le_of_ble_eq_true rfl) (Qt.lenO rfl) ?_)
          | (refine K.extract ?_; refine JO.q rfl rfl (Nat.le_of_ble_eq_true rfl) (Qt.extract rfl rfl) ?_)
          | (refine JO.alloc rfl (Nat.le_of_ble_eq_true rfl) ?_; intro _)
          | (refine JO.box rfl (Nat.le_of_ble_eq_true rfl) rfl rfl ?_; intro _)
          | (refine K.pick ?_; refine JO.q rfl rfl (Nat.le_of_ble_eq_true rfl) (Qt.pick rfl rfl) ?_)
          | (refine K.build ?_; refine JO.q rfl rfl (Nat.le_of_ble_eq_true rfl) (Qt.build rfl (by kernel_rfl)) ?_)
          | (refine K.lit ?_; first | (refine JO.lit0 rfl (Nat.le_of_ble_eq_true rfl) ?_; intro _) | (refine JO.lit1 rfl (Nat.le_of_ble_eq_true rfl) rfl rfl rfl rfl rfl ?_; intro _))
          | (refine K.nilCheck ?_; refine JO.q rfl rfl (Nat.le_of_ble_eq_true rfl) (Qt.nilCheck rfl rfl) ?_)
          | (refine K.field ?_; refine JO.q rfl rfl (Nat.le_of_ble_eq_true rfl) (Qt.field rfl rfl (by kernel_rfl) rfl) ?_)
          | (refine K.convert ?_; refine JO.q rfl rfl (Nat.le_of_ble_eq_true rfl) (Qt.conv rfl rfl) ?_)
          | refine JO.nil ?_
          | refine J.seq ?_
          | refine J.region ?_
          | refine J.block ?_
          | refine J.inBlock ?_
          | refine J.skip ?_
          | refine J.exit rfl ?_
          | refine J.cond_t rfl ?_
          | refine J.cond_f rfl ?_
          | refine JO.no rfl rfl (Nat.le_of_ble_eq_true rfl) ?_)
      refine J.ret Tryd.func13 rfl (.cons (.tmp rfl) .nil) () (.of_eq ?_) [] .nil rfl rfl
      simp [Wd.num]; rfl
    | false =>
      have g2 : decide (kd > 7) = true := decide_eq_true (by have := of_decide_eq_false g1; omega)
      repeat (first
          | (refine K.fieldAddr ?_; refine JO.q rfl rfl (Nat.le_of_ble_eq_true rfl) (Qt.fieldAddr rfl rfl) ?_)
          | (refine K.load ?_; first | refine JO.q rfl rfl (Nat.le_of_ble_eq_true rfl) (Qt.load1 rfl .el rfl) ?_ | refine JO.q rfl rfl (Nat.le_of_ble_eq_true rfl) (Qt.loadW rfl .el rfl) ?_ | refine JO.q rfl rfl (Nat.le_of_ble_eq_true rfl) (Qt.loadN rfl .el rfl rfl) ?_ | refine JO.q rfl rfl (Nat.le_of_ble_eq_true rfl) (Qt.load1b rfl (by exact rfl)) ?_ | refine JO.q rfl rfl (Nat.le_of_ble_eq_true rfl) (Qt.loadWb rfl (by exact rfl)) ?_ | refine JO.q rfl rfl (Nat.le_of_ble_eq_true rfl) (Qt.loadNb rfl (by exact rfl) (by exact rfl)) ?_)
          | (refine K.move ?_; refine JO.q rfl rfl (Nat.le_of_ble_eq_true rfl) (Qt.move rfl) ?_)
          | (refine K.store ?_; first | refine JO.ld (Ld.storeW rfl rfl rfl (by exact rfl) (by exact rfl)) rfl (fun _ => ?_) | refine JO.ld (Ld.store1 rfl rfl (by exact rfl)) rfl (fun _ => ?_) | refine JO.ld (Ld.storeN rfl rfl rfl (by exact rfl) (by exact rfl)) rfl (fun _ => ?_))
          | (refine K.assign ?_; refine JO.q rfl rfl (Nat.le_of_ble_eq_true rfl) (Qt.assign rfl) ?_)
          | (refine K.binOp ?_; first | refine JO.q rfl rfl (Nat.le_of_ble_eq_true rfl) (Qt.cmp rfl rfl (congrArg some g1)) ?_ | refine JO.q rfl rfl (Nat.le_of_ble_eq_true rfl) (Qt.cmp rfl rfl (congrArg some g2)) ?_ | refine JO.q rfl rfl (Nat.le_of_ble_eq_true rfl) (Qt.cat rfl rfl (by first | omega | (simp only [List.length_append, List.length_cons, List.length_nil]; omega))) ?_ | refine JO.q rfl rfl (Nat.le_of_ble_eq_true rfl) (Qt.cmp rfl rfl rfl) ?_ | refine JO.q rfl rfl (Nat.le_of_ble_eq_true rfl) (Qt.eqB rfl rfl) ?_ | refine JO.q rfl rfl (Nat.le_of_ble_eq_true rfl) (Qt.neB rfl rfl) ?_)
          | (refine K.call ?_; first | (refine JO.pure (C1) rfl (Nat.le_of_ble_eq_true rfl) rfl ?_ ?_; focus ((repeat (first | exact LeDs.nil | refine LeDs.cons (LeD.agg (by repeat (first | exact .nil | refine .cons .refl ?_ | refine .cons .nil ?_ | refine .cons .snoc ?_ | refine .cons .clone ?_))) ?_ | refine LeDs.cons LeD.refl ?_ | refine LeDs.cons (LeD.c LeA.nil) ?_ | refine LeDs.cons (LeD.c LeA.snoc) ?_ | refine LeDs.cons (LeD.c LeA.clone) ?_)); done)))
          | (refine K.unOp ?_; refine JO.q rfl rfl (Nat.le_of_ble_eq_true rfl) (Qt.not rfl) ?_)
          | (refine K.bi ?_; first | refine JO.q rfl rfl (Nat.le_of_ble_eq_true rfl) (Qt.lenM rfl) ?_ | refine JO.q rfl rfl (Nat.le_of_ble_eq_true rfl) (Qt.lenR rfl) ?_ | refine JO.q rfl rfl (Nat.le_of_ble_eq_true rfl) (Qt.lenV rfl) ?_ | refine JO.q rfl rfl (Nat.le_of_ble_eq_true rfl) (Qt.lenO rfl) ?_)
          | (refine K.extract ?_; refine JO.q rfl rfl (Nat.le_of_ble_eq_true rfl) (Qt.extract rfl rfl) ?_)
          | (refine JO.alloc rfl (Nat.le_of_ble_eq_true rfl) ?_; intro _)
          | (refine JO.box rfl (Nat.le_of_ble_eq_true rfl) rfl rfl ?_; intro _)
          | (refine K.pick ?_; refine JO.q rfl rfl (Nat.le_of_ble_eq_true rfl) (Qt.pick rfl rfl) ?_)
          | (refine K.build ?_; refine JO.q rfl rfl (Nat.le_of_ble_eq_true rfl) (Qt.build rfl (by kernel_rfl)) ?_)
          | (refine K.lit ?_; first | (refine JO.lit0 rfl (Nat.le_of_ble_eq_true rfl) ?_; intro _) | (refine JO.lit1 rfl (Nat.le_of_ble_eq_true rfl) rfl rfl rfl rfl rfl ?_; intro _))
          | (refine K.nilCheck ?_; refine JO.q rfl rfl (Nat.le_of_ble_eq_true rfl) (Qt.nilCheck rfl rfl) ?_)
          | (refine K.field ?_; refine JO.q rfl rfl (Nat.le_of_ble_eq_true rfl) (Qt.field rfl rfl (by kernel_rfl) rfl) ?_)
          | (refine K.convert ?_; refine JO.q rfl rfl (Nat.le_of_ble_eq_true rfl) (Qt.conv rfl rfl) ?_)
          | refine JO.nil ?_
          | refine J.seq ?_
          | refine J.region ?_
          | refine J.block ?_
          | refine J.inBlock ?_
          | refine J.skip ?_
          | refine J.exit rfl ?_
          | refine J.cond_t rfl ?_
          | refine J.cond_f rfl ?_
          | refine JO.no rfl rfl (Nat.le_of_ble_eq_true rfl) ?_)
      refine J.ret Tryd.func13 rfl (.cons (.tmp rfl) .nil) () (.of_eq ?_) [] .nil rfl rfl
      simp [Wd.num]; rfl
end Fl
end Go.Proofs.YtgjpdogjekmemaaDoor
