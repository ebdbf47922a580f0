/-
  handoffref12: Op, fresh, Clear, Try, Free, Park, Ready, Pair, Serve, Wakes.
  Conditions: none.
-/
import Derived.Test.YtofnbflkhgammaaFr1
namespace Go.Proofs.Ytofnbflkhgammaa
open Go.RowKit
set_option linter.unusedVariables false
set_option linter.unusedSimpArgs false
set_option linter.unnecessarySimpa false
namespace Fl
set_option maxRecDepth 100000
theorem op_at {s : Sx.St} {g : Nat} (h0 : 0 ≤ (Sx.gr s g).at_) (h : (Sx.gr s g).at_ < (Sx.gr s g).ops.length) : ((Sx.gr s g).ops.map eOp)[(Sx.gr s g).at_.toNat]? = some (eOp (Sx.op s g)) := by
  have : (Sx.gr s g).at_.toNat < (Sx.gr s g).ops.length := by omega
  exact at_map (by unfold Sx.op; rw [List.getD_eq_getElem?_getD, List.getElem?_eq_getElem this]; rfl)
theorem op_none {s : Sx.St} {g : Nat} (h0 : 0 ≤ (Sx.gr s g).at_) (h : (Sx.gr s g).ops.length ≤ (Sx.gr s g).at_) : Sx.op s g = Sx.noOp := by
  unfold Sx.op
  rw [List.getD_eq_getElem?_getD, List.getElem?_eq_none (by omega)]; rfl
set_option maxHeartbeats 2000000 in
theorem c_fresh (ops : List Pn.Op) (a : Int) :
    Pure Try.prog 19 [.c (.r 6 (ops.map eOp)), .c (nI a)] (.agg (eG (Sx.clean ops a))) := by
  refine Con.intro Try.func19 rfl rfl rfl (fun ok e => ?_)
  repeat (first
      | (refine K.fieldAddr ?_; refine JO.q rfl rfl (Nat.le_of_ble_eq_true rfl) (Qt.fieldAddr rfl rfl) ?_)
      | (refine K.load ?_; first | refine JO.q rfl rfl (Nat.le_of_ble_eq_true rfl) (Qt.load1 rfl .el rfl) ?_ | refine JO.q rfl rfl (Nat.le_of_ble_eq_true rfl) (Qt.loadW rfl .el rfl) ?_ | refine JO.q rfl rfl (Nat.le_of_ble_eq_true rfl) (Qt.loadN rfl .el rfl rfl) ?_ | refine JO.q rfl rfl (Nat.le_of_ble_eq_true rfl) (Qt.load1b rfl (by exact rfl)) ?_ | refine JO.q rfl rfl (Nat.le_of_ble_eq_true rfl) (Qt.loadWb rfl (by exact rfl)) ?_ | refine JO.q rfl rfl (Nat.le_of_ble_eq_true rfl) (Qt.loadNb rfl (by exact rfl) (by exact rfl)) ?_)
      | (refine K.move ?_; refine JO.q rfl rfl (Nat.le_of_ble_eq_true rfl) (Qt.move rfl) ?_)
      | (refine K.store ?_; first | refine JO.ld (Ld.storeW rfl rfl rfl (by exact rfl) (by exact rfl)) rfl (fun _ => ?_) | refine JO.ld (Ld.store1 rfl rfl (by exact rfl)) rfl (fun _ => ?_) | refine JO.ld (Ld.storeN rfl rfl rfl (by exact rfl) (by exact rfl)) rfl (fun _ => ?_))
      | (refine K.assign ?_; refine JO.q rfl rfl (Nat.le_of_ble_eq_true rfl) (Qt.assign rfl) ?_)
      | (refine K.binOp ?_; first | refine JO.q rfl rfl (Nat.le_of_ble_eq_true rfl) (Qt.cmp rfl rfl rfl) ?_ | refine JO.q rfl rfl (Nat.le_of_ble_eq_true rfl) (Qt.eqB rfl rfl) ?_ | refine JO.q rfl rfl (Nat.le_of_ble_eq_true rfl) (Qt.neB rfl rfl) ?_)
      | (refine K.unOp ?_; refine JO.q rfl rfl (Nat.le_of_ble_eq_true rfl) (Qt.not rfl) ?_)
      | (refine K.bi ?_; first | refine JO.q rfl rfl (Nat.le_of_ble_eq_true rfl) (Qt.lenM rfl) ?_ | refine JO.q rfl rfl (Nat.le_of_ble_eq_true rfl) (Qt.lenR rfl) ?_ | refine JO.q rfl rfl (Nat.le_of_ble_eq_true rfl) (Qt.lenV rfl) ?_ | refine JO.q rfl rfl (Nat.le_of_ble_eq_true rfl) (Qt.lenO rfl) ?_)
      | (refine K.extract ?_; refine JO.q rfl rfl (Nat.le_of_ble_eq_true rfl) (Qt.extract rfl rfl) ?_)
      | (refine JO.alloc rfl (Nat.le_of_ble_eq_true rfl) ?_; intro _)
      | (refine JO.box rfl (Nat.le_of_ble_eq_true rfl) rfl rfl ?_; intro _)
      | (refine K.pick ?_; refine JO.q rfl rfl (Nat.le_of_ble_eq_true rfl) (Qt.pick rfl rfl) ?_)
      | (refine K.build ?_; refine JO.q rfl rfl (Nat.le_of_ble_eq_true rfl) (Qt.build rfl (by kernel_rfl)) ?_)
      | (refine K.lit ?_; first | (refine JO.lit0 rfl (Nat.le_of_ble_eq_true rfl) ?_; intro _) | (refine JO.lit1 rfl (Nat.le_of_ble_eq_true rfl) rfl rfl rfl rfl rfl ?_; intro _))
      | (refine K.nilCheck ?_; refine JO.q rfl rfl (Nat.le_of_ble_eq_true rfl) (Qt.nilCheck rfl rfl) ?_)
      | (refine K.field ?_; refine JO.q rfl rfl (Nat.le_of_ble_eq_true rfl) (Qt.field rfl rfl (by kernel_rfl) rfl) ?_)
      | (refine K.convert ?_; refine JO.q rfl rfl (Nat.le_of_ble_eq_true rfl) (Qt.conv rfl rfl) ?_)
      | refine JO.nil ?_
      | refine J.seq ?_
      | refine J.region ?_
      | refine J.block ?_
      | refine J.inBlock ?_
      | refine J.skip ?_
      | refine J.exit rfl ?_
      | refine J.cond_t rfl ?_
      | refine J.cond_f rfl ?_
      | refine JO.no rfl rfl (Nat.le_of_ble_eq_true rfl) ?_)
  first
    | exact J.ret Try.func19 rfl (.cons (.cell 0 rfl rfl rfl) .nil) () (by first | exact .agg (by repeat (first | exact .nil | refine .cons .refl ?_ | refine .cons .nil ?_ | refine .cons .snoc ?_ | refine .cons .clone ?_)) | exact .refl | exact .c .nil | exact .tup (by repeat (first | exact .nil | refine .cons (.agg (by repeat (first | exact .nil | refine .cons .refl ?_ | refine .cons .nil ?_ | refine .cons .snoc ?_ | refine .cons .clone ?_))) ?_ | refine .cons .refl ?_ | refine .cons (.c .nil) ?_ | refine .cons (.c .snoc) ?_ | refine .cons (.c .clone) ?_))) [] .nil rfl rfl
    | exact J.ret Try.func19 rfl (.cons (.cell 1 rfl rfl rfl) .nil) () (by first | exact .agg (by repeat (first | exact .nil | refine .cons .refl ?_ | refine .cons .nil ?_ | refine .cons .snoc ?_ | refine .cons .clone ?_)) | exact .refl | exact .c .nil | exact .tup (by repeat (first | exact .nil | refine .cons (.agg (by repeat (first | exact .nil | refine .cons .refl ?_ | refine .cons .nil ?_ | refine .cons .snoc ?_ | refine .cons .clone ?_))) ?_ | refine .cons .refl ?_ | refine .cons (.c .nil) ?_ | refine .cons (.c .snoc) ?_ | refine .cons (.c .clone) ?_))) [] .nil rfl rfl
    | exact J.ret Try.func19 rfl (.cons (.cell 2 rfl rfl rfl) .nil) () (by first | exact .agg (by repeat (first | exact .nil | refine .cons .refl ?_ | refine .cons .nil ?_ | refine .cons .snoc ?_ | refine .cons .clone ?_)) | exact .refl | exact .c .nil | exact .tup (by repeat (first | exact .nil | refine .cons (.agg (by repeat (first | exact .nil | refine .cons .refl ?_ | refine .cons .nil ?_ | refine .cons .snoc ?_ | refine .cons .clone ?_))) ?_ | refine .cons .refl ?_ | refine .cons (.c .nil) ?_ | refine .cons (.c .snoc) ?_ | refine .cons (.c .clone) ?_))) [] .nil rfl rfl
    | exact J.ret Try.func19 rfl (.cons (.cell 3 rfl rfl rfl) .nil) () (by first | exact .agg (by repeat (first | exact .nil | refine .cons .refl ?_ | refine .cons .nil ?_ | refine .cons .snoc ?_ | refine .cons .clone ?_)) | exact .refl | exact .c .nil | exact .tup (by repeat (first | exact .nil | refine .cons (.agg (by repeat (first | exact .nil | refine .cons .refl ?_ | refine .cons .nil ?_ | refine .cons .snoc ?_ | refine .cons .clone ?_))) ?_ | refine .cons .refl ?_ | refine .cons (.c .nil) ?_ | refine .cons (.c .snoc) ?_ | refine .cons (.c .clone) ?_))) [] .nil rfl rfl
    | exact J.ret Try.func19 rfl (.cons (.cell 4 rfl rfl rfl) .nil) () (by first | exact .agg (by repeat (first | exact .nil | refine .cons .refl ?_ | refine .cons .nil ?_ | refine .cons .snoc ?_ | refine .cons .clone ?_)) | exact .refl | exact .c .nil | exact .tup (by repeat (first | exact .nil | refine .cons (.agg (by repeat (first | exact .nil | refine .cons .refl ?_ | refine .cons .nil ?_ | refine .cons .snoc ?_ | refine .cons .clone ?_))) ?_ | refine .cons .refl ?_ | refine .cons (.c .nil) ?_ | refine .cons (.c .snoc) ?_ | refine .cons (.c .clone) ?_))) [] .nil rfl rfl
    | exact J.ret Try.func19 rfl (.cons (.cell 5 rfl rfl rfl) .nil) () (by first | exact .agg (by repeat (first | exact .nil | refine .cons .refl ?_ | refine .cons .nil ?_ | refine .cons .snoc ?_ | refine .cons .clone ?_)) | exact .refl | exact .c .nil | exact .tup (by repeat (first | exact .nil | refine .cons (.agg (by repeat (first | exact .nil | refine .cons .refl ?_ | refine .cons .nil ?_ | refine .cons .snoc ?_ | refine .cons .clone ?_))) ?_ | refine .cons .refl ?_ | refine .cons (.c .nil) ?_ | refine .cons (.c .snoc) ?_ | refine .cons (.c .clone) ?_))) [] .nil rfl rfl
    | exact J.ret Try.func19 rfl (.cons (.cell 6 rfl rfl rfl) .nil) () (by first | exact .agg (by repeat (first | exact .nil | refine .cons .refl ?_ | refine .cons .nil ?_ | refine .cons .snoc ?_ | refine .cons .clone ?_)) | exact .refl | exact .c .nil | exact .tup (by repeat (first | exact .nil | refine .cons (.agg (by repeat (first | exact .nil | refine .cons .refl ?_ | refine .cons .nil ?_ | refine .cons .snoc ?_ | refine .cons .clone ?_))) ?_ | refine .cons .refl ?_ | refine .cons (.c .nil) ?_ | refine .cons (.c .snoc) ?_ | refine .cons (.c .clone) ?_))) [] .nil rfl rfl
    | exact J.ret Try.func19 rfl (.cons (.cell 7 rfl rfl rfl) .nil) () (by first | exact .agg (by repeat (first | exact .nil | refine .cons .refl ?_ | refine .cons .nil ?_ | refine .cons .snoc ?_ | refine .cons .clone ?_)) | exact .refl | exact .c .nil | exact .tup (by repeat (first | exact .nil | refine .cons (.agg (by repeat (first | exact .nil | refine .cons .refl ?_ | refine .cons .nil ?_ | refine .cons .snoc ?_ | refine .cons .clone ?_))) ?_ | refine .cons .refl ?_ | refine .cons (.c .nil) ?_ | refine .cons (.c .snoc) ?_ | refine .cons (.c .clone) ?_))) [] .nil rfl rfl
    | exact J.ret Try.func19 rfl (.cons (.cell 8 rfl rfl rfl) .nil) () (by first | exact .agg (by repeat (first | exact .nil | refine .cons .refl ?_ | refine .cons .nil ?_ | refine .cons .snoc ?_ | refine .cons .clone ?_)) | exact .refl | exact .c .nil | exact .tup (by repeat (first | exact .nil | refine .cons (.agg (by repeat (first | exact .nil | refine .cons .refl ?_ | refine .cons .nil ?_ | refine .cons .snoc ?_ | refine .cons .clone ?_))) ?_ | refine .cons .refl ?_ | refine .cons (.c .nil) ?_ | refine .cons (.c .snoc) ?_ | refine .cons (.c .clone) ?_))) [] .nil rfl rfl
end Fl
end Go.Proofs.Ytofnbflkhgammaa
