/-
  handoffref12.New, the example, how a machine begins as an argument.
  Conditions: none.
-/
import Derived.Test.YtofnbflkhgammaaFpY
import Derived.Test.YtofnbflkhgammaaFr2
import Derived.Test.YtofnbflkhgammaaRef05C
import Derived.Laws.Pointers
/- FpF -/
namespace Go.Proofs.Ytofnbflkhgammaa
open Go.RowKit
set_option linter.unusedVariables false
set_option linter.unusedSimpArgs false
set_option linter.unnecessarySimpa false
namespace Fl
set_option maxRecDepth 100000
theorem fits_can (s g c : Int) : Po.fits s g c = Sx.can s g c := by
  rfl
set_option maxHeartbeats 2000000 in
theorem c_can05 (s g c : Int) : Pure Try.prog 18 [.c (nI s), .c (nI g), .c (nI c)] (.c (bI (Sx.can s g c))) :=
  Con.plain fun ok e xs hd => by
    obtain rfl := hd.v3
    refine (ref05_can e s g c).mono ?_
    rintro en w' ⟨rfl, rfl⟩
    rw [fits_can]
    exact ⟨_, rfl, Keeps.refl _ _, RD.v rfl⟩
set_option maxHeartbeats 2000000 in
theorem c_wNewPlan (p : List (List Pn.Op)) (sn cn : Int) (d : List Int) (hr : Pn.right p = false) :
    Pure Try.prog 5 [.c (opsA p), .agg [nI sn, nI cn], .c (drs d)] (.tup [.c (.v (.pointer none)), .c (nI 3)]) := by
  have CR := c_wRight p
  rw [hr] at CR
  refine Con.intro Try.func5 rfl rfl rfl (fun ok e => ?_)
  repeat (first
      | (refine K.fieldAddr ?_; refine JO.q rfl rfl (Nat.le_of_ble_eq_true rfl) (Qt.fieldAddr rfl rfl) ?_)
      | (refine K.load ?_; first | refine JO.q rfl rfl (Nat.le_of_ble_eq_true rfl) (Qt.load1 rfl .el rfl) ?_ | refine JO.q rfl rfl (Nat.le_of_ble_eq_true rfl) (Qt.loadW rfl .el rfl) ?_ | refine JO.q rfl rfl (Nat.le_of_ble_eq_true rfl) (Qt.loadN rfl .el rfl rfl) ?_ | refine JO.q rfl rfl (Nat.le_of_ble_eq_true rfl) (Qt.load1b rfl (by exact rfl)) ?_ | refine JO.q rfl rfl (Nat.le_of_ble_eq_true rfl) (Qt.loadWb rfl (by exact rfl)) ?_ | refine JO.q rfl rfl (Nat.le_of_ble_eq_true rfl) (Qt.loadNb rfl (by exact rfl) (by exact rfl)) ?_)
      | (refine K.move ?_; refine JO.q rfl rfl (Nat.le_of_ble_eq_true rfl) (Qt.move rfl) ?_)
      | (refine K.store ?_; first | refine JO.ld (Ld.storeW rfl rfl rfl (by exact rfl) (by exact rfl)) rfl (fun _ => ?_) | refine JO.ld (Ld.store1 rfl rfl (by exact rfl)) rfl (fun _ => ?_) | refine JO.ld (Ld.storeN rfl rfl rfl (by exact rfl) (by exact rfl)) rfl (fun _ => ?_))
      | (refine K.assign ?_; refine JO.q rfl rfl (Nat.le_of_ble_eq_true rfl) (Qt.assign rfl) ?_)
      | (refine K.binOp ?_; first | refine JO.q rfl rfl (Nat.le_of_ble_eq_true rfl) (Qt.cmp rfl rfl rfl) ?_ | refine JO.q rfl rfl (Nat.le_of_ble_eq_true rfl) (Qt.eqB rfl rfl) ?_ | refine JO.q rfl rfl (Nat.le_of_ble_eq_true rfl) (Qt.neB rfl rfl) ?_)
      | (refine K.call ?_; first | (refine JO.pure (CR) rfl (Nat.le_of_ble_eq_true rfl) rfl ?_ ?_; focus ((repeat (first | exact LeDs.nil | refine LeDs.cons (LeD.agg (by repeat (first | exact .nil | refine .cons .refl ?_ | refine .cons .nil ?_ | refine .cons .snoc ?_ | refine .cons .clone ?_))) ?_ | refine LeDs.cons LeD.refl ?_ | refine LeDs.cons (LeD.c LeA.nil) ?_ | refine LeDs.cons (LeD.c LeA.snoc) ?_ | refine LeDs.cons (LeD.c LeA.clone) ?_)); done)))
      | (refine K.unOp ?_; refine JO.q rfl rfl (Nat.le_of_ble_eq_true rfl) (Qt.not rfl) ?_)
      | (refine K.bi ?_; first | refine JO.q rfl rfl (Nat.le_of_ble_eq_true rfl) (Qt.lenM rfl) ?_ | refine JO.q rfl rfl (Nat.le_of_ble_eq_true rfl) (Qt.lenR rfl) ?_ | refine JO.q rfl rfl (Nat.le_of_ble_eq_true rfl) (Qt.lenV rfl) ?_ | refine JO.q rfl rfl (Nat.le_of_ble_eq_true rfl) (Qt.lenO rfl) ?_)
      | (refine K.extract ?_; refine JO.q rfl rfl (Nat.le_of_ble_eq_true rfl) (Qt.extract rfl rfl) ?_)
      | (refine JO.alloc rfl (Nat.le_of_ble_eq_true rfl) ?_; intro _)
      | (refine JO.box rfl (Nat.le_of_ble_eq_true rfl) rfl rfl ?_; intro _)
      | (refine K.pick ?_; refine JO.q rfl rfl (Nat.le_of_ble_eq_true rfl) (Qt.pick rfl rfl) ?_)
      | (refine K.build ?_; refine JO.q rfl rfl (Nat.le_of_ble_eq_true rfl) (Qt.build rfl (by kernel_rfl)) ?_)
      | (refine K.lit ?_; first | (refine JO.lit0 rfl (Nat.le_of_ble_eq_true rfl) ?_; intro _) | (refine JO.lit1 rfl (Nat.le_of_ble_eq_true rfl) rfl rfl rfl rfl rfl ?_; intro _))
      | (refine K.nilCheck ?_; refine JO.q rfl rfl (Nat.le_of_ble_eq_true rfl) (Qt.nilCheck rfl rfl) ?_)
      | (refine K.field ?_; refine JO.q rfl rfl (Nat.le_of_ble_eq_true rfl) (Qt.field rfl rfl (by kernel_rfl) rfl) ?_)
      | (refine K.convert ?_; refine JO.q rfl rfl (Nat.le_of_ble_eq_true rfl) (Qt.conv rfl rfl) ?_)
      | refine JO.nil ?_
      | refine J.seq ?_
      | refine J.region ?_
      | refine J.block ?_
      | refine J.inBlock ?_
      | refine J.skip ?_
      | refine J.exit rfl ?_
      | refine J.cond_t rfl ?_
      | refine J.cond_f rfl ?_
      | refine JO.no rfl rfl (Nat.le_of_ble_eq_true rfl) ?_)
  exact J.ret Try.func5 rfl (.cons (.tmp rfl) (.cons (.tmp rfl) .nil)) () (by first | exact .agg (by repeat (first | exact .nil | refine .cons .refl ?_ | refine .cons .nil ?_ | refine .cons .snoc ?_ | refine .cons .clone ?_)) | exact .refl | exact .c .nil | exact .tup (by repeat (first | exact .nil | refine .cons (.agg (by repeat (first | exact .nil | refine .cons .refl ?_ | refine .cons .nil ?_ | refine .cons .snoc ?_ | refine .cons .clone ?_))) ?_ | refine .cons .refl ?_ | refine .cons (.c .nil) ?_ | refine .cons (.c .snoc) ?_ | refine .cons (.c .clone) ?_))) [] .nil rfl rfl
set_option maxHeartbeats 2000000 in
theorem c_wNewNo (p : List (List Pn.Op)) (sn cn : Int) (d : List Int) (hr : Pn.right p = true) (hc : Sx.can sn p.length cn = false) :
    Pure Try.prog 5 [.c (opsA p), .agg [nI sn, nI cn], .c (drs d)] (.tup [.c (.v (.pointer none)), .c (nI 1)]) := by
  have CR := c_wRight p
  rw [hr] at CR
  have CP := p_newNo sn p.length cn (by rw [fits_can]; exact hc)
  refine Con.intro Try.func5 rfl rfl rfl (fun ok e => ?_)
  repeat (first
      | (refine K.fieldAddr ?_; refine JO.q rfl rfl (Nat.le_of_ble_eq_true rfl) (Qt.fieldAddr rfl rfl) ?_)
      | (refine K.load ?_; first | refine JO.q rfl rfl (Nat.le_of_ble_eq_true rfl) (Qt.load1 rfl .el rfl) ?_ | refine JO.q rfl rfl (Nat.le_of_ble_eq_true rfl) (Qt.loadW rfl .el rfl) ?_ | refine JO.q rfl rfl (Nat.le_of_ble_eq_true rfl) (Qt.loadN rfl .el rfl rfl) ?_ | refine JO.q rfl rfl (Nat.le_of_ble_eq_true rfl) (Qt.load1b rfl (by exact rfl)) ?_ | refine JO.q rfl rfl (Nat.le_of_ble_eq_true rfl) (Qt.loadWb rfl (by exact rfl)) ?_ | refine JO.q rfl rfl (Nat.le_of_ble_eq_true rfl) (Qt.loadNb rfl (by exact rfl) (by exact rfl)) ?_)
      | (refine K.move ?_; refine JO.q rfl rfl (Nat.le_of_ble_eq_true rfl) (Qt.move rfl) ?_)
      | (refine K.store ?_; first | refine JO.ld (Ld.storeW rfl rfl rfl (by exact rfl) (by exact rfl)) rfl (fun _ => ?_) | refine JO.ld (Ld.store1 rfl rfl (by exact rfl)) rfl (fun _ => ?_) | refine JO.ld (Ld.storeN rfl rfl rfl (by exact rfl) (by exact rfl)) rfl (fun _ => ?_))
      | (refine K.assign ?_; refine JO.q rfl rfl (Nat.le_of_ble_eq_true rfl) (Qt.assign rfl) ?_)
      | (refine K.binOp ?_; first | refine JO.q rfl rfl (Nat.le_of_ble_eq_true rfl) (Qt.cmp rfl rfl rfl) ?_ | refine JO.q rfl rfl (Nat.le_of_ble_eq_true rfl) (Qt.eqB rfl rfl) ?_ | refine JO.q rfl rfl (Nat.le_of_ble_eq_true rfl) (Qt.neB rfl rfl) ?_)
      | (refine K.call ?_; first | (refine JO.pure (CR) rfl (Nat.le_of_ble_eq_true rfl) rfl ?_ ?_; focus ((repeat (first | exact LeDs.nil | refine LeDs.cons (LeD.agg (by repeat (first | exact .nil | refine .cons .refl ?_ | refine .cons .nil ?_ | refine .cons .snoc ?_ | refine .cons .clone ?_))) ?_ | refine LeDs.cons LeD.refl ?_ | refine LeDs.cons (LeD.c LeA.nil) ?_ | refine LeDs.cons (LeD.c LeA.snoc) ?_ | refine LeDs.cons (LeD.c LeA.clone) ?_)); done)) | (refine JO.pure (CP) rfl (Nat.le_of_ble_eq_true rfl) rfl ?_ ?_; focus ((repeat (first | exact LeDs.nil | refine LeDs.cons (LeD.agg (by repeat (first | exact .nil | refine .cons .refl ?_ | refine .cons .nil ?_ | refine .cons .snoc ?_ | refine .cons .clone ?_))) ?_ | refine LeDs.cons LeD.refl ?_ | refine LeDs.cons (LeD.c LeA.nil) ?_ | refine LeDs.cons (LeD.c LeA.snoc) ?_ | refine LeDs.cons (LeD.c LeA.clone) ?_)); done)))
      | (refine K.unOp ?_; refine JO.q rfl rfl (Nat.le_of_ble_eq_true rfl) (Qt.not rfl) ?_)
      | (refine K.bi ?_; first | refine JO.q rfl rfl (Nat.le_of_ble_eq_true rfl) (Qt.lenM rfl) ?_ | refine JO.q rfl rfl (Nat.le_of_ble_eq_true rfl) (Qt.lenR rfl) ?_ | refine JO.q rfl rfl (Nat.le_of_ble_eq_true rfl) (Qt.lenV rfl) ?_ | refine JO.q rfl rfl (Nat.le_of_ble_eq_true rfl) (Qt.lenO rfl) ?_)
      | (refine K.extract ?_; refine JO.q rfl rfl (Nat.le_of_ble_eq_true rfl) (Qt.extract rfl rfl) ?_)
      | (refine JO.alloc rfl (Nat.le_of_ble_eq_true rfl) ?_; intro _)
      | (refine JO.box rfl (Nat.le_of_ble_eq_true rfl) rfl rfl ?_; intro _)
      | (refine K.pick ?_; refine JO.q rfl rfl (Nat.le_of_ble_eq_true rfl) (Qt.pick rfl rfl) ?_)
      | (refine K.build ?_; refine JO.q rfl rfl (Nat.le_of_ble_eq_true rfl) (Qt.build rfl (by kernel_rfl)) ?_)
      | (refine K.lit ?_; first | (refine JO.lit0 rfl (Nat.le_of_ble_eq_true rfl) ?_; intro _) | (refine JO.lit1 rfl (Nat.le_of_ble_eq_true rfl) rfl rfl rfl rfl rfl ?_; intro _))
      | (refine K.nilCheck ?_; refine JO.q rfl rfl (Nat.le_of_ble_eq_true rfl) (Qt.nilCheck rfl rfl) ?_)
      | (refine K.field ?_; refine JO.q rfl rfl (Nat.le_of_ble_eq_true rfl) (Qt.field rfl rfl (by kernel_rfl) rfl) ?_)
      | (refine K.convert ?_; refine JO.q rfl rfl (Nat.le_of_ble_eq_true rfl) (Qt.conv rfl rfl) ?_)
      | refine JO.nil ?_
      | refine J.seq ?_
      | refine J.region ?_
      | refine J.block ?_
      | refine J.inBlock ?_
      | refine J.skip ?_
      | refine J.exit rfl ?_
      | refine J.cond_t rfl ?_
      | refine J.cond_f rfl ?_
      | refine JO.no rfl rfl (Nat.le_of_ble_eq_true rfl) ?_)
  exact J.ret Try.func5 rfl (.cons (.tmp rfl) (.cons (.tmp rfl) .nil)) () (by first | exact .agg (by repeat (first | exact .nil | refine .cons .refl ?_ | refine .cons .nil ?_ | refine .cons .snoc ?_ | refine .cons .clone ?_)) | exact .refl | exact .c .nil | exact .tup (by repeat (first | exact .nil | refine .cons (.agg (by repeat (first | exact .nil | refine .cons .refl ?_ | refine .cons .nil ?_ | refine .cons .snoc ?_ | refine .cons .clone ?_))) ?_ | refine .cons .refl ?_ | refine .cons (.c .nil) ?_ | refine .cons (.c .snoc) ?_ | refine .cons (.c .clone) ?_))) [] .nil rfl rfl
def mkN (sn : Nat) (cn : Int) (d : List Int) (g su k : A) : List A := [nI sn, nI cn, nI 0, g, .v (.slice none 0 0), su, k, .v (.slice none 0 0), nI 0, drs d, nI 0, .v (.slice none 0 0)]
set_option maxHeartbeats 2000000 in
theorem c_new (p : List (List Pn.Op)) (sn cn : Int) (d : List Int) :
    Pure Try.prog 6 [.c (opsA p), .agg [nI sn, nI cn], .c (drs d)] (.tup [.agg (eSt (Sx.new p sn cn d).1), .c (nI (Sx.new p sn cn d).2)]) := by
  have CR := c_right10 p
  have CC := c_can05 sn p.length cn
  cases hr : Pn.right p with
  | false =>
    have e1 : Sx.new p sn cn d = (Sx.noSt, 3) := by unfold Sx.new; rw [if_pos hr]
    rw [e1]
    rw [hr] at CR
    refine Con.intro Try.func6 rfl rfl rfl (fun ok e => ?_)
    repeat (first
        | (refine K.fieldAddr ?_; refine JO.q rfl rfl (Nat.le_of_ble_eq_true rfl) (Qt.fieldAddr rfl rfl) ?_)
        | (refine K.load ?_; first | refine JO.q rfl rfl (Nat.le_of_ble_eq_true rfl) (Qt.load1 rfl .el rfl) ?_ | refine JO.q rfl rfl (Nat.le_of_ble_eq_true rfl) (Qt.loadW rfl .el rfl) ?_ | refine JO.q rfl rfl (Nat.le_of_ble_eq_true rfl) (Qt.loadN rfl .el rfl rfl) ?_ | refine JO.q rfl rfl (Nat.le_of_ble_eq_true rfl) (Qt.load1b rfl (by exact rfl)) ?_ | refine JO.q rfl rfl (Nat.le_of_ble_eq_true rfl) (Qt.loadWb rfl (by exact rfl)) ?_ | refine JO.q rfl rfl (Nat.le_of_ble_eq_true rfl) (Qt.loadNb rfl (by exact rfl) (by exact rfl)) ?_)
        | (refine K.move ?_; refine JO.q rfl rfl (Nat.le_of_ble_eq_true rfl) (Qt.move rfl) ?_)
        | (refine K.store ?_; first | refine JO.ld (Ld.storeW rfl rfl rfl (by exact rfl) (by exact rfl)) rfl (fun _ => ?_) | refine JO.ld (Ld.store1 rfl rfl (by exact rfl)) rfl (fun _ => ?_) | refine JO.ld (Ld.storeN rfl rfl rfl (by exact rfl) (by exact rfl)) rfl (fun _ => ?_))
        | (refine K.assign ?_; refine JO.q rfl rfl (Nat.le_of_ble_eq_true rfl) (Qt.assign rfl) ?_)
        | (refine K.binOp ?_; first | refine JO.q rfl rfl (Nat.le_of_ble_eq_true rfl) (Qt.cmp rfl rfl rfl) ?_ | refine JO.q rfl rfl (Nat.le_of_ble_eq_true rfl) (Qt.eqB rfl rfl) ?_ | refine JO.q rfl rfl (Nat.le_of_ble_eq_true rfl) (Qt.neB rfl rfl) ?_)
        | (refine K.call ?_; first | (refine JO.pure (CR) rfl (Nat.le_of_ble_eq_true rfl) rfl ?_ ?_; focus ((repeat (first | exact LeDs.nil | refine LeDs.cons (LeD.agg (by repeat (first | exact .nil | refine .cons .refl ?_ | refine .cons .nil ?_ | refine .cons .snoc ?_ | refine .cons .clone ?_))) ?_ | refine LeDs.cons LeD.refl ?_ | refine LeDs.cons (LeD.c LeA.nil) ?_ | refine LeDs.cons (LeD.c LeA.snoc) ?_ | refine LeDs.cons (LeD.c LeA.clone) ?_)); done)))
        | (refine K.unOp ?_; refine JO.q rfl rfl (Nat.le_of_ble_eq_true rfl) (Qt.not rfl) ?_)
        | (refine K.bi ?_; first | refine JO.q rfl rfl (Nat.le_of_ble_eq_true rfl) (Qt.lenM rfl) ?_ | refine JO.q rfl rfl (Nat.le_of_ble_eq_true rfl) (Qt.lenR rfl) ?_ | refine JO.q rfl rfl (Nat.le_of_ble_eq_true rfl) (Qt.lenV rfl) ?_ | refine JO.q rfl rfl (Nat.le_of_ble_eq_true rfl) (Qt.lenO rfl) ?_)
        | (refine K.extract ?_; refine JO.q rfl rfl (Nat.le_of_ble_eq_true rfl) (Qt.extract rfl rfl) ?_)
        | (refine JO.alloc rfl (Nat.le_of_ble_eq_true rfl) ?_; intro _)
        | (refine JO.box rfl (Nat.le_of_ble_eq_true rfl) rfl rfl ?_; intro _)
        | (refine K.pick ?_; refine JO.q rfl rfl (Nat.le_of_ble_eq_true rfl) (Qt.pick rfl rfl) ?_)
        | (refine K.build ?_; refine JO.q rfl rfl (Nat.le_of_ble_eq_true rfl) (Qt.build rfl (by kernel_rfl)) ?_)
        | (refine K.lit ?_; first | (refine JO.lit0 rfl (Nat.le_of_ble_eq_true rfl) ?_; intro _) | (refine JO.lit1 rfl (Nat.le_of_ble_eq_true rfl) rfl rfl rfl rfl rfl ?_; intro _))
        | (refine K.nilCheck ?_; refine JO.q rfl rfl (Nat.le_of_ble_eq_true rfl) (Qt.nilCheck rfl rfl) ?_)
        | (refine K.field ?_; refine JO.q rfl rfl (Nat.le_of_ble_eq_true rfl) (Qt.field rfl rfl (by kernel_rfl) rfl) ?_)
        | (refine K.convert ?_; refine JO.q rfl rfl (Nat.le_of_ble_eq_true rfl) (Qt.conv rfl rfl) ?_)
        | refine JO.nil ?_
        | refine J.seq ?_
        | refine J.region ?_
        | refine J.block ?_
        | refine J.inBlock ?_
        | refine J.skip ?_
        | refine J.exit rfl ?_
        | refine J.cond_t rfl ?_
        | refine J.cond_f rfl ?_
        | refine JO.no rfl rfl (Nat.le_of_ble_eq_true rfl) ?_)
    first
      | exact J.ret Try.func6 rfl (.cons (.cell 0 rfl rfl rfl) (.cons (.tmp rfl) .nil)) () (by first | exact .agg (by repeat (first | exact .nil | refine .cons .refl ?_ | refine .cons .nil ?_ | refine .cons .snoc ?_ | refine .cons .clone ?_)) | exact .refl | exact .c .nil | exact .tup (by repeat (first | exact .nil | refine .cons (.agg (by repeat (first | exact .nil | refine .cons .refl ?_ | refine .cons .nil ?_ | refine .cons .snoc ?_ | refine .cons .clone ?_))) ?_ | refine .cons .refl ?_ | refine .cons (.c .nil) ?_ | refine .cons (.c .snoc) ?_ | refine .cons (.c .clone) ?_))) [] .nil rfl rfl
      | exact J.ret Try.func6 rfl (.cons (.cell 1 rfl rfl rfl) (.cons (.tmp rfl) .nil)) () (by first | exact .agg (by repeat (first | exact .nil | refine .cons .refl ?_ | refine .cons .nil ?_ | refine .cons .snoc ?_ | refine .cons .clone ?_)) | exact .refl | exact .c .nil | exact .tup (by repeat (first | exact .nil | refine .cons (.agg (by repeat (first | exact .nil | refine .cons .refl ?_ | refine .cons .nil ?_ | refine .cons .snoc ?_ | refine .cons .clone ?_))) ?_ | refine .cons .refl ?_ | refine .cons (.c .nil) ?_ | refine .cons (.c .snoc) ?_ | refine .cons (.c .clone) ?_))) [] .nil rfl rfl
      | exact J.ret Try.func6 rfl (.cons (.cell 2 rfl rfl rfl) (.cons (.tmp rfl) .nil)) () (by first | exact .agg (by repeat (first | exact .nil | refine .cons .refl ?_ | refine .cons .nil ?_ | refine .cons .snoc ?_ | refine .cons .clone ?_)) | exact .refl | exact .c .nil | exact .tup (by repeat (first | exact .nil | refine .cons (.agg (by repeat (first | exact .nil | refine .cons .refl ?_ | refine .cons .nil ?_ | refine .cons .snoc ?_ | refine .cons .clone ?_))) ?_ | refine .cons .refl ?_ | refine .cons (.c .nil) ?_ | refine .cons (.c .snoc) ?_ | refine .cons (.c .clone) ?_))) [] .nil rfl rfl
      | exact J.ret Try.func6 rfl (.cons (.cell 3 rfl rfl rfl) (.cons (.tmp rfl) .nil)) () (by first | exact .agg (by repeat (first | exact .nil | refine .cons .refl ?_ | refine .cons .nil ?_ | refine .cons .snoc ?_ | refine .cons .clone ?_)) | exact .refl | exact .c .nil | exact .tup (by repeat (first | exact .nil | refine .cons (.agg (by repeat (first | exact .nil | refine .cons .refl ?_ | refine .cons .nil ?_ | refine .cons .snoc ?_ | refine .cons .clone ?_))) ?_ | refine .cons .refl ?_ | refine .cons (.c .nil) ?_ | refine .cons (.c .snoc) ?_ | refine .cons (.c .clone) ?_))) [] .nil rfl rfl
      | exact J.ret Try.func6 rfl (.cons (.cell 4 rfl rfl rfl) (.cons (.tmp rfl) .nil)) () (by first | exact .agg (by repeat (first | exact .nil | refine .cons .refl ?_ | refine .cons .nil ?_ | refine .cons .snoc ?_ | refine .cons .clone ?_)) | exact .refl | exact .c .nil | exact .tup (by repeat (first | exact .nil | refine .cons (.agg (by repeat (first | exact .nil | refine .cons .refl ?_ | refine .cons .nil ?_ | refine .cons .snoc ?_ | refine .cons .clone ?_))) ?_ | refine .cons .refl ?_ | refine .cons (.c .nil) ?_ | refine .cons (.c .snoc) ?_ | refine .cons (.c .clone) ?_))) [] .nil rfl rfl
      | exact J.ret Try.func6 rfl (.cons (.cell 5 rfl rfl rfl) (.cons (.tmp rfl) .nil)) () (by first | exact .agg (by repeat (first | exact .nil | refine .cons .refl ?_ | refine .cons .nil ?_ | refine .cons .snoc ?_ | refine .cons .clone ?_)) | exact .refl | exact .c .nil | exact .tup (by repeat (first | exact .nil | refine .cons (.agg (by repeat (first | exact .nil | refine .cons .refl ?_ | refine .cons .nil ?_ | refine .cons .snoc ?_ | refine .cons .clone ?_))) ?_ | refine .cons .refl ?_ | refine .cons (.c .nil) ?_ | refine .cons (.c .snoc) ?_ | refine .cons (.c .clone) ?_))) [] .nil rfl rfl
      | exact J.ret Try.func6 rfl (.cons (.cell 6 rfl rfl rfl) (.cons (.tmp rfl) .nil)) () (by first | exact .agg (by repeat (first | exact .nil | refine .cons .refl ?_ | refine .cons .nil ?_ | refine .cons .snoc ?_ | refine .cons .clone ?_)) | exact .refl | exact .c .nil | exact .tup (by repeat (first | exact .nil | refine .cons (.agg (by repeat (first | exact .nil | refine .cons .refl ?_ | refine .cons .nil ?_ | refine .cons .snoc ?_ | refine .cons .clone ?_))) ?_ | refine .cons .refl ?_ | refine .cons (.c .nil) ?_ | refine .cons (.c .snoc) ?_ | refine .cons (.c .clone) ?_))) [] .nil rfl rfl
      | exact J.ret Try.func6 rfl (.cons (.cell 7 rfl rfl rfl) (.cons (.tmp rfl) .nil)) () (by first | exact .agg (by repeat (first | exact .nil | refine .cons .refl ?_ | refine .cons .nil ?_ | refine .cons .snoc ?_ | refine .cons .clone ?_)) | exact .refl | exact .c .nil | exact .tup (by repeat (first | exact .nil | refine .cons (.agg (by repeat (first | exact .nil | refine .cons .refl ?_ | refine .cons .nil ?_ | refine .cons .snoc ?_ | refine .cons .clone ?_))) ?_ | refine .cons .refl ?_ | refine .cons (.c .nil) ?_ | refine .cons (.c .snoc) ?_ | refine .cons (.c .clone) ?_))) [] .nil rfl rfl
      | exact J.ret Try.func6 rfl (.cons (.cell 8 rfl rfl rfl) (.cons (.tmp rfl) .nil)) () (by first | exact .agg (by repeat (first | exact .nil | refine .cons .refl ?_ | refine .cons .nil ?_ | refine .cons .snoc ?_ | refine .cons .clone ?_)) | exact .refl | exact .c .nil | exact .tup (by repeat (first | exact .nil | refine .cons (.agg (by repeat (first | exact .nil | refine .cons .refl ?_ | refine .cons .nil ?_ | refine .cons .snoc ?_ | refine .cons .clone ?_))) ?_ | refine .cons .refl ?_ | refine .cons (.c .nil) ?_ | refine .cons (.c .snoc) ?_ | refine .cons (.c .clone) ?_))) [] .nil rfl rfl
  | true =>
    rw [hr] at CR
    cases hc : Sx.can sn p.length cn with
    | false =>
      have e1 : Sx.new p sn cn d = (Sx.noSt, 1) := by unfold Sx.new; rw [if_neg (by simp [hr]), if_pos hc]
      rw [e1]
      rw [hc] at CC
      refine Con.intro Try.func6 rfl rfl rfl (fun ok e => ?_)
      repeat (first
          | (refine K.fieldAddr ?_; refine JO.q rfl rfl (Nat.le_of_ble_eq_true rfl) (Qt.fieldAddr rfl rfl) ?_)
          | (refine K.load ?_; first | refine JO.q rfl rfl (Nat.le_of_ble_eq_true rfl) (Qt.load1 rfl .el rfl) ?_ | refine JO.q rfl rfl (Nat.le_of_ble_eq_true rfl) (Qt.loadW rfl .el rfl) ?_ | refine JO.q rfl rfl (Nat.le_of_ble_eq_true rfl) (Qt.loadN rfl .el rfl rfl) ?_ | refine JO.q rfl rfl (Nat.le_of_ble_eq_true rfl) (Qt.load1b rfl (by exact rfl)) ?_ | refine JO.q rfl rfl (Nat.le_of_ble_eq_true rfl) (Qt.loadWb rfl (by exact rfl)) ?_ | refine JO.q rfl rfl (Nat.le_of_ble_eq_true rfl) (Qt.loadNb rfl (by exact rfl) (by exact rfl)) ?_)
          | (refine K.move ?_; refine JO.q rfl rfl (Nat.le_of_ble_eq_true rfl) (Qt.move rfl) ?_)
          | (refine K.store ?_; first | refine JO.ld (Ld.storeW rfl rfl rfl (by exact rfl) (by exact rfl)) rfl (fun _ => ?_) | refine JO.ld (Ld.store1 rfl rfl (by exact rfl)) rfl (fun _ => ?_) | refine JO.ld (Ld.storeN rfl rfl rfl (by exact rfl) (by exact rfl)) rfl (fun _ => ?_))
          | (refine K.assign ?_; refine JO.q rfl rfl (Nat.le_of_ble_eq_true rfl) (Qt.assign rfl) ?_)
          | (refine K.binOp ?_; first | refine JO.q rfl rfl (Nat.le_of_ble_eq_true rfl) (Qt.cmp rfl rfl rfl) ?_ | refine JO.q rfl rfl (Nat.le_of_ble_eq_true rfl) (Qt.eqB rfl rfl) ?_ | refine JO.q rfl rfl (Nat.le_of_ble_eq_true rfl) (Qt.neB rfl rfl) ?_)
          | (refine K.call ?_; first | (refine JO.pure (CR) rfl (Nat.le_of_ble_eq_true rfl) rfl ?_ ?_; focus ((repeat (first | exact LeDs.nil | refine LeDs.cons (LeD.agg (by repeat (first | exact .nil | refine .cons .refl ?_ | refine .cons .nil ?_ | refine .cons .snoc ?_ | refine .cons .clone ?_))) ?_ | refine LeDs.cons LeD.refl ?_ | refine LeDs.cons (LeD.c LeA.nil) ?_ | refine LeDs.cons (LeD.c LeA.snoc) ?_ | refine LeDs.cons (LeD.c LeA.clone) ?_)); done)) | (refine JO.pure (CC) rfl (Nat.le_of_ble_eq_true rfl) rfl ?_ ?_; focus ((repeat (first | exact LeDs.nil | refine LeDs.cons (LeD.agg (by repeat (first | exact .nil | refine .cons .refl ?_ | refine .cons .nil ?_ | refine .cons .snoc ?_ | refine .cons .clone ?_))) ?_ | refine LeDs.cons LeD.refl ?_ | refine LeDs.cons (LeD.c LeA.nil) ?_ | refine LeDs.cons (LeD.c LeA.snoc) ?_ | refine LeDs.cons (LeD.c LeA.clone) ?_)); done)))
          | (refine K.unOp ?_; refine JO.q rfl rfl (Nat.le_of_ble_eq_true rfl) (Qt.not rfl) ?_)
          | (refine K.bi ?_; first | refine JO.q rfl rfl (Nat.le_of_ble_eq_true rfl) (Qt.lenM rfl) ?_ | refine JO.q rfl rfl (Nat.le_of_ble_eq_true rfl) (Qt.lenR rfl) ?_ | refine JO.q rfl rfl (Nat.le_of_ble_eq_true rfl) (Qt.lenV rfl) ?_ | refine JO.q rfl rfl (Nat.le_of_ble_eq_true rfl) (Qt.lenO rfl) ?_)
          | (refine K.extract ?_; refine JO.q rfl rfl (Nat.le_of_ble_eq_true rfl) (Qt.extract rfl rfl) ?_)
          | (refine JO.alloc rfl (Nat.le_of_ble_eq_true rfl) ?_; intro _)
          | (refine JO.box rfl (Nat.le_of_ble_eq_true rfl) rfl rfl ?_; intro _)
          | (refine K.pick ?_; refine JO.q rfl rfl (Nat.le_of_ble_eq_true rfl) (Qt.pick rfl rfl) ?_)
          | (refine K.build ?_; refine JO.q rfl rfl (Nat.le_of_ble_eq_true rfl) (Qt.build rfl (by kernel_rfl)) ?_)
          | (refine K.lit ?_; first | (refine JO.lit0 rfl (Nat.le_of_ble_eq_true rfl) ?_; intro _) | (refine JO.lit1 rfl (Nat.le_of_ble_eq_true rfl) rfl rfl rfl rfl rfl ?_; intro _))
          | (refine K.nilCheck ?_; refine JO.q rfl rfl (Nat.le_of_ble_eq_true rfl) (Qt.nilCheck rfl rfl) ?_)
          | (refine K.field ?_; refine JO.q rfl rfl (Nat.le_of_ble_eq_true rfl) (Qt.field rfl rfl (by kernel_rfl) rfl) ?_)
          | (refine K.convert ?_; refine JO.q rfl rfl (Nat.le_of_ble_eq_true rfl) (Qt.conv rfl rfl) ?_)
          | refine JO.nil ?_
          | refine J.seq ?_
          | refine J.region ?_
          | refine J.block ?_
          | refine J.inBlock ?_
          | refine J.skip ?_
          | refine J.exit rfl ?_
          | refine J.cond_t rfl ?_
          | refine J.cond_f rfl ?_
          | refine JO.no rfl rfl (Nat.le_of_ble_eq_true rfl) ?_)
      first
        | exact J.ret Try.func6 rfl (.cons (.cell 0 rfl rfl rfl) (.cons (.tmp rfl) .nil)) () (by first | exact .agg (by repeat (first | exact .nil | refine .cons .refl ?_ | refine .cons .nil ?_ | refine .cons .snoc ?_ | refine .cons .clone ?_)) | exact .refl | exact .c .nil | exact .tup (by repeat (first | exact .nil | refine .cons (.agg (by repeat (first | exact .nil | refine .cons .refl ?_ | refine .cons .nil ?_ | refine .cons .snoc ?_ | refine .cons .clone ?_))) ?_ | refine .cons .refl ?_ | refine .cons (.c .nil) ?_ | refine .cons (.c .snoc) ?_ | refine .cons (.c .clone) ?_))) [] .nil rfl rfl
        | exact J.ret Try.func6 rfl (.cons (.cell 1 rfl rfl rfl) (.cons (.tmp rfl) .nil)) () (by first | exact .agg (by repeat (first | exact .nil | refine .cons .refl ?_ | refine .cons .nil ?_ | refine .cons .snoc ?_ | refine .cons .clone ?_)) | exact .refl | exact .c .nil | exact .tup (by repeat (first | exact .nil | refine .cons (.agg (by repeat (first | exact .nil | refine .cons .refl ?_ | refine .cons .nil ?_ | refine .cons .snoc ?_ | refine .cons .clone ?_))) ?_ | refine .cons .refl ?_ | refine .cons (.c .nil) ?_ | refine .cons (.c .snoc) ?_ | refine .cons (.c .clone) ?_))) [] .nil rfl rfl
        | exact J.ret Try.func6 rfl (.cons (.cell 2 rfl rfl rfl) (.cons (.tmp rfl) .nil)) () (by first | exact .agg (by repeat (first | exact .nil | refine .cons .refl ?_ | refine .cons .nil ?_ | refine .cons .snoc ?_ | refine .cons .clone ?_)) | exact .refl | exact .c .nil | exact .tup (by repeat (first | exact .nil | refine .cons (.agg (by repeat (first | exact .nil | refine .cons .refl ?_ | refine .cons .nil ?_ | refine .cons .snoc ?_ | refine .cons .clone ?_))) ?_ | refine .cons .refl ?_ | refine .cons (.c .nil) ?_ | refine .cons (.c .snoc) ?_ | refine .cons (.c .clone) ?_))) [] .nil rfl rfl
        | exact J.ret Try.func6 rfl (.cons (.cell 3 rfl rfl rfl) (.cons (.tmp rfl) .nil)) () (by first | exact .agg (by repeat (first | exact .nil | refine .cons .refl ?_ | refine .cons .nil ?_ | refine .cons .snoc ?_ | refine .cons .clone ?_)) | exact .refl | exact .c .nil | exact .tup (by repeat (first | exact .nil | refine .cons (.agg (by repeat (first | exact .nil | refine .cons .refl ?_ | refine .cons .nil ?_ | refine .cons .snoc ?_ | refine .cons .clone ?_))) ?_ | refine .cons .refl ?_ | refine .cons (.c .nil) ?_ | refine .cons (.c .snoc) ?_ | refine .cons (.c .clone) ?_))) [] .nil rfl rfl
        | exact J.ret Try.func6 rfl (.cons (.cell 4 rfl rfl rfl) (.cons (.tmp rfl) .nil)) () (by first | exact .agg (by repeat (first | exact .nil | refine .cons .refl ?_ | refine .cons .nil ?_ | refine .cons .snoc ?_ | refine .cons .clone ?_)) | exact .refl | exact .c .nil | exact .tup (by repeat (first | exact .nil | refine .cons (.agg (by repeat (first | exact .nil | refine .cons .refl ?_ | refine .cons .nil ?_ | refine .cons .snoc ?_ | refine .cons .clone ?_))) ?_ | refine .cons .refl ?_ | refine .cons (.c .nil) ?_ | refine .cons (.c .snoc) ?_ | refine .cons (.c .clone) ?_))) [] .nil rfl rfl
        | exact J.ret Try.func6 rfl (.cons (.cell 5 rfl rfl rfl) (.cons (.tmp rfl) .nil)) () (by first | exact .agg (by repeat (first | exact .nil | refine .cons .refl ?_ | refine .cons .nil ?_ | refine .cons .snoc ?_ | refine .cons .clone ?_)) | exact .refl | exact .c .nil | exact .tup (by repeat (first | exact .nil | refine .cons (.agg (by repeat (first | exact .nil | refine .cons .refl ?_ | refine .cons .nil ?_ | refine .cons .snoc ?_ | refine .cons .clone ?_))) ?_ | refine .cons .refl ?_ | refine .cons (.c .nil) ?_ | refine .cons (.c .snoc) ?_ | refine .cons (.c .clone) ?_))) [] .nil rfl rfl
        | exact J.ret Try.func6 rfl (.cons (.cell 6 rfl rfl rfl) (.cons (.tmp rfl) .nil)) () (by first | exact .agg (by repeat (first | exact .nil | refine .cons .refl ?_ | refine .cons .nil ?_ | refine .cons .snoc ?_ | refine .cons .clone ?_)) | exact .refl | exact .c .nil | exact .tup (by repeat (first | exact .nil | refine .cons (.agg (by repeat (first | exact .nil | refine .cons .refl ?_ | refine .cons .nil ?_ | refine .cons .snoc ?_ | refine .cons .clone ?_))) ?_ | refine .cons .refl ?_ | refine .cons (.c .nil) ?_ | refine .cons (.c .snoc) ?_ | refine .cons (.c .clone) ?_))) [] .nil rfl rfl
        | exact J.ret Try.func6 rfl (.cons (.cell 7 rfl rfl rfl) (.cons (.tmp rfl) .nil)) () (by first | exact .agg (by repeat (first | exact .nil | refine .cons .refl ?_ | refine .cons .nil ?_ | refine .cons .snoc ?_ | refine .cons .clone ?_)) | exact .refl | exact .c .nil | exact .tup (by repeat (first | exact .nil | refine .cons (.agg (by repeat (first | exact .nil | refine .cons .refl ?_ | refine .cons .nil ?_ | refine .cons .snoc ?_ | refine .cons .clone ?_))) ?_ | refine .cons .refl ?_ | refine .cons (.c .nil) ?_ | refine .cons (.c .snoc) ?_ | refine .cons (.c .clone) ?_))) [] .nil rfl rfl
        | exact J.ret Try.func6 rfl (.cons (.cell 8 rfl rfl rfl) (.cons (.tmp rfl) .nil)) () (by first | exact .agg (by repeat (first | exact .nil | refine .cons .refl ?_ | refine .cons .nil ?_ | refine .cons .snoc ?_ | refine .cons .clone ?_)) | exact .refl | exact .c .nil | exact .tup (by repeat (first | exact .nil | refine .cons (.agg (by repeat (first | exact .nil | refine .cons .refl ?_ | refine .cons .nil ?_ | refine .cons .snoc ?_ | refine .cons .clone ?_))) ?_ | refine .cons .refl ?_ | refine .cons (.c .nil) ?_ | refine .cons (.c .snoc) ?_ | refine .cons (.c .clone) ?_))) [] .nil rfl rfl
    | true =>
      have e1 : Sx.new p sn cn d = (Sx.start p sn cn d, 0) := by unfold Sx.new; rw [if_neg (by simp [hr]), if_neg (by simp [hc])]
      rw [e1]
      rw [hc] at CC
      obtain ⟨r1, r2, r3⟩ := right_facts hr
      unfold Sx.can at hc
      simp only [decide_eq_true_eq] at hc
      obtain ⟨sm, rfl⟩ : ∃ sm : Nat, sn = sm := ⟨sn.toNat, by omega⟩
      refine Con.intro Try.func6 rfl rfl rfl (fun ok e => ?_)
      repeat (first
          | (refine K.fieldAddr ?_; refine JO.q rfl rfl (Nat.le_of_ble_eq_true rfl) (Qt.fieldAddr rfl rfl) ?_)
          | (refine K.load ?_; first | refine JO.q rfl rfl (Nat.le_of_ble_eq_true rfl) (Qt.load1 rfl .el rfl) ?_ | refine JO.q rfl rfl (Nat.le_of_ble_eq_true rfl) (Qt.loadW rfl .el rfl) ?_ | refine JO.q rfl rfl (Nat.le_of_ble_eq_true rfl) (Qt.loadN rfl .el rfl rfl) ?_ | refine JO.q rfl rfl (Nat.le_of_ble_eq_true rfl) (Qt.load1b rfl (by exact rfl)) ?_ | refine JO.q rfl rfl (Nat.le_of_ble_eq_true rfl) (Qt.loadWb rfl (by exact rfl)) ?_ | refine JO.q rfl rfl (Nat.le_of_ble_eq_true rfl) (Qt.loadNb rfl (by exact rfl) (by exact rfl)) ?_)
          | (refine K.move ?_; refine JO.q rfl rfl (Nat.le_of_ble_eq_true rfl) (Qt.move rfl) ?_)
          | (refine K.store ?_; first | refine JO.ld (Ld.storeW rfl rfl rfl (by exact rfl) (by exact rfl)) rfl (fun _ => ?_) | refine JO.ld (Ld.store1 rfl rfl (by exact rfl)) rfl (fun _ => ?_) | refine JO.ld (Ld.storeN rfl rfl rfl (by exact rfl) (by exact rfl)) rfl (fun _ => ?_))
          | (refine K.assign ?_; refine JO.q rfl rfl (Nat.le_of_ble_eq_true rfl) (Qt.assign rfl) ?_)
          | (refine K.binOp ?_; first | refine JO.q rfl rfl (Nat.le_of_ble_eq_true rfl) (Qt.cmp rfl rfl rfl) ?_ | refine JO.q rfl rfl (Nat.le_of_ble_eq_true rfl) (Qt.eqB rfl rfl) ?_ | refine JO.q rfl rfl (Nat.le_of_ble_eq_true rfl) (Qt.neB rfl rfl) ?_)
          | (refine K.call ?_; first | (refine JO.pure (CR) rfl (Nat.le_of_ble_eq_true rfl) rfl ?_ ?_; focus ((repeat (first | exact LeDs.nil | refine LeDs.cons (LeD.agg (by repeat (first | exact .nil | refine .cons .refl ?_ | refine .cons .nil ?_ | refine .cons .snoc ?_ | refine .cons .clone ?_))) ?_ | refine LeDs.cons LeD.refl ?_ | refine LeDs.cons (LeD.c LeA.nil) ?_ | refine LeDs.cons (LeD.c LeA.snoc) ?_ | refine LeDs.cons (LeD.c LeA.clone) ?_)); done)) | (refine JO.pure (CC) rfl (Nat.le_of_ble_eq_true rfl) rfl ?_ ?_; focus ((repeat (first | exact LeDs.nil | refine LeDs.cons (LeD.agg (by repeat (first | exact .nil | refine .cons .refl ?_ | refine .cons .nil ?_ | refine .cons .snoc ?_ | refine .cons .clone ?_))) ?_ | refine LeDs.cons LeD.refl ?_ | refine LeDs.cons (LeD.c LeA.nil) ?_ | refine LeDs.cons (LeD.c LeA.snoc) ?_ | refine LeDs.cons (LeD.c LeA.clone) ?_)); done)))
          | (refine K.unOp ?_; refine JO.q rfl rfl (Nat.le_of_ble_eq_true rfl) (Qt.not rfl) ?_)
          | (refine K.bi ?_; first | refine JO.q rfl rfl (Nat.le_of_ble_eq_true rfl) (Qt.lenM rfl) ?_ | refine JO.q rfl rfl (Nat.le_of_ble_eq_true rfl) (Qt.lenR rfl) ?_ | refine JO.q rfl rfl (Nat.le_of_ble_eq_true rfl) (Qt.lenV rfl) ?_ | refine JO.q rfl rfl (Nat.le_of_ble_eq_true rfl) (Qt.lenO rfl) ?_)
          | (refine K.extract ?_; refine JO.q rfl rfl (Nat.le_of_ble_eq_true rfl) (Qt.extract rfl rfl) ?_)
          | (refine JO.alloc rfl (Nat.le_of_ble_eq_true rfl) ?_; intro _)
          | (refine JO.box rfl (Nat.le_of_ble_eq_true rfl) rfl rfl ?_; intro _)
          | (refine K.pick ?_; refine JO.q rfl rfl (Nat.le_of_ble_eq_true rfl) (Qt.pick rfl rfl) ?_)
          | (refine K.build ?_; refine JO.q rfl rfl (Nat.le_of_ble_eq_true rfl) (Qt.build rfl (by kernel_rfl)) ?_)
          | (refine K.lit ?_; first | (refine JO.lit0 rfl (Nat.le_of_ble_eq_true rfl) ?_; intro _) | (refine JO.lit1 rfl (Nat.le_of_ble_eq_true rfl) rfl rfl rfl rfl rfl ?_; intro _))
          | (refine K.nilCheck ?_; refine JO.q rfl rfl (Nat.le_of_ble_eq_true rfl) (Qt.nilCheck rfl rfl) ?_)
          | (refine K.field ?_; refine JO.q rfl rfl (Nat.le_of_ble_eq_true rfl) (Qt.field rfl rfl (by kernel_rfl) rfl) ?_)
          | (refine K.convert ?_; refine JO.q rfl rfl (Nat.le_of_ble_eq_true rfl) (Qt.conv rfl rfl) ?_)
          | refine JO.nil ?_
          | refine J.seq ?_
          | refine J.region ?_
          | refine J.block ?_
          | refine J.inBlock ?_
          | refine J.skip ?_
          | refine J.exit rfl ?_
          | refine J.cond_t rfl ?_
          | refine J.cond_f rfl ?_
          | refine JO.no rfl rfl (Nat.le_of_ble_eq_true rfl) ?_)
      rename_i b4 b6 b8 _
      refine J.nilR 50 25 ?_
      refine J.nilR 38 1 ?_
      refine J.loop (ι := { q : Nat × Value × Value // q.1 ≤ p.length }) (fun q => [(30, .c (nI q.1.1)), (29, .c (nI p.length)), (28, .c (opsA p)), (8, .c (.v (.pointer (some ⟨b8, 0, none⟩)))), (6, .c (.v (.pointer (some ⟨b6, 0, none⟩)))), (4, .c (.v (.pointer (some ⟨b4, 0, none⟩))))]) (fun q => .row q.1.2.1 38 1 (((p.take q.1.1).map fun _ => ([] : List Int)).map fun l => [ints l]) :: .row q.1.2.2 50 25 (((p.take q.1.1).map (Sx.clean · 0)).map eG) :: .box b8 41 (mkN sm cn d (.v q.1.2.2) (.v (.slice none 0 0)) (.v q.1.2.1)) :: .box b6 41 zSt :: .box b4 24 [nI sm, nI cn] :: []) (fun q => p.length - q.1.1) ⟨(0, .slice none 0 0, .slice none 0 0), Nat.zero_le _⟩ (fun X h => h.weak ⟨rfl, rfl, rfl, rfl, rfl, rfl, trivial⟩) (fun q ih => ?_)
      obtain ⟨⟨k, vc, vg⟩, hk⟩ := q
      simp only at hk ih ⊢
      by_cases hk2 : k < p.length
      · have t1 : (decide ((k : Int) < (p.length : Int))) = true := by simpa using hk2
        obtain ⟨ops, ho⟩ : ∃ ops, p[k]? = some ops := ⟨_, List.getElem?_eq_getElem hk2⟩
        have J1 : (p.map fun ops => [A.r 6 (ops.map eOp)])[((k : Int)).toNat]? = some [A.r 6 (ops.map eOp)] := by rw [Int.toNat_natCast, List.getElem?_map, ho]; rfl
        have hkl : (p.take k).length = k := by rw [List.length_take]; omega
        repeat (first
            | (refine K.fieldAddr ?_; refine JO.q rfl rfl (Nat.le_of_ble_eq_true rfl) (Qt.fieldAddr rfl rfl) ?_)
            | (refine K.load ?_; first | refine JO.q rfl rfl (Nat.le_of_ble_eq_true rfl) (Qt.load1 rfl .el rfl) ?_ | refine JO.q rfl rfl (Nat.le_of_ble_eq_true rfl) (Qt.loadW rfl .el rfl) ?_ | refine JO.q rfl rfl (Nat.le_of_ble_eq_true rfl) (Qt.loadN rfl .el rfl rfl) ?_ | refine JO.q rfl rfl (Nat.le_of_ble_eq_true rfl) (Qt.load1b rfl (by exact rfl)) ?_ | refine JO.q rfl rfl (Nat.le_of_ble_eq_true rfl) (Qt.loadWb rfl (by exact rfl)) ?_ | refine JO.q rfl rfl (Nat.le_of_ble_eq_true rfl) (Qt.loadNb rfl (by exact rfl) (by exact rfl)) ?_)
            | (refine K.move ?_; refine JO.q rfl rfl (Nat.le_of_ble_eq_true rfl) (Qt.move rfl) ?_)
            | (refine K.store ?_; first | refine JO.ld (Ld.storeW rfl rfl rfl (by exact rfl) (by exact rfl)) rfl (fun _ => ?_) | refine JO.ld (Ld.store1 rfl rfl (by exact rfl)) rfl (fun _ => ?_) | refine JO.ld (Ld.storeN rfl rfl rfl (by exact rfl) (by exact rfl)) rfl (fun _ => ?_))
            | (refine K.assign ?_; refine JO.q rfl rfl (Nat.le_of_ble_eq_true rfl) (Qt.assign rfl) ?_)
            | (refine K.indexAddr ?_; refine JO.q rfl rfl (Nat.le_of_ble_eq_true rfl) (Qt.indexR rfl rfl (by omega) (J1)) ?_)
            | (refine K.binOp ?_; first | refine JO.q rfl rfl (Nat.le_of_ble_eq_true rfl) (Qt.cmp rfl rfl (congrArg some t1)) ?_ | refine JO.q rfl rfl (Nat.le_of_ble_eq_true rfl) (Qt.cmp rfl rfl rfl) ?_ | refine JO.q rfl rfl (Nat.le_of_ble_eq_true rfl) (Qt.eqB rfl rfl) ?_ | refine JO.q rfl rfl (Nat.le_of_ble_eq_true rfl) (Qt.neB rfl rfl) ?_)
            | (refine K.unOp ?_; refine JO.q rfl rfl (Nat.le_of_ble_eq_true rfl) (Qt.not rfl) ?_)
            | (refine K.bi ?_; first | refine JO.q rfl rfl (Nat.le_of_ble_eq_true rfl) (Qt.lenM rfl) ?_ | refine JO.q rfl rfl (Nat.le_of_ble_eq_true rfl) (Qt.lenR rfl) ?_ | refine JO.q rfl rfl (Nat.le_of_ble_eq_true rfl) (Qt.lenV rfl) ?_ | refine JO.q rfl rfl (Nat.le_of_ble_eq_true rfl) (Qt.lenO rfl) ?_)
            | (refine K.extract ?_; refine JO.q rfl rfl (Nat.le_of_ble_eq_true rfl) (Qt.extract rfl rfl) ?_)
            | (refine JO.alloc rfl (Nat.le_of_ble_eq_true rfl) ?_; intro _)
            | (refine JO.box rfl (Nat.le_of_ble_eq_true rfl) rfl rfl ?_; intro _)
            | (refine K.pick ?_; refine JO.q rfl rfl (Nat.le_of_ble_eq_true rfl) (Qt.pick rfl rfl) ?_)
            | (refine K.build ?_; refine JO.q rfl rfl (Nat.le_of_ble_eq_true rfl) (Qt.build rfl (by kernel_rfl)) ?_)
            | (refine K.lit ?_; first | (refine JO.lit0 rfl (Nat.le_of_ble_eq_true rfl) ?_; intro _) | (refine JO.lit1 rfl (Nat.le_of_ble_eq_true rfl) rfl rfl rfl rfl rfl ?_; intro _))
            | (refine K.nilCheck ?_; refine JO.q rfl rfl (Nat.le_of_ble_eq_true rfl) (Qt.nilCheck rfl rfl) ?_)
            | (refine K.field ?_; refine JO.q rfl rfl (Nat.le_of_ble_eq_true rfl) (Qt.field rfl rfl (by kernel_rfl) rfl) ?_)
            | (refine K.convert ?_; refine JO.q rfl rfl (Nat.le_of_ble_eq_true rfl) (Qt.conv rfl rfl) ?_)
            | refine JO.nil ?_
            | refine J.seq ?_
            | refine J.region ?_
            | refine J.block ?_
            | refine J.inBlock ?_
            | refine J.skip ?_
            | refine J.exit rfl ?_
            | refine J.cond_t rfl ?_
            | refine J.cond_f rfl ?_
            | refine JO.no rfl rfl (Nat.le_of_ble_eq_true rfl) ?_)
        refine J.draw (by kernel_rfl) rfl ?_
        refine JW.baseT [1] (some 7) ?_
        refine JD.take 0 rfl rfl (by kernel_rfl) rfl (Nat.le_of_ble_eq_true rfl) (Qt.fieldAddr rfl rfl) rfl ?_
        first
          | refine JD.take 1 rfl rfl (by kernel_rfl) rfl (Nat.le_of_ble_eq_true rfl) (Qt.load1 rfl .el rfl) rfl ?_
          | refine JD.take 1 rfl rfl (by kernel_rfl) rfl (Nat.le_of_ble_eq_true rfl) (Qt.loadW rfl .el rfl) rfl ?_
          | refine JD.take 1 rfl rfl (by kernel_rfl) rfl (Nat.le_of_ble_eq_true rfl) (Qt.loadN rfl .el rfl rfl) rfl ?_
          | refine JD.take 1 rfl rfl (by kernel_rfl) rfl (Nat.le_of_ble_eq_true rfl) (Qt.load1b rfl (by exact rfl)) rfl ?_
          | refine JD.take 1 rfl rfl (by kernel_rfl) rfl (Nat.le_of_ble_eq_true rfl) (Qt.loadWb rfl (by exact rfl)) rfl ?_
          | refine JD.take 1 rfl rfl (by kernel_rfl) rfl (Nat.le_of_ble_eq_true rfl) (Qt.loadNb rfl (by exact rfl) (by exact rfl)) rfl ?_
        refine JD.take 2 rfl rfl (by kernel_rfl) rfl (Nat.le_of_ble_eq_true rfl) (Qt.move rfl) rfl ?_
        refine JD.each1 (i := 3) (by kernel_rfl) ?_
        refine JS.loud rfl rfl rfl (Nat.le_of_ble_eq_true rfl) (Ld.pure (c_fresh ops 0) (Nat.le_of_ble_eq_true rfl) rfl (by repeat (first | exact LeDs.nil | refine LeDs.cons (LeD.agg (by repeat (first | exact .nil | refine .cons .refl ?_ | refine .cons .nil ?_ | refine .cons .snoc ?_ | refine .cons .clone ?_))) ?_ | refine LeDs.cons LeD.refl ?_ | refine LeDs.cons (LeD.c LeA.nil) ?_ | refine LeDs.cons (LeD.c LeA.snoc) ?_ | refine LeDs.cons (LeD.c LeA.clone) ?_))) (by first | exact .none | exact .nil | exact .tbox rfl | exact .trow rfl | exact .tres rfl | exact .row (by repeat (first | exact .refl | refine .cons ?_)) | exact .box (by repeat (first | exact .refl | refine .cons ?_))) (fun _ => ?_)
        refine JD.each1 (i := 4) (by kernel_rfl) ?_
        refine JS.loud rfl rfl rfl (Nat.le_of_ble_eq_true rfl) (Ld.lit1R (Nat.le_of_ble_eq_true rfl) rfl rfl rfl rfl rfl) (by first | exact .none | exact .nil | exact .tbox rfl | exact .trow rfl | exact .tres rfl | exact .row (by repeat (first | exact .refl | refine .cons ?_)) | exact .box (by repeat (first | exact .refl | refine .cons ?_))) (fun _ => ?_)
        refine JD.each1 (i := 5) (by kernel_rfl) ?_
        refine JS.loud rfl rfl rfl (Nat.le_of_ble_eq_true rfl) (Ld.appOw (Nat.le_of_ble_eq_true rfl) rfl rfl .read (by first | (simp; omega) | simp | omega)) (by first | exact .none | exact .nil | exact .tbox rfl | exact .trow rfl | exact .tres rfl | exact .row (by repeat (first | exact .refl | refine .cons ?_)) | exact .box (by repeat (first | exact .refl | refine .cons ?_))) (fun _ => ?_)
        refine JD.each1 (i := 6) (by kernel_rfl) ?_
        refine JS.q rfl rfl rfl (Nat.le_of_ble_eq_true rfl) (Qt.fieldAddr rfl rfl) ?_
        refine JD.each1 (i := 7) (by kernel_rfl) ?_
        first
          | refine JS.last rfl rfl (Ld.storeW rfl rfl rfl (by exact rfl) (by exact rfl)) (fun _ => ?_)
          | refine JS.last rfl rfl (Ld.store1 rfl rfl (by exact rfl)) (fun _ => ?_)
          | refine JS.last rfl rfl (Ld.storeN rfl rfl rfl (by exact rfl) (by exact rfl)) (fun _ => ?_)
        refine JW.done (by kernel_rfl) ?_
        repeat (first
            | (refine K.fieldAddr ?_; refine JO.q rfl rfl (Nat.le_of_ble_eq_true rfl) (Qt.fieldAddr rfl rfl) ?_)
            | (refine K.load ?_; first | refine JO.q rfl rfl (Nat.le_of_ble_eq_true rfl) (Qt.load1 rfl .el rfl) ?_ | refine JO.q rfl rfl (Nat.le_of_ble_eq_true rfl) (Qt.loadW rfl .el rfl) ?_ | refine JO.q rfl rfl (Nat.le_of_ble_eq_true rfl) (Qt.loadN rfl .el rfl rfl) ?_ | refine JO.q rfl rfl (Nat.le_of_ble_eq_true rfl) (Qt.load1b rfl (by exact rfl)) ?_ | refine JO.q rfl rfl (Nat.le_of_ble_eq_true rfl) (Qt.loadWb rfl (by exact rfl)) ?_ | refine JO.q rfl rfl (Nat.le_of_ble_eq_true rfl) (Qt.loadNb rfl (by exact rfl) (by exact rfl)) ?_)
            | (refine K.move ?_; refine JO.q rfl rfl (Nat.le_of_ble_eq_true rfl) (Qt.move rfl) ?_)
            | (refine K.store ?_; first | refine JO.ld (Ld.storeW rfl rfl rfl (by exact rfl) (by exact rfl)) rfl (fun _ => ?_) | refine JO.ld (Ld.store1 rfl rfl (by exact rfl)) rfl (fun _ => ?_) | refine JO.ld (Ld.storeN rfl rfl rfl (by exact rfl) (by exact rfl)) rfl (fun _ => ?_))
            | (refine K.assign ?_; refine JO.q rfl rfl (Nat.le_of_ble_eq_true rfl) (Qt.assign rfl) ?_)
            | (refine K.binOp ?_; first | refine JO.q rfl rfl (Nat.le_of_ble_eq_true rfl) (Qt.ari rfl rfl rfl (w64 (by omega) (by omega))) ?_ | refine JO.q rfl rfl (Nat.le_of_ble_eq_true rfl) (Qt.cmp rfl rfl rfl) ?_ | refine JO.q rfl rfl (Nat.le_of_ble_eq_true rfl) (Qt.eqB rfl rfl) ?_ | refine JO.q rfl rfl (Nat.le_of_ble_eq_true rfl) (Qt.neB rfl rfl) ?_)
            | (refine K.unOp ?_; refine JO.q rfl rfl (Nat.le_of_ble_eq_true rfl) (Qt.not rfl) ?_)
            | (refine K.bi ?_; first | refine JO.q rfl rfl (Nat.le_of_ble_eq_true rfl) (Qt.lenM rfl) ?_ | refine JO.q rfl rfl (Nat.le_of_ble_eq_true rfl) (Qt.lenR rfl) ?_ | refine JO.q rfl rfl (Nat.le_of_ble_eq_true rfl) (Qt.lenV rfl) ?_ | refine JO.q rfl rfl (Nat.le_of_ble_eq_true rfl) (Qt.lenO rfl) ?_)
            | (refine K.extract ?_; refine JO.q rfl rfl (Nat.le_of_ble_eq_true rfl) (Qt.extract rfl rfl) ?_)
            | (refine JO.alloc rfl (Nat.le_of_ble_eq_true rfl) ?_; intro _)
            | (refine JO.box rfl (Nat.le_of_ble_eq_true rfl) rfl rfl ?_; intro _)
            | (refine K.pick ?_; refine JO.q rfl rfl (Nat.le_of_ble_eq_true rfl) (Qt.pick rfl rfl) ?_)
            | (refine K.build ?_; refine JO.q rfl rfl (Nat.le_of_ble_eq_true rfl) (Qt.build rfl (by kernel_rfl)) ?_)
            | (refine K.lit ?_; first | first | (refine JO.ld (Ld.lit0R (Nat.le_of_ble_eq_true rfl)) rfl (fun _ => ?_)) | (refine JO.ld (Ld.lit1R (Nat.le_of_ble_eq_true rfl) rfl rfl rfl rfl rfl) rfl (fun _ => ?_)) | (refine JO.lit0 rfl (Nat.le_of_ble_eq_true rfl) ?_; intro _) | (refine JO.lit1 rfl (Nat.le_of_ble_eq_true rfl) rfl rfl rfl rfl rfl ?_; intro _))
            | (refine K.nilCheck ?_; refine JO.q rfl rfl (Nat.le_of_ble_eq_true rfl) (Qt.nilCheck rfl rfl) ?_)
            | (refine K.field ?_; refine JO.q rfl rfl (Nat.le_of_ble_eq_true rfl) (Qt.field rfl rfl (by kernel_rfl) rfl) ?_)
            | (refine K.convert ?_; refine JO.q rfl rfl (Nat.le_of_ble_eq_true rfl) (Qt.conv rfl rfl) ?_)
            | (refine K.bi ?_; first | first | refine JO.ld (Ld.appOw (Nat.le_of_ble_eq_true rfl) rfl rfl .read (by first | (simp; omega) | simp | omega)) rfl (fun _ => ?_) | refine JO.ld (Ld.appOw (Nat.le_of_ble_eq_true rfl) rfl rfl .ownC (by first | (simp; omega) | simp | omega)) rfl (fun _ => ?_) | refine JO.ld (Ld.appOw (Nat.le_of_ble_eq_true rfl) rfl rfl .nil (by first | (simp; omega) | simp | omega)) rfl (fun _ => ?_) | refine JO.ld (Ld.appOn (Nat.le_of_ble_eq_true rfl) rfl rfl .read (by first | (simp; omega) | simp | omega)) rfl (fun _ => ?_) | refine JO.ld (Ld.appOn (Nat.le_of_ble_eq_true rfl) rfl rfl .ownC (by first | (simp; omega) | simp | omega)) rfl (fun _ => ?_) | refine JO.ld (Ld.appOn (Nat.le_of_ble_eq_true rfl) rfl rfl .nil (by first | (simp; omega) | simp | omega)) rfl (fun _ => ?_))
            | refine JO.nil ?_
            | refine J.seq ?_
            | refine J.region ?_
            | refine J.block ?_
            | refine J.inBlock ?_
            | refine J.skip ?_
            | refine J.exit rfl ?_
            | refine J.cond_t rfl ?_
            | refine J.cond_f rfl ?_
            | refine JO.no rfl rfl (Nat.le_of_ble_eq_true rfl) ?_)
        rename_i vg2 _ _ _ vc2 _
        refine J.congL ?_ ((ih ⟨(k + 1, vc2, vg2), by simp only; omega⟩ (by simp only; omega)).weak ⟨rfl, rfl, rfl, rfl, rfl, rfl, trivial⟩)
        rw [List.take_add_one, ho, List.map_append, List.map_append, List.map_append, List.map_append]
        rfl
      · have t1 : (decide ((k : Int) < (p.length : Int))) = false := by simpa using hk2
        obtain rfl : k = p.length := by omega
        rw [List.take_of_length_le (Nat.le_refl _)]
        refine J.frzN 0 2 6 rfl rfl rfl ?_
        refine J.frzN 0 1 3 rfl rfl rfl ?_
        repeat (first
            | (refine K.fieldAddr ?_; refine JO.q rfl rfl (Nat.le_of_ble_eq_true rfl) (Qt.fieldAddr rfl rfl) ?_)
            | (refine K.load ?_; first | refine JO.q rfl rfl (Nat.le_of_ble_eq_true rfl) (Qt.load1 rfl .el rfl) ?_ | refine JO.q rfl rfl (Nat.le_of_ble_eq_true rfl) (Qt.loadW rfl .el rfl) ?_ | refine JO.q rfl rfl (Nat.le_of_ble_eq_true rfl) (Qt.loadN rfl .el rfl rfl) ?_ | refine JO.q rfl rfl (Nat.le_of_ble_eq_true rfl) (Qt.load1b rfl (by exact rfl)) ?_ | refine JO.q rfl rfl (Nat.le_of_ble_eq_true rfl) (Qt.loadWb rfl (by exact rfl)) ?_ | refine JO.q rfl rfl (Nat.le_of_ble_eq_true rfl) (Qt.loadNb rfl (by exact rfl) (by exact rfl)) ?_)
            | (refine K.move ?_; refine JO.q rfl rfl (Nat.le_of_ble_eq_true rfl) (Qt.move rfl) ?_)
            | (refine K.store ?_; first | refine JO.ld (Ld.storeW rfl rfl rfl (by exact rfl) (by exact rfl)) rfl (fun _ => ?_) | refine JO.ld (Ld.store1 rfl rfl (by exact rfl)) rfl (fun _ => ?_) | refine JO.ld (Ld.storeN rfl rfl rfl (by exact rfl) (by exact rfl)) rfl (fun _ => ?_))
            | (refine K.assign ?_; refine JO.q rfl rfl (Nat.le_of_ble_eq_true rfl) (Qt.assign rfl) ?_)
            | (refine K.binOp ?_; first | refine JO.q rfl rfl (Nat.le_of_ble_eq_true rfl) (Qt.cmp rfl rfl (congrArg some t1)) ?_ | refine JO.q rfl rfl (Nat.le_of_ble_eq_true rfl) (Qt.cmp rfl rfl rfl) ?_ | refine JO.q rfl rfl (Nat.le_of_ble_eq_true rfl) (Qt.eqB rfl rfl) ?_ | refine JO.q rfl rfl (Nat.le_of_ble_eq_true rfl) (Qt.neB rfl rfl) ?_)
            | (refine K.unOp ?_; refine JO.q rfl rfl (Nat.le_of_ble_eq_true rfl) (Qt.not rfl) ?_)
            | (refine K.bi ?_; first | refine JO.q rfl rfl (Nat.le_of_ble_eq_true rfl) (Qt.lenM rfl) ?_ | refine JO.q rfl rfl (Nat.le_of_ble_eq_true rfl) (Qt.lenR rfl) ?_ | refine JO.q rfl rfl (Nat.le_of_ble_eq_true rfl) (Qt.lenV rfl) ?_ | refine JO.q rfl rfl (Nat.le_of_ble_eq_true rfl) (Qt.lenO rfl) ?_)
            | (refine K.extract ?_; refine JO.q rfl rfl (Nat.le_of_ble_eq_true rfl) (Qt.extract rfl rfl) ?_)
            | (refine JO.alloc rfl (Nat.le_of_ble_eq_true rfl) ?_; intro _)
            | (refine JO.box rfl (Nat.le_of_ble_eq_true rfl) rfl rfl ?_; intro _)
            | (refine K.pick ?_; refine JO.q rfl rfl (Nat.le_of_ble_eq_true rfl) (Qt.pick rfl rfl) ?_)
            | (refine K.build ?_; refine JO.q rfl rfl (Nat.le_of_ble_eq_true rfl) (Qt.build rfl (by kernel_rfl)) ?_)
            | (refine K.lit ?_; first | (refine JO.lit0 rfl (Nat.le_of_ble_eq_true rfl) ?_; intro _) | (refine JO.lit1 rfl (Nat.le_of_ble_eq_true rfl) rfl rfl rfl rfl rfl ?_; intro _))
            | (refine K.nilCheck ?_; refine JO.q rfl rfl (Nat.le_of_ble_eq_true rfl) (Qt.nilCheck rfl rfl) ?_)
            | (refine K.field ?_; refine JO.q rfl rfl (Nat.le_of_ble_eq_true rfl) (Qt.field rfl rfl (by kernel_rfl) rfl) ?_)
            | (refine K.convert ?_; refine JO.q rfl rfl (Nat.le_of_ble_eq_true rfl) (Qt.conv rfl rfl) ?_)
            | refine JO.nil ?_
            | refine J.seq ?_
            | refine J.region ?_
            | refine J.block ?_
            | refine J.inBlock ?_
            | refine J.skip ?_
            | refine J.exit rfl ?_
            | refine J.cond_t rfl ?_
            | refine J.cond_f rfl ?_
            | refine JO.no rfl rfl (Nat.le_of_ble_eq_true rfl) ?_)
        refine J.nilR 73 7 ?_
        refine J.loop (ι := { q : Nat × Value // q.1 ≤ sm }) (fun q => [(11, .c (nI q.1.1)), (8, .c (.v (.pointer (some ⟨b8, 0, none⟩)))), (6, .c (.v (.pointer (some ⟨b6, 0, none⟩)))), (4, .c (.v (.pointer (some ⟨b4, 0, none⟩))))]) (fun q => .row q.1.2 73 7 ((List.replicate q.1.1 Sx.noSu).map eS) :: .box b8 41 (mkN sm cn d (.r 25 ((p.map (Sx.clean · 0)).map eG)) (.v q.1.2) (.r 1 ((p.map fun _ => ([] : List Int)).map fun l => [ints l]))) :: .box b6 41 zSt :: .box b4 24 [nI sm, nI cn] :: []) (fun q => sm - q.1.1) ⟨(0, .slice none 0 0), Nat.zero_le _⟩ (fun X h => h.weak ⟨rfl, rfl, rfl, rfl, trivial⟩) (fun q ih => ?_)
        obtain ⟨⟨j, vs⟩, hj⟩ := q
        simp only at hj ih ⊢
        by_cases hj2 : j < sm
        · have t1 : (decide ((j : Int) < (sm : Int))) = true := by simpa using hj2
          repeat (first
              | (refine K.fieldAddr ?_; refine JO.q rfl rfl (Nat.le_of_ble_eq_true rfl) (Qt.fieldAddr rfl rfl) ?_)
              | (refine K.load ?_; first | refine JO.q rfl rfl (Nat.le_of_ble_eq_true rfl) (Qt.load1 rfl .el rfl) ?_ | refine JO.q rfl rfl (Nat.le_of_ble_eq_true rfl) (Qt.loadW rfl .el rfl) ?_ | refine JO.q rfl rfl (Nat.le_of_ble_eq_true rfl) (Qt.loadN rfl .el rfl rfl) ?_ | refine JO.q rfl rfl (Nat.le_of_ble_eq_true rfl) (Qt.load1b rfl (by exact rfl)) ?_ | refine JO.q rfl rfl (Nat.le_of_ble_eq_true rfl) (Qt.loadWb rfl (by exact rfl)) ?_ | refine JO.q rfl rfl (Nat.le_of_ble_eq_true rfl) (Qt.loadNb rfl (by exact rfl) (by exact rfl)) ?_)
              | (refine K.move ?_; refine JO.q rfl rfl (Nat.le_of_ble_eq_true rfl) (Qt.move rfl) ?_)
              | (refine K.store ?_; first | refine JO.ld (Ld.storeW rfl rfl rfl (by exact rfl) (by exact rfl)) rfl (fun _ => ?_) | refine JO.ld (Ld.store1 rfl rfl (by exact rfl)) rfl (fun _ => ?_) | refine JO.ld (Ld.storeN rfl rfl rfl (by exact rfl) (by exact rfl)) rfl (fun _ => ?_))
              | (refine K.assign ?_; refine JO.q rfl rfl (Nat.le_of_ble_eq_true rfl) (Qt.assign rfl) ?_)
              | (refine K.binOp ?_; first | refine JO.q rfl rfl (Nat.le_of_ble_eq_true rfl) (Qt.cmp rfl rfl (congrArg some t1)) ?_ | refine JO.q rfl rfl (Nat.le_of_ble_eq_true rfl) (Qt.ari rfl rfl rfl (w64 (by omega) (by omega))) ?_ | refine JO.q rfl rfl (Nat.le_of_ble_eq_true rfl) (Qt.cmp rfl rfl rfl) ?_ | refine JO.q rfl rfl (Nat.le_of_ble_eq_true rfl) (Qt.eqB rfl rfl) ?_ | refine JO.q rfl rfl (Nat.le_of_ble_eq_true rfl) (Qt.neB rfl rfl) ?_)
              | (refine K.unOp ?_; refine JO.q rfl rfl (Nat.le_of_ble_eq_true rfl) (Qt.not rfl) ?_)
              | (refine K.bi ?_; first | refine JO.q rfl rfl (Nat.le_of_ble_eq_true rfl) (Qt.lenM rfl) ?_ | refine JO.q rfl rfl (Nat.le_of_ble_eq_true rfl) (Qt.lenR rfl) ?_ | refine JO.q rfl rfl (Nat.le_of_ble_eq_true rfl) (Qt.lenV rfl) ?_ | refine JO.q rfl rfl (Nat.le_of_ble_eq_true rfl) (Qt.lenO rfl) ?_)
              | (refine K.extract ?_; refine JO.q rfl rfl (Nat.le_of_ble_eq_true rfl) (Qt.extract rfl rfl) ?_)
              | (refine JO.alloc rfl (Nat.le_of_ble_eq_true rfl) ?_; intro _)
              | (refine JO.box rfl (Nat.le_of_ble_eq_true rfl) rfl rfl ?_; intro _)
              | (refine K.pick ?_; refine JO.q rfl rfl (Nat.le_of_ble_eq_true rfl) (Qt.pick rfl rfl) ?_)
              | (refine K.build ?_; refine JO.q rfl rfl (Nat.le_of_ble_eq_true rfl) (Qt.build rfl (by kernel_rfl)) ?_)
              | (refine K.lit ?_; first | first | (refine JO.ld (Ld.lit0R (Nat.le_of_ble_eq_true rfl)) rfl (fun _ => ?_)) | (refine JO.ld (Ld.lit1R (Nat.le_of_ble_eq_true rfl) rfl rfl rfl rfl rfl) rfl (fun _ => ?_)) | (refine JO.lit0 rfl (Nat.le_of_ble_eq_true rfl) ?_; intro _) | (refine JO.lit1 rfl (Nat.le_of_ble_eq_true rfl) rfl rfl rfl rfl rfl ?_; intro _))
              | (refine K.nilCheck ?_; refine JO.q rfl rfl (Nat.le_of_ble_eq_true rfl) (Qt.nilCheck rfl rfl) ?_)
              | (refine K.field ?_; refine JO.q rfl rfl (Nat.le_of_ble_eq_true rfl) (Qt.field rfl rfl (by kernel_rfl) rfl) ?_)
              | (refine K.convert ?_; refine JO.q rfl rfl (Nat.le_of_ble_eq_true rfl) (Qt.conv rfl rfl) ?_)
              | (refine K.bi ?_; first | first | refine JO.ld (Ld.appOw (Nat.le_of_ble_eq_true rfl) rfl rfl .read (by first | (simp; omega) | simp | omega)) rfl (fun _ => ?_) | refine JO.ld (Ld.appOw (Nat.le_of_ble_eq_true rfl) rfl rfl .ownC (by first | (simp; omega) | simp | omega)) rfl (fun _ => ?_) | refine JO.ld (Ld.appOw (Nat.le_of_ble_eq_true rfl) rfl rfl .nil (by first | (simp; omega) | simp | omega)) rfl (fun _ => ?_) | refine JO.ld (Ld.appOn (Nat.le_of_ble_eq_true rfl) rfl rfl .read (by first | (simp; omega) | simp | omega)) rfl (fun _ => ?_) | refine JO.ld (Ld.appOn (Nat.le_of_ble_eq_true rfl) rfl rfl .ownC (by first | (simp; omega) | simp | omega)) rfl (fun _ => ?_) | refine JO.ld (Ld.appOn (Nat.le_of_ble_eq_true rfl) rfl rfl .nil (by first | (simp; omega) | simp | omega)) rfl (fun _ => ?_))
              | refine JO.nil ?_
              | refine J.seq ?_
              | refine J.region ?_
              | refine J.block ?_
              | refine J.inBlock ?_
              | refine J.skip ?_
              | refine J.exit rfl ?_
              | refine J.cond_t rfl ?_
              | refine J.cond_f rfl ?_
              | refine JO.no rfl rfl (Nat.le_of_ble_eq_true rfl) ?_)
          rename_i vs2 _
          refine J.congL ?_ ((ih ⟨(j + 1, vs2), by simp only; omega⟩ (by simp only; omega)).weak ⟨rfl, rfl, rfl, rfl, trivial⟩)
          rw [List.replicate_succ', List.map_append]
          rfl
        · have t1 : (decide ((j : Int) < (sm : Int))) = false := by simpa using hj2
          obtain rfl : j = sm := by omega
          refine J.frzN 0 1 5 rfl rfl rfl ?_
          repeat (first
              | (refine K.fieldAddr ?_; refine JO.q rfl rfl (Nat.le_of_ble_eq_true rfl) (Qt.fieldAddr rfl rfl) ?_)
              | (refine K.load ?_; first | refine JO.q rfl rfl (Nat.le_of_ble_eq_true rfl) (Qt.load1 rfl .el rfl) ?_ | refine JO.q rfl rfl (Nat.le_of_ble_eq_true rfl) (Qt.loadW rfl .el rfl) ?_ | refine JO.q rfl rfl (Nat.le_of_ble_eq_true rfl) (Qt.loadN rfl .el rfl rfl) ?_ | refine JO.q rfl rfl (Nat.le_of_ble_eq_true rfl) (Qt.load1b rfl (by exact rfl)) ?_ | refine JO.q rfl rfl (Nat.le_of_ble_eq_true rfl) (Qt.loadWb rfl (by exact rfl)) ?_ | refine JO.q rfl rfl (Nat.le_of_ble_eq_true rfl) (Qt.loadNb rfl (by exact rfl) (by exact rfl)) ?_)
              | (refine K.move ?_; refine JO.q rfl rfl (Nat.le_of_ble_eq_true rfl) (Qt.move rfl) ?_)
              | (refine K.store ?_; first | refine JO.ld (Ld.storeW rfl rfl rfl (by exact rfl) (by exact rfl)) rfl (fun _ => ?_) | refine JO.ld (Ld.store1 rfl rfl (by exact rfl)) rfl (fun _ => ?_) | refine JO.ld (Ld.storeN rfl rfl rfl (by exact rfl) (by exact rfl)) rfl (fun _ => ?_))
              | (refine K.assign ?_; refine JO.q rfl rfl (Nat.le_of_ble_eq_true rfl) (Qt.assign rfl) ?_)
              | (refine K.binOp ?_; first | refine JO.q rfl rfl (Nat.le_of_ble_eq_true rfl) (Qt.cmp rfl rfl (congrArg some t1)) ?_ | refine JO.q rfl rfl (Nat.le_of_ble_eq_true rfl) (Qt.cmp rfl rfl rfl) ?_ | refine JO.q rfl rfl (Nat.le_of_ble_eq_true rfl) (Qt.eqB rfl rfl) ?_ | refine JO.q rfl rfl (Nat.le_of_ble_eq_true rfl) (Qt.neB rfl rfl) ?_)
              | (refine K.unOp ?_; refine JO.q rfl rfl (Nat.le_of_ble_eq_true rfl) (Qt.not rfl) ?_)
              | (refine K.bi ?_; first | refine JO.q rfl rfl (Nat.le_of_ble_eq_true rfl) (Qt.lenM rfl) ?_ | refine JO.q rfl rfl (Nat.le_of_ble_eq_true rfl) (Qt.lenR rfl) ?_ | refine JO.q rfl rfl (Nat.le_of_ble_eq_true rfl) (Qt.lenV rfl) ?_ | refine JO.q rfl rfl (Nat.le_of_ble_eq_true rfl) (Qt.lenO rfl) ?_)
              | (refine K.extract ?_; refine JO.q rfl rfl (Nat.le_of_ble_eq_true rfl) (Qt.extract rfl rfl) ?_)
              | (refine JO.alloc rfl (Nat.le_of_ble_eq_true rfl) ?_; intro _)
              | (refine JO.box rfl (Nat.le_of_ble_eq_true rfl) rfl rfl ?_; intro _)
              | (refine K.pick ?_; refine JO.q rfl rfl (Nat.le_of_ble_eq_true rfl) (Qt.pick rfl rfl) ?_)
              | (refine K.build ?_; refine JO.q rfl rfl (Nat.le_of_ble_eq_true rfl) (Qt.build rfl (by kernel_rfl)) ?_)
              | (refine K.lit ?_; first | (refine JO.lit0 rfl (Nat.le_of_ble_eq_true rfl) ?_; intro _) | (refine JO.lit1 rfl (Nat.le_of_ble_eq_true rfl) rfl rfl rfl rfl rfl ?_; intro _))
              | (refine K.nilCheck ?_; refine JO.q rfl rfl (Nat.le_of_ble_eq_true rfl) (Qt.nilCheck rfl rfl) ?_)
              | (refine K.field ?_; refine JO.q rfl rfl (Nat.le_of_ble_eq_true rfl) (Qt.field rfl rfl (by kernel_rfl) rfl) ?_)
              | (refine K.convert ?_; refine JO.q rfl rfl (Nat.le_of_ble_eq_true rfl) (Qt.conv rfl rfl) ?_)
              | refine JO.nil ?_
              | refine J.seq ?_
              | refine J.region ?_
              | refine J.block ?_
              | refine J.inBlock ?_
              | refine J.skip ?_
              | refine J.exit rfl ?_
              | refine J.cond_t rfl ?_
              | refine J.cond_f rfl ?_
              | refine JO.no rfl rfl (Nat.le_of_ble_eq_true rfl) ?_)
          first
            | exact J.ret Try.func6 rfl (.cons (.cell 0 rfl rfl rfl) (.cons (.tmp rfl) .nil)) () (by first | exact .agg (by repeat (first | exact .nil | refine .cons .refl ?_ | refine .cons .nil ?_ | refine .cons .snoc ?_ | refine .cons .clone ?_)) | exact .refl | exact .c .nil | exact .tup (by repeat (first | exact .nil | refine .cons (.agg (by repeat (first | exact .nil | refine .cons .refl ?_ | refine .cons .nil ?_ | refine .cons .snoc ?_ | refine .cons .clone ?_))) ?_ | refine .cons .refl ?_ | refine .cons (.c .nil) ?_ | refine .cons (.c .snoc) ?_ | refine .cons (.c .clone) ?_))) [] .nil rfl rfl
            | exact J.ret Try.func6 rfl (.cons (.cell 1 rfl rfl rfl) (.cons (.tmp rfl) .nil)) () (by first | exact .agg (by repeat (first | exact .nil | refine .cons .refl ?_ | refine .cons .nil ?_ | refine .cons .snoc ?_ | refine .cons .clone ?_)) | exact .refl | exact .c .nil | exact .tup (by repeat (first | exact .nil | refine .cons (.agg (by repeat (first | exact .nil | refine .cons .refl ?_ | refine .cons .nil ?_ | refine .cons .snoc ?_ | refine .cons .clone ?_))) ?_ | refine .cons .refl ?_ | refine .cons (.c .nil) ?_ | refine .cons (.c .snoc) ?_ | refine .cons (.c .clone) ?_))) [] .nil rfl rfl
            | exact J.ret Try.func6 rfl (.cons (.cell 2 rfl rfl rfl) (.cons (.tmp rfl) .nil)) () (by first | exact .agg (by repeat (first | exact .nil | refine .cons .refl ?_ | refine .cons .nil ?_ | refine .cons .snoc ?_ | refine .cons .clone ?_)) | exact .refl | exact .c .nil | exact .tup (by repeat (first | exact .nil | refine .cons (.agg (by repeat (first | exact .nil | refine .cons .refl ?_ | refine .cons .nil ?_ | refine .cons .snoc ?_ | refine .cons .clone ?_))) ?_ | refine .cons .refl ?_ | refine .cons (.c .nil) ?_ | refine .cons (.c .snoc) ?_ | refine .cons (.c .clone) ?_))) [] .nil rfl rfl
            | exact J.ret Try.func6 rfl (.cons (.cell 3 rfl rfl rfl) (.cons (.tmp rfl) .nil)) () (by first | exact .agg (by repeat (first | exact .nil | refine .cons .refl ?_ | refine .cons .nil ?_ | refine .cons .snoc ?_ | refine .cons .clone ?_)) | exact .refl | exact .c .nil | exact .tup (by repeat (first | exact .nil | refine .cons (.agg (by repeat (first | exact .nil | refine .cons .refl ?_ | refine .cons .nil ?_ | refine .cons .snoc ?_ | refine .cons .clone ?_))) ?_ | refine .cons .refl ?_ | refine .cons (.c .nil) ?_ | refine .cons (.c .snoc) ?_ | refine .cons (.c .clone) ?_))) [] .nil rfl rfl
            | exact J.ret Try.func6 rfl (.cons (.cell 4 rfl rfl rfl) (.cons (.tmp rfl) .nil)) () (by first | exact .agg (by repeat (first | exact .nil | refine .cons .refl ?_ | refine .cons .nil ?_ | refine .cons .snoc ?_ | refine .cons .clone ?_)) | exact .refl | exact .c .nil | exact .tup (by repeat (first | exact .nil | refine .cons (.agg (by repeat (first | exact .nil | refine .cons .refl ?_ | refine .cons .nil ?_ | refine .cons .snoc ?_ | refine .cons .clone ?_))) ?_ | refine .cons .refl ?_ | refine .cons (.c .nil) ?_ | refine .cons (.c .snoc) ?_ | refine .cons (.c .clone) ?_))) [] .nil rfl rfl
            | exact J.ret Try.func6 rfl (.cons (.cell 5 rfl rfl rfl) (.cons (.tmp rfl) .nil)) () (by first | exact .agg (by repeat (first | exact .nil | refine .cons .refl ?_ | refine .cons .nil ?_ | refine .cons .snoc ?_ | refine .cons .clone ?_)) | exact .refl | exact .c .nil | exact .tup (by repeat (first | exact .nil | refine .cons (.agg (by repeat (first | exact .nil | refine .cons .refl ?_ | refine .cons .nil ?_ | refine .cons .snoc ?_ | refine .cons .clone ?_))) ?_ | refine .cons .refl ?_ | refine .cons (.c .nil) ?_ | refine .cons (.c .snoc) ?_ | refine .cons (.c .clone) ?_))) [] .nil rfl rfl
            | exact J.ret Try.func6 rfl (.cons (.cell 6 rfl rfl rfl) (.cons (.tmp rfl) .nil)) () (by first | exact .agg (by repeat (first | exact .nil | refine .cons .refl ?_ | refine .cons .nil ?_ | refine .cons .snoc ?_ | refine .cons .clone ?_)) | exact .refl | exact .c .nil | exact .tup (by repeat (first | exact .nil | refine .cons (.agg (by repeat (first | exact .nil | refine .cons .refl ?_ | refine .cons .nil ?_ | refine .cons .snoc ?_ | refine .cons .clone ?_))) ?_ | refine .cons .refl ?_ | refine .cons (.c .nil) ?_ | refine .cons (.c .snoc) ?_ | refine .cons (.c .clone) ?_))) [] .nil rfl rfl
            | exact J.ret Try.func6 rfl (.cons (.cell 7 rfl rfl rfl) (.cons (.tmp rfl) .nil)) () (by first | exact .agg (by repeat (first | exact .nil | refine .cons .refl ?_ | refine .cons .nil ?_ | refine .cons .snoc ?_ | refine .cons .clone ?_)) | exact .refl | exact .c .nil | exact .tup (by repeat (first | exact .nil | refine .cons (.agg (by repeat (first | exact .nil | refine .cons .refl ?_ | refine .cons .nil ?_ | refine .cons .snoc ?_ | refine .cons .clone ?_))) ?_ | refine .cons .refl ?_ | refine .cons (.c .nil) ?_ | refine .cons (.c .snoc) ?_ | refine .cons (.c .clone) ?_))) [] .nil rfl rfl
            | exact J.ret Try.func6 rfl (.cons (.cell 8 rfl rfl rfl) (.cons (.tmp rfl) .nil)) () (by first | exact .agg (by repeat (first | exact .nil | refine .cons .refl ?_ | refine .cons .nil ?_ | refine .cons .snoc ?_ | refine .cons .clone ?_)) | exact .refl | exact .c .nil | exact .tup (by repeat (first | exact .nil | refine .cons (.agg (by repeat (first | exact .nil | refine .cons .refl ?_ | refine .cons .nil ?_ | refine .cons .snoc ?_ | refine .cons .clone ?_))) ?_ | refine .cons .refl ?_ | refine .cons (.c .nil) ?_ | refine .cons (.c .snoc) ?_ | refine .cons (.c .clone) ?_))) [] .nil rfl rfl
end Fl
end Go.Proofs.Ytofnbflkhgammaa
/- FpG -/
namespace Go.Proofs.Ytofnbflkhgammaa
open Go.RowKit
set_option linter.unusedVariables false
set_option linter.unusedSimpArgs false
set_option linter.unnecessarySimpa false
namespace Fl
set_option maxRecDepth 100000
section
variable {P : Program} {c : Cx} {f : Fm} {L : List Res} {T X : TypeId} {ps : String} {af : Array Edge} {gd : Option (Nat × Bool)} {t : Nat}
theorem Qt.eqNil {x y : Operand} {Y : Nat} {p : Option Addr} (hu : P.underlying X = some (.pointer (P.pointee X))) (h : evD f x = some (.c (.v (.pointer p)))) (hy : evD f y = some (.c (.v (.pointer none)))) : Qt P c [] ⟨t, .binOp .eql X x y Y, T, ps, af, gd⟩ f L (.c (.v (.bool p.isNone))) := ⟨fun a w s => by
  have rx := s.val h
  have ry := s.val hy
  refine ⟨.bool p.isNone, by unfold RD RA; exact ⟨rfl, rfl⟩, fun w' k => ?_⟩
  simp [execOp, rx, ry, eqGuard_at_pointer, Sem.run_bind, run_eql_pointer_nil _ _ _ hu]⟩
theorem Qt.neNil {x y : Operand} {Y : Nat} {p : Option Addr} (hu : P.underlying X = some (.pointer (P.pointee X))) (h : evD f x = some (.c (.v (.pointer p)))) (hy : evD f y = some (.c (.v (.pointer none)))) : Qt P c [] ⟨t, .binOp .neq X x y Y, T, ps, af, gd⟩ f L (.c (.v (.bool (!p.isNone)))) := ⟨fun a w s => by
  have rx := s.val h
  have ry := s.val hy
  refine ⟨.bool (!p.isNone), by unfold RD RA; exact ⟨rfl, rfl⟩, fun w' k => ?_⟩
  simp [execOp, rx, ry, eqGuard_at_pointer, Sem.run_bind, run_neq_pointer_nil _ _ _ hu]⟩
/-- a slot's thing, told with less -/
theorem St.castS {d d' : D} {a : Act} {w : World} (s : St c ((t, d) :: f) L a w) (h : ∀ (ok : Nat → Prop) (w : World) (x : Value), RD ok w d x → RD ok w d' x) : St c ((t, d') :: f) L a w :=
  ⟨s.kp, s.size, s.dfr, s.res, s.frm, s.ap, fun u e hu => by
    by_cases e1 : t = u
    · subst e1; rw [look_cons_eq] at hu; cases hu; exact h _ _ _ (s.fr t d (look_cons_eq _ _ _))
    · rw [look_cons_ne e1] at hu; exact s.fr u e (by rw [look_cons_ne e1]; exact hu)⟩
theorem LeC.rep' {ok : Nat → Prop} {w : World} : ∀ {xs ys : List A}, LeC xs ys → ∀ {vs : List Value}, RC ok w xs vs → RC ok w ys vs
  | _, _, .nil, vs, r => r
  | _, _, .refl, vs, r => r
  | _, _, .cons h k, vs, r => by
    unfold RC at r
    obtain ⟨x, zs, rfl, r1, r2⟩ := r
    exact RC.cons (h.rep r1) (LeC.rep' k r2)
/-- a literal of one element, which is read on; a slice in it may be nil -/
theorem Ld.lit1L {e sz : Nat} {x : Operand} {d : D} {cs ds : List A} {zs : List Value} [i : TyS P X e sz] [z : TyZ' P e zs] (ht : t < c.N) (h : evD f x = some d) (hc : cellsD d = some cs) (hn : cs.length = sz) (h0 : Nat.ble 1 sz = true) (hs : Nat.ble sz 1000 = true) (hle : LeC cs ds) :
    Ld P c ⟨some t, .buildSlice X 1 #[(0, x)], T, ps, af, gd⟩ f L [] (fun _ : Unit => (t, .c (.r sz [ds])) :: f) (fun _ => L) := ⟨fun a w s K Q hK =>
  (Ld.lit1R (P := P) (c := c) (T := T) (ps := ps) (af := af) (gd := gd) (f := f) (L := L) (e := e) (sz := sz) (zs := zs) (X := X) (t := t) ht h hc hn h0 hs).go a w s K Q fun b u w' k' s' hf => hK () u w' k' (s'.castS fun ok w x r => by
    unfold RD at r ⊢
    unfold RA at r ⊢
    obtain ⟨ao, cap, rfl, h1, h2, h3⟩ := r
    refine ⟨ao, cap, rfl, h1, h2, ?_⟩
    rcases h3 with h3 | ⟨g, off, rfl, ho, hg, hl⟩
    · cases h3
    · refine .inr ⟨g, off, rfl, ho, hg, ?_⟩
      unfold RL at hl ⊢
      obtain ⟨⟨vs, v1, v2, v3⟩, hl2⟩ := hl
      refine ⟨⟨vs, v1, v2, hle.rep' v3⟩, ?_⟩
      unfold RL at hl2 ⊢
      trivial) hf⟩
end
theorem fw_start {p : List (List Pn.Op)} {sn cn : Nat} {d : List Int} (hr : Pn.right p = true) (hs : sn ≤ 64) (hd : d.length ≤ 100000) : Fw (Sx.start p sn cn d) := by
  obtain ⟨r1, r2, r3⟩ := right_facts hr
  refine ⟨by simpa [Sx.start] using r2, by simp [Sx.start], by simpa [Sx.start] using hs, by simp [Sx.start], hd, by simp [Sx.start], fun l hl => ?_, by simp [Sx.start], by simp [Sx.start], by simp [Sx.start], fun x hx => ?_, fun x hx => ?_⟩
  · simp [Sx.start] at hl; obtain ⟨_, rfl⟩ := hl; simp
  · simp only [Sx.start, List.mem_map] at hx
    obtain ⟨ops, ho, rfl⟩ := hx
    have := r3 ops ho
    exact ⟨by simp [Sx.clean]; omega, fun o hoo => by have := this.2 o hoo; omega⟩
  · simp only [Sx.start, List.mem_map] at hx
    obtain ⟨ops, ho, rfl⟩ := hx
    simp [Sx.clean]
theorem fe_start {p : List (List Pn.Op)} {sn cn : Nat} {d : List Int} (hr : Pn.right p = true) (hs : sn ≤ 64) (hd : d.length ≤ 100000) : Fe (Sx.start p sn cn d) := by
  obtain ⟨r1, r2, r3⟩ := right_facts hr
  refine ⟨by simp [Sx.start]; omega, by simp [Sx.start], by simp [Sx.start]; omega, hd, by simp [Sx.start], by simp [Sx.start], fun l hl => ?_, by simp [Sx.start], fun x hx => ?_, by simp [Sx.start]⟩
  · simp [Sx.start] at hl; obtain ⟨_, rfl⟩ := hl; simp
  · simp only [Sx.start, List.mem_map] at hx
    obtain ⟨ops, ho, rfl⟩ := hx
    have := r3 ops ho
    exact ⟨by simp [Sx.clean]; omega, fun o hoo => by have := this.2 o hoo; omega, by simp [Sx.clean], by simp [Sx.clean], by simp [Sx.clean], by simp [Sx.clean]⟩
theorem ptrW : Try.prog.underlying 30 = some (.pointer (Try.prog.pointee 30)) := by kernel_rfl
set_option maxHeartbeats 2000000 in
theorem c_alive : Pure Try.prog 4 [] (.c (bI true)) := by
  have hr : Pn.right [[]] = true := by decide
  have CN := c_wNew [[]] 0 1 [] hr (by omega) (by omega) (by omega) (by simp)
  refine Con.intro Try.func4 rfl rfl rfl (fun ok e => ?_)
  have FW : Fw (Sx.start [[]] ((0 : Nat) : Int) ((1 : Nat) : Int) []) := fw_start hr (by omega) (by simp)
  repeat (first
      | (refine K.fieldAddr ?_; refine JO.q rfl rfl (Nat.le_of_ble_eq_true rfl) (Qt.fieldAddr rfl rfl) ?_)
      | (refine K.load ?_; first | refine JO.q rfl rfl (Nat.le_of_ble_eq_true rfl) (Qt.load1 rfl .el rfl) ?_ | refine JO.q rfl rfl (Nat.le_of_ble_eq_true rfl) (Qt.loadW rfl .el rfl) ?_ | refine JO.q rfl rfl (Nat.le_of_ble_eq_true rfl) (Qt.loadN rfl .el rfl rfl) ?_ | refine JO.q rfl rfl (Nat.le_of_ble_eq_true rfl) (Qt.load1b rfl (by exact rfl)) ?_ | refine JO.q rfl rfl (Nat.le_of_ble_eq_true rfl) (Qt.loadWb rfl (by exact rfl)) ?_ | refine JO.q rfl rfl (Nat.le_of_ble_eq_true rfl) (Qt.loadNb rfl (by exact rfl) (by exact rfl)) ?_)
      | (refine K.move ?_; refine JO.q rfl rfl (Nat.le_of_ble_eq_true rfl) (Qt.move rfl) ?_)
      | (refine K.store ?_; first | refine JO.ld (Ld.storeW rfl rfl rfl (by exact rfl) (by exact rfl)) rfl (fun _ => ?_) | refine JO.ld (Ld.store1 rfl rfl (by exact rfl)) rfl (fun _ => ?_) | refine JO.ld (Ld.storeN rfl rfl rfl (by exact rfl) (by exact rfl)) rfl (fun _ => ?_))
      | (refine K.assign ?_; refine JO.q rfl rfl (Nat.le_of_ble_eq_true rfl) (Qt.assign rfl) ?_)
      | (refine K.binOp ?_; first | refine JO.q rfl rfl (Nat.le_of_ble_eq_true rfl) (Qt.eqNil ptrW rfl rfl) ?_ | refine JO.q rfl rfl (Nat.le_of_ble_eq_true rfl) (Qt.cmp rfl rfl rfl) ?_ | refine JO.q rfl rfl (Nat.le_of_ble_eq_true rfl) (Qt.eqB rfl rfl) ?_ | refine JO.q rfl rfl (Nat.le_of_ble_eq_true rfl) (Qt.neB rfl rfl) ?_)
      | (refine K.call ?_; first | (refine JO.ld (Ld.callA CN (Nat.le_of_ble_eq_true rfl) rfl (.cons .refl (.cons .refl (.cons (.c .nil) .nil)))) rfl ?_; intro x))
      | (refine K.unOp ?_; refine JO.q rfl rfl (Nat.le_of_ble_eq_true rfl) (Qt.not rfl) ?_)
      | (refine K.bi ?_; first | refine JO.q rfl rfl (Nat.le_of_ble_eq_true rfl) (Qt.lenM rfl) ?_ | refine JO.q rfl rfl (Nat.le_of_ble_eq_true rfl) (Qt.lenR rfl) ?_ | refine JO.q rfl rfl (Nat.le_of_ble_eq_true rfl) (Qt.lenV rfl) ?_ | refine JO.q rfl rfl (Nat.le_of_ble_eq_true rfl) (Qt.lenO rfl) ?_)
      | (refine K.extract ?_; refine JO.q rfl rfl (Nat.le_of_ble_eq_true rfl) (Qt.extract rfl rfl) ?_)
      | (refine JO.alloc rfl (Nat.le_of_ble_eq_true rfl) ?_; intro _)
      | (refine JO.box rfl (Nat.le_of_ble_eq_true rfl) rfl rfl ?_; intro _)
      | (refine K.pick ?_; refine JO.q rfl rfl (Nat.le_of_ble_eq_true rfl) (Qt.pick rfl rfl) ?_)
      | (refine K.build ?_; refine JO.q rfl rfl (Nat.le_of_ble_eq_true rfl) (Qt.build rfl (by kernel_rfl)) ?_)
      | (refine K.lit ?_; first | (refine JO.ld (Ld.lit1L (ds := [.r 6 []]) (Nat.le_of_ble_eq_true rfl) rfl rfl rfl rfl rfl (.cons .nil .nil)) rfl (fun _ => ?_)) | (refine JO.lit0 rfl (Nat.le_of_ble_eq_true rfl) ?_; intro _) | (refine JO.lit1 rfl (Nat.le_of_ble_eq_true rfl) rfl rfl rfl rfl rfl ?_; intro _))
      | (refine K.nilCheck ?_; refine JO.q rfl rfl (Nat.le_of_ble_eq_true rfl) (Qt.nilCheck rfl rfl) ?_)
      | (refine K.field ?_; refine JO.q rfl rfl (Nat.le_of_ble_eq_true rfl) (Qt.field rfl rfl (by kernel_rfl) rfl) ?_)
      | (refine K.convert ?_; refine JO.q rfl rfl (Nat.le_of_ble_eq_true rfl) (Qt.conv rfl rfl) ?_)
      | refine JO.nil ?_
      | refine J.seq ?_
      | refine J.region ?_
      | refine J.block ?_
      | refine J.inBlock ?_
      | refine J.skip ?_
      | refine J.exit rfl ?_
      | refine J.cond_t rfl ?_
      | refine J.cond_f rfl ?_
      | refine JO.no rfl rfl (Nat.le_of_ble_eq_true rfl) ?_)
  rename_i x
  have CS := c_wState x.1 x.2 _ FW
  repeat (first
      | (refine K.fieldAddr ?_; refine JO.q rfl rfl (Nat.le_of_ble_eq_true rfl) (Qt.fieldAddr rfl rfl) ?_)
      | (refine K.load ?_; first | refine JO.q rfl rfl (Nat.le_of_ble_eq_true rfl) (Qt.load1 rfl .el rfl) ?_ | refine JO.q rfl rfl (Nat.le_of_ble_eq_true rfl) (Qt.loadW rfl .el rfl) ?_ | refine JO.q rfl rfl (Nat.le_of_ble_eq_true rfl) (Qt.loadN rfl .el rfl rfl) ?_ | refine JO.q rfl rfl (Nat.le_of_ble_eq_true rfl) (Qt.load1b rfl (by exact rfl)) ?_ | refine JO.q rfl rfl (Nat.le_of_ble_eq_true rfl) (Qt.loadWb rfl (by exact rfl)) ?_ | refine JO.q rfl rfl (Nat.le_of_ble_eq_true rfl) (Qt.loadNb rfl (by exact rfl) (by exact rfl)) ?_)
      | (refine K.move ?_; refine JO.q rfl rfl (Nat.le_of_ble_eq_true rfl) (Qt.move rfl) ?_)
      | (refine K.store ?_; first | refine JO.ld (Ld.storeW rfl rfl rfl (by exact rfl) (by exact rfl)) rfl (fun _ => ?_) | refine JO.ld (Ld.store1 rfl rfl (by exact rfl)) rfl (fun _ => ?_) | refine JO.ld (Ld.storeN rfl rfl rfl (by exact rfl) (by exact rfl)) rfl (fun _ => ?_))
      | (refine K.assign ?_; refine JO.q rfl rfl (Nat.le_of_ble_eq_true rfl) (Qt.assign rfl) ?_)
      | (refine K.indexAddr ?_; refine JO.q rfl rfl (Nat.le_of_ble_eq_true rfl) (Qt.indexR rfl rfl (by omega) (rfl)) ?_)
      | (refine K.binOp ?_; first | refine JO.q rfl rfl (Nat.le_of_ble_eq_true rfl) (Qt.cmp rfl rfl rfl) ?_ | refine JO.q rfl rfl (Nat.le_of_ble_eq_true rfl) (Qt.eqB rfl rfl) ?_ | refine JO.q rfl rfl (Nat.le_of_ble_eq_true rfl) (Qt.neB rfl rfl) ?_)
      | (refine K.call ?_; first | (refine JO.ld (Ld.callA (CS) (Nat.le_of_ble_eq_true rfl) rfl (by first | exact LeDs.nil | exact LeDs.cons .refl .nil | exact LeDs.cons .refl (.cons .refl .nil) | exact LeDs.cons .refl (.cons .refl (.cons .refl .nil)) | exact LeDs.cons .refl (.cons .refl (.cons .refl (.cons .refl .nil))) | (repeat (first | exact LeDs.nil | refine LeDs.cons (LeD.agg (by repeat (first | exact .nil | refine .cons .refl ?_ | refine .cons .nil ?_ | refine .cons .snoc ?_ | refine .cons .clone ?_))) ?_ | refine LeDs.cons LeD.refl ?_ | refine LeDs.cons (LeD.c LeA.nil) ?_ | refine LeDs.cons (LeD.c LeA.snoc) ?_ | refine LeDs.cons (LeD.c LeA.clone) ?_); done))) rfl ?_; intro _))
      | (refine K.unOp ?_; refine JO.q rfl rfl (Nat.le_of_ble_eq_true rfl) (Qt.not rfl) ?_)
      | (refine K.bi ?_; first | refine JO.q rfl rfl (Nat.le_of_ble_eq_true rfl) (Qt.lenM rfl) ?_ | refine JO.q rfl rfl (Nat.le_of_ble_eq_true rfl) (Qt.lenR rfl) ?_ | refine JO.q rfl rfl (Nat.le_of_ble_eq_true rfl) (Qt.lenV rfl) ?_ | refine JO.q rfl rfl (Nat.le_of_ble_eq_true rfl) (Qt.lenO rfl) ?_)
      | (refine K.extract ?_; refine JO.q rfl rfl (Nat.le_of_ble_eq_true rfl) (Qt.extract rfl rfl) ?_)
      | (refine JO.alloc rfl (Nat.le_of_ble_eq_true rfl) ?_; intro _)
      | (refine JO.box rfl (Nat.le_of_ble_eq_true rfl) rfl rfl ?_; intro _)
      | (refine K.pick ?_; refine JO.q rfl rfl (Nat.le_of_ble_eq_true rfl) (Qt.pick rfl rfl) ?_)
      | (refine K.build ?_; refine JO.q rfl rfl (Nat.le_of_ble_eq_true rfl) (Qt.build rfl (by kernel_rfl)) ?_)
      | (refine K.lit ?_; first | (refine JO.lit0 rfl (Nat.le_of_ble_eq_true rfl) ?_; intro _) | (refine JO.lit1 rfl (Nat.le_of_ble_eq_true rfl) rfl rfl rfl rfl rfl ?_; intro _))
      | (refine K.nilCheck ?_; refine JO.q rfl rfl (Nat.le_of_ble_eq_true rfl) (Qt.nilCheck rfl rfl) ?_)
      | (refine K.field ?_; refine JO.q rfl rfl (Nat.le_of_ble_eq_true rfl) (Qt.field rfl rfl (by kernel_rfl) rfl) ?_)
      | (refine K.convert ?_; refine JO.q rfl rfl (Nat.le_of_ble_eq_true rfl) (Qt.conv rfl rfl) ?_)
      | refine JO.nil ?_
      | refine J.seq ?_
      | refine J.region ?_
      | refine J.block ?_
      | refine J.inBlock ?_
      | refine J.skip ?_
      | refine J.exit rfl ?_
      | refine J.cond_t rfl ?_
      | refine J.cond_f rfl ?_
      | refine JO.no rfl rfl (Nat.le_of_ble_eq_true rfl) ?_)
  exact J.ret Try.func4 rfl (.cons (.tmp rfl) .nil) () (by first | exact .agg (by repeat (first | exact .nil | refine .cons .refl ?_ | refine .cons .nil ?_ | refine .cons .snoc ?_ | refine .cons .clone ?_)) | exact .refl | exact .c .nil | exact .tup (by repeat (first | exact .nil | refine .cons (.agg (by repeat (first | exact .nil | refine .cons .refl ?_ | refine .cons .nil ?_ | refine .cons .snoc ?_ | refine .cons .clone ?_))) ?_ | refine .cons .refl ?_ | refine .cons (.c .nil) ?_ | refine .cons (.c .snoc) ?_ | refine .cons (.c .clone) ?_))) [] .nil rfl rfl
end Fl
end Go.Proofs.Ytofnbflkhgammaa
/- Given -/
namespace Go.Proofs.Ytofnbflkhgammaa
open Go.RowKit Go.ChangeShapes Go.WideShapes Go.Deep
set_option linter.unusedVariables false
set_option linter.unusedSimpArgs false
set_option linter.unnecessarySimpa false
namespace Fl
section
variable {α : Type} {E : World → List Value → α → List Nat → Prop} {enc : α → List A}
/-- an element in the older words is one told in Fl's words -/
def Si (enc : α → List A) (E : World → List Value → α → List Nat → Prop) : Prop :=
  ∀ (ok : Nat → Prop) (w : World) (cs : List Value) (a : α) (U : List Nat), E w cs a U → (∀ x ∈ U, ok x) → RC ok w (enc a) cs
theorem Si.rx (h : Si enc E) {ok : Nat → Prop} {w : World} {sz : Nat} {S : List Nat} (hS : ∀ x ∈ S, ok x) : ∀ {l : List α} {xs : List Value}, xs.length = l.length * sz → Parts E sz w xs l S → RX ok w sz (l.map enc) xs
  | [], xs, hl, r => by simp at hl; subst hl; rfl
  | a :: l, xs, hl, r => by
    have hl' : xs.length = l.length * sz + sz := by rw [hl, List.length_cons, Nat.add_mul]; omega
    refine ⟨xs.take sz, xs.drop sz, (List.take_append_drop sz xs).symm, by rw [List.length_take]; omega, ?_, Si.rx h hS (by rw [List.length_drop]; omega) fun k b hk => ?_⟩
    · obtain ⟨U, u1, u2⟩ := r 0 a rfl
      have : chunk xs sz 0 = xs.take sz := by unfold chunk; simp
      rw [this] at u1
      exact h ok w _ a U u1 fun x hx => hS x (u2 x hx)
    · obtain ⟨U, u1, u2⟩ := r (k + 1) b (by simpa using hk)
      have : chunk xs sz (k + 1) = chunk (xs.drop sz) sz k := by
        unfold chunk
        rw [List.drop_drop, show (k + 1) * sz = sz + k * sz by rw [Nat.add_mul]; omega]
      rw [this] at u1
      exact ⟨U, u1, u2⟩
theorem Si.ra (h : Si enc E) {ok : Nat → Prop} {w : World} {sz : Nat} {v : Value} {l : List α} {S : List Nat} (r : GV E sz w v l S) (hS : ∀ x ∈ S, ok x) : RA ok w (.r sz (l.map enc)) v := by
  obtain ⟨xs, T, v1, v2, v3, v4, v5⟩ := r
  exact RA.of_view (ys := xs) (S := T) (by rw [List.length_map]; exact v1) (h.rx hS v1.len v2) fun g hg => hS g (v3 g hg)
theorem Si.row (h : Si enc E) {sz : Nat} : Si (fun l : List α => [A.r sz (l.map enc)]) (rowE E sz) := fun ok w cs l U r hS => by
  obtain ⟨v, rfl, g⟩ := r
  exact RC.cons (h.ra g hS) RC.nil
end
theorem RA.w {ok : Nat → Prop} {w : World} {v : Value} (h : v.oneCell' = true) : RA ok w (.v v) v := by unfold RA; exact ⟨rfl, h⟩
theorem si_case : Si eCs caseE := fun ok w cs c U r _ => by
  obtain ⟨rfl, _⟩ := r
  exact RC.cons (RA.w rfl) (RC.cons (RA.w rfl) (RC.cons (RA.w rfl) RC.nil))
theorem si_op : Si eOp opE := fun ok w cs o U r hS => by
  obtain ⟨vc, rfl, g⟩ := r
  exact RC.cons (RA.w rfl) (RC.cons (RA.w rfl) (RC.cons (RA.w rfl) (RC.cons (RA.w rfl) (RC.cons (si_case.ra g hS) (RC.cons (RA.w rfl) RC.nil)))))
theorem si_ops : Si (fun l : List Pn.Op => [A.r 6 (l.map eOp)]) opsE := si_op.row
theorem si_u16 : Si (fun n : Int => [A.v (.int .u16 n)]) (numE .u16) := fun ok w cs n U r _ => by
  obtain ⟨rfl, _⟩ := r
  exact RC.cons (RA.w rfl) RC.nil
theorem si_int : Si (fun n : Int => [nI n]) (numE .i64) := fun ok w cs n U r _ => by
  obtain ⟨rfl, _⟩ := r
  exact RC.cons (RA.w rfl) RC.nil
/-- how a machine begins: plan, config's numbers, draws -/
structure GvD where
  p : List (List Pn.Op)
  sn : Int
  cn : Int
  d : List Int
def gvE (w : World) (cs : List Value) (a : GvD) (U : List Nat) : Prop :=
  ∃ vp vd, cs = [vp, .int .i64 a.sn, .int .i64 a.cn, vd] ∧ GV opsE 1 w vp a.p U ∧ GV (numE .u16) 1 w vd a.d U
theorem gvE_kept : Kept gvE :=
  ⟨fun h k hn => by obtain ⟨vp, vd, h1, h2, h3⟩ := h; exact ⟨vp, vd, h1, h2.keep opsE_kept k hn, h3.keep (numE_kept _) k hn⟩, fun h => by obtain ⟨vp, vd, h1, h2, h3⟩ := h; exact h2.lt⟩
def gvS (p : List (List Pn.Op)) (sn cn : Int) (d : List Int) : List A := [opsA p, nI sn, nI cn, drs d]
theorem gv_rc {ok : Nat → Prop} {w : World} {cs : List Value} {a : GvD} {U : List Nat} (h : gvE w cs a U) (hS : ∀ x ∈ U, ok x) : RC ok w (gvS a.p a.sn a.cn a.d) cs := by
  obtain ⟨vp, vd, rfl, h2, h3⟩ := h
  exact RC.cons (si_ops.ra h2 hS) (RC.cons (RA.w rfl) (RC.cons (RA.w rfl) (RC.cons (si_u16.ra h3 hS) RC.nil)))
theorem gv_int : Opens Try.prog 3 (numE .i64) 1 := opens_num Try.underlying3 (by kernel_rfl)
theorem gv_u16 : Opens Try.prog 80 (numE .u16) 1 := opens_num Try.underlying80 (by kernel_rfl)
theorem gv_u16s : Opens Try.prog 25 (rowE (numE .u16) 1) 1 := opens_row Try.underlying25 (by kernel_rfl) gv_u16
def cfE (w : World) (cs : List Value) (a : Int × Int) (U : List Nat) : Prop := cs = [.int .i64 a.1, .int .i64 a.2] ∧ U = []
theorem cfE_kept : Kept cfE := ⟨fun h _ _ => h, fun h x hx => by obtain ⟨_, rfl⟩ := h; simp at hx⟩
theorem gv_cfg : Opens Try.prog 24 cfE 2 := by
  refine ⟨by omega, cfE_kept, by kernel_rfl, ?_⟩
  intro H enc W fuel cs x h
  obtain ⟨xs, n, _, _, hl, hxl, hf⟩ := DataW.trod_struct Try.underlying24 h
  have hl2 : cs.length = 2 := hl.trans (by kernel_rfl)
  obtain ⟨v0, v1, rfl⟩ := list2 hl2
  have hx2 : xs.length = 2 := hxl.trans (by kernel_rfl)
  have hs : ∀ i, i < 2 → (xs[i]?).isSome = true := fun i hi => by simp [hx2, hi]
  obtain ⟨o0, _, a0, U0, e0, _, _⟩ := gv_int.field rfl rfl (hs 0 (by omega)) (hf 0 _ rfl)
  obtain ⟨o1, _, a1, U1, e1, _, _⟩ := gv_int.field rfl rfl (hs 1 (by omega)) (hf 1 _ rfl)
  simp at e0 e1 o0 o1
  subst e0 e1
  exact ⟨rfl, (by intro y hy; simp at hy; rcases hy with rfl | rfl <;> rfl), (a0, a1), [], rfl, rfl⟩
theorem opens_given : Opens Try.prog 27 gvE 4 := by
  refine ⟨by omega, gvE_kept, by kernel_rfl, ?_⟩
  intro H enc W fuel cs x h
  obtain ⟨xs, n, _, _, hl, hxl, hf⟩ := DataW.trod_struct Try.underlying27 h
  have hl4 : cs.length = 4 := hl.trans (by kernel_rfl)
  obtain ⟨v0, v1, v2, v3, rfl⟩ := list4 hl4
  have hx3 : xs.length = 3 := hxl.trans (by kernel_rfl)
  have hs : ∀ i, i < 3 → (xs[i]?).isSome = true := fun i hi => by simp [hx3, hi]
  obtain ⟨o0, _, a0, U0, vp, e0, h0⟩ := opens_plan.field rfl rfl (hs 0 (by omega)) (hf 0 _ rfl)
  obtain ⟨o1, _, a1, U1, e1, _⟩ := gv_cfg.field rfl rfl (hs 1 (by omega)) (hf 1 _ rfl)
  obtain ⟨o2, _, a2, U2, vd, e2, h2⟩ := gv_u16s.field rfl rfl (hs 2 (by omega)) (hf 2 _ rfl)
  simp at e0 e1 e2 o0 o1 o2
  obtain ⟨e1a, e1b⟩ := e1
  subst e0 e1a e1b e2
  have hlt : ∀ x ∈ U0 ++ U2, x < W.heap.size := fun x hx => by
    rcases List.mem_append.1 hx with h | h
    · exact h0.lt x h
    · exact h2.lt x h
  exact ⟨rfl, (by intro y hy; simp at hy; rcases hy with rfl | rfl | rfl | rfl <;> first | rfl | assumption), ⟨a0, a1.1, a1.2, a2⟩, U0 ++ U2, _, _, rfl, h0.mono (fun x hx => by simp [hx]) hlt, h2.mono (fun x hx => by simp [hx]) hlt⟩
/-- a law that is shown in Fl's words -/
theorem law1 {P : Program} {F : FuncId} {ds : List D} (h : Pure P F ds (.c (bI true))) {w : World} {xs : List Value} (hd : RDs (fun _ => True) w ds xs) : Calls P F xs.toArray w fun e w' => e = .returned (.bool true) ∧ Keeps [] w w' := by
  refine Calls.mono (h.go (fun _ => True) w xs hd (by simp) List.Pairwise.nil (by simp [foots])) ?_
  rintro en w' ⟨i, x, rfl, kp, _, _, _, r⟩
  unfold RD bI RA at r
  exact ⟨by rw [r.1], by simpa [foots] using kp⟩
end Fl
end Go.Proofs.Ytofnbflkhgammaa
