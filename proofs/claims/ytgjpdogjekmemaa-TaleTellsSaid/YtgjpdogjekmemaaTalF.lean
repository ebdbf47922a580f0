/-
  The chapter's example of the tale holds.
  Conditions: none.
-/
import Derived.Test.YtgjpdogjekmemaaTalC
namespace Go.Proofs.Ytgjpdogjekmemaa
open Go.RowKit
set_option linter.unusedVariables false
set_option linter.unusedSimpArgs false
set_option linter.unnecessarySimpa false
namespace Fl
set_option maxRecDepth 100000
def mk1 : Sx.Mk := { g := 0, op := 0, call := 2, arrive := 0, point := 4, wi := 0, fire := 0, re := 6, res := ⟨0, 0, 0, false, 0⟩ }
theorem t_alive : Pure Try.prog 5 [] (.c (bI true)) := by
  have CP := t_points [mk1] (by decide)
  have CH := t_history [mk1] (by decide)
  have t1 : (((Ta.points [mk1]).length : Int) == 1) = true := by decide
  have t2 : (((Ta.hist [mk1]).length : Int) == 2) = true := by decide
  refine Con.intro Try.func5 rfl rfl rfl (fun ok e => ?_)
  repeat (first
      | (refine K.move ?_; refine JO.q rfl rfl (Nat.le_of_ble_eq_true rfl) (Qt.move rfl) ?_)
      | (refine K.assign ?_; refine JO.q rfl rfl (Nat.le_of_ble_eq_true rfl) (Qt.assign rfl) ?_)
      | (refine K.binOp ?_; (refine JO.q rfl rfl (Nat.le_of_ble_eq_true rfl) (Qt.cmp rfl rfl (congrArg some t1)) ?_))
      | (refine K.call ?_; first | (refine JO.pure (CP) rfl (Nat.le_of_ble_eq_true rfl) rfl ?_ ?_; focus ((repeat (first | exact LeDs.nil | refine LeDs.cons LeD.refl ?_)); done)) | (refine JO.pure (CH) rfl (Nat.le_of_ble_eq_true rfl) rfl ?_ ?_; focus ((repeat (first | exact LeDs.nil | refine LeDs.cons LeD.refl ?_)); done)))
      | (refine K.bi ?_; (refine JO.q rfl rfl (Nat.le_of_ble_eq_true rfl) (Qt.lenM rfl) ?_))
      | (refine K.pick ?_; refine JO.q rfl rfl (Nat.le_of_ble_eq_true rfl) (Qt.pick rfl rfl) ?_)
      | (refine K.build ?_; (refine JO.q rfl rfl (Nat.le_of_ble_eq_true rfl) (((Qt.build rfl (by kernel_rfl)).eq (show _ = D.agg (eM mk1) from rfl))) ?_))
      | (refine K.lit ?_; ((refine JO.ld (Ld.lit1R (Nat.le_of_ble_eq_true rfl) rfl rfl rfl rfl rfl) rfl (fun _ => ?_))))
      | refine JO.nil ?_
      | refine J.seq ?_
      | refine J.region ?_)
  exact J.ret Try.func5 rfl (.cons (.tmp rfl) .nil) () (by (exact .refl)) [] .nil rfl rfl
end Fl
end Go.Proofs.Ytgjpdogjekmemaa
