/-
  The program's words of ops and results.
  Conditions: the table internal/strconv.uint64pow10 holds the powers of ten.
-/
import Derived.Test.YtgjpdogjekmemaaDoorWdN
import Derived.Test.YtgjpdogjekmemaaDoorWdL
import Derived.Test.YtgjpdogjekmemaaDoorTab
namespace Go.Proofs.YtgjpdogjekmemaaDoor
open Go.RowKit
set_option linter.unusedVariables false
set_option linter.unusedSimpArgs false
set_option linter.unnecessarySimpa false
namespace Fl
set_option maxRecDepth 100000
set_option maxHeartbeats 2000000 in
theorem c_opNameK : ∀ k : Nat, k < 10 → ∀ w, Calls Tryd.prog 22 #[.int .i64 k] w fun e w' => e = .returned (strV (Wd.kind k)) ∧ Keeps [] w w' := by
  intro k hk w
  have : k = 0 ∨ k = 1 ∨ k = 2 ∨ k = 3 ∨ k = 4 ∨ k = 5 ∨ k = 6 ∨ k = 7 ∨ k = 8 ∨ k = 9 := by omega
  rcases this with rfl | rfl | rfl | rfl | rfl | rfl | rfl | rfl | rfl | rfl
  all_goals
    go_enter Tryd.func22, Tryd.ntmps22
    go_wp2
    go_ret
    exact ⟨rfl, (Keeps.refl [] w).alloc _⟩
set_option maxHeartbeats 2000000 in
theorem c_opName (k : Int) (h0 : 0 ≤ k) (h1 : k < 10) : Pure Tryd.prog 22 [.c (nI k)] (.c (sA (Wd.kind k))) :=
  Con.plain fun ok e xs hd => by
    obtain ⟨v, ys, rfl, r, h⟩ := hd.c
    rw [h.nil_]
    unfold nI RA at r
    rw [r.1]
    obtain ⟨n, rfl⟩ : ∃ n : Nat, k = n := ⟨k.toNat, by omega⟩
    refine (c_opNameK n (by omega) e).mono ?_
    rintro en w' ⟨rfl, k⟩
    exact ⟨_, rfl, k, RD.v rfl⟩
set_option maxHeartbeats 2000000 in
theorem c_number (n : Int) (hn : isI n) : PureW Tb Tryd.prog 23 [.c (nI n)] (.c (sA (Wd.num n))) := by
  have C := c_fmt n hn
  have l := Lib.itoa_length_le n hn.1 hn.2
  refine ConW.intro Tryd.func23 rfl rfl rfl (fun ok e hT => ?_)
  have hW : ∀ w, Keeps [] e w → Tb w := fun w k => hT.grows k
  repeat (first
      | (refine K.fieldAddr ?_; refine JO.q rfl rfl (Nat.le_of_ble_eq_true rfl) (Qt.fieldAddr rfl rfl) ?_)
      | (refine K.load ?_; first | refine JO.q rfl rfl (Nat.le_of_ble_eq_true rfl) (Qt.load1 rfl .el rfl) ?_ | refine JO.q rfl rfl (Nat.le_of_ble_eq_true rfl) (Qt.loadW rfl .el rfl) ?_ | refine JO.q rfl rfl (Nat.le_of_ble_eq_true rfl) (Qt.loadN rfl .el rfl rfl) ?_ | refine JO.q rfl rfl (Nat.le_of_ble_eq_true rfl) (Qt.load1b rfl (by exact rfl)) ?_ | refine JO.q rfl rfl (Nat.le_of_ble_eq_true rfl) (Qt.loadWb rfl (by exact rfl)) ?_ | refine JO.q rfl rfl (Nat.le_of_ble_eq_true rfl) (Qt.loadNb rfl (by exact rfl) (by exact rfl)) ?_)
      | (refine K.move ?_; refine JO.q rfl rfl (Nat.le_of_ble_eq_true rfl) (Qt.move rfl) ?_)
      | (refine K.store ?_; first | refine JO.ld (Ld.storeW rfl rfl rfl (by exact rfl) (by exact rfl)) rfl (fun _ => ?_) | refine JO.ld (Ld.store1 rfl rfl (by exact rfl)) rfl (fun _ => ?_) | refine JO.ld (Ld.storeN rfl rfl rfl (by exact rfl) (by exact rfl)) rfl (fun _ => ?_))
      | (refine K.assign ?_; refine JO.q rfl rfl (Nat.le_of_ble_eq_true rfl) (Qt.assign rfl) ?_)
      | (refine K.binOp ?_; first | refine JO.q rfl rfl (Nat.le_of_ble_eq_true rfl) (Qt.cat rfl rfl (by first | omega | (simp only [List.length_append, List.length_cons, List.length_nil]; omega))) ?_ | refine JO.q rfl rfl (Nat.le_of_ble_eq_true rfl) (Qt.cmp rfl rfl rfl) ?_ | refine JO.q rfl rfl (Nat.le_of_ble_eq_true rfl) (Qt.eqB rfl rfl) ?_ | refine JO.q rfl rfl (Nat.le_of_ble_eq_true rfl) (Qt.neB rfl rfl) ?_)
      | (refine K.call ?_; first | (refine JO.ld (Ld.pureW hW (C) (Nat.le_of_ble_eq_true rfl) rfl ?_) rfl (fun _ => ?_); focus ((repeat (first | exact LeDs.nil | refine LeDs.cons (LeD.agg (by repeat (first | exact .nil | refine .cons .refl ?_ | refine .cons .nil ?_ | refine .cons .snoc ?_ | refine .cons .clone ?_))) ?_ | refine LeDs.cons LeD.refl ?_ | refine LeDs.cons (LeD.c LeA.nil) ?_ | refine LeDs.cons (LeD.c LeA.snoc) ?_ | refine LeDs.cons (LeD.c LeA.clone) ?_)); done)))
      | (refine K.unOp ?_; refine JO.q rfl rfl (Nat.le_of_ble_eq_true rfl) (Qt.not rfl) ?_)
      | (refine K.bi ?_; first | refine JO.q rfl rfl (Nat.le_of_ble_eq_true rfl) (Qt.lenM rfl) ?_ | refine JO.q rfl rfl (Nat.le_of_ble_eq_true rfl) (Qt.lenR rfl) ?_ | refine JO.q rfl rfl (Nat.le_of_ble_eq_true rfl) (Qt.lenV rfl) ?_ | refine JO.q rfl rfl (Nat.le_of_ble_eq_true rfl) (Qt.lenO rfl) ?_)
      | (refine K.extract ?_; refine JO.q rfl rfl (Nat.le_of_ble_eq_true rfl) (Qt.extract rfl rfl) ?_)
      | (refine JO.alloc rfl (Nat.le_of_ble_eq_true rfl) ?_; intro _)
      | (refine JO.box rfl (Nat.le_of_ble_eq_true rfl) rfl rfl ?_; intro _)
      | (refine K.pick ?_; refine JO.q rfl rfl (Nat.le_of_ble_eq_true rfl) (Qt.pick rfl rfl) ?_)
      | (refine K.build ?_; refine JO.q rfl rfl (Nat.le_of_ble_eq_true rfl) (Qt.build rfl (by kernel_rfl)) ?_)
      | (refine K.lit ?_; first | (refine JO.lit0 rfl (Nat.le_of_ble_eq_true rfl) ?_; intro _) | (refine JO.lit1 rfl (Nat.le_of_ble_eq_true rfl) rfl rfl rfl rfl rfl ?_; intro _))
      | (refine K.nilCheck ?_; refine JO.q rfl rfl (Nat.le_of_ble_eq_true rfl) (Qt.nilCheck rfl rfl) ?_)
      | (refine K.field ?_; refine JO.q rfl rfl (Nat.le_of_ble_eq_true rfl) (Qt.field rfl rfl (by kernel_rfl) rfl) ?_)
      | (refine K.convert ?_; refine JO.q rfl rfl (Nat.le_of_ble_eq_true rfl) (Qt.conv rfl rfl) ?_)
      | refine JO.nil ?_
      | refine J.seq ?_
      | refine J.region ?_
      | refine J.block ?_
      | refine J.inBlock ?_
      | refine J.skip ?_
      | refine J.exit rfl ?_
      | refine J.cond_t rfl ?_
      | refine J.cond_f rfl ?_
      | refine JO.no rfl rfl (Nat.le_of_ble_eq_true rfl) ?_)
  exact J.ret Tryd.func23 rfl (.cons (.tmp rfl) .nil) () (by first | exact .agg (by repeat (first | exact .nil | refine .cons .refl ?_ | refine .cons .nil ?_ | refine .cons .snoc ?_ | refine .cons .clone ?_)) | exact .refl | exact .c .nil | exact .tup (by repeat (first | exact .nil | refine .cons (.agg (by repeat (first | exact .nil | refine .cons .refl ?_ | refine .cons .nil ?_ | refine .cons .snoc ?_ | refine .cons .clone ?_))) ?_ | refine .cons .refl ?_ | refine .cons (.c .nil) ?_ | refine .cons (.c .snoc) ?_ | refine .cons (.c .clone) ?_))) [] .nil rfl rfl
set_option maxHeartbeats 2000000 in
theorem c_case (x : Pn.Cs) (h : isI x.ch ∧ isI x.v) : PureW Tb Tryd.prog 24 [.agg (eCs x)] (.c (sA (Wd.cas x))) := by
  obtain ⟨s, ch, v⟩ := x
  simp only at h
  have C2 := c_opName 2 (by omega) (by omega)
  have C3 := c_opName 3 (by omega) (by omega)
  have CC := c_number ch h.1
  have CV := c_number v h.2
  have l1 := Wd.num_len ch h.1.1 h.1.2
  have l2 := Wd.num_len v h.2.1 h.2.2
  have k2 := Wd.kind_len 2
  have k3 := Wd.kind_len 3
  refine ConW.intro Tryd.func24 rfl rfl rfl (fun ok e hT => ?_)
  have hW : ∀ w, Keeps [] e w → Tb w := fun w k => hT.grows k
  unfold Wd.cas
  cases s with
  | true =>
    repeat (first
        | (refine K.fieldAddr ?_; refine JO.q rfl rfl (Nat.le_of_ble_eq_true rfl) (Qt.fieldAddr rfl rfl) ?_)
        | (refine K.load ?_; first | refine JO.q rfl rfl (Nat.le_of_ble_eq_true rfl) (Qt.load1 rfl .el rfl) ?_ | refine JO.q rfl rfl (Nat.le_of_ble_eq_true rfl) (Qt.loadW rfl .el rfl) ?_ | refine JO.q rfl rfl (Nat.le_of_ble_eq_true rfl) (Qt.loadN rfl .el rfl rfl) ?_ | refine JO.q rfl rfl (Nat.le_of_ble_eq_true rfl) (Qt.load1b rfl (by exact rfl)) ?_ | refine JO.q rfl rfl (Nat.le_of_ble_eq_true rfl) (Qt.loadWb rfl (by exact rfl)) ?_ | refine JO.q rfl rfl (Nat.le_of_ble_eq_true rfl) (Qt.loadNb rfl (by exact rfl) (by exact rfl)) ?_)
        | (refine K.move ?_; refine JO.q rfl rfl (Nat.le_of_ble_eq_true rfl) (Qt.move rfl) ?_)
        | (refine K.store ?_; first | refine JO.ld (Ld.storeW rfl rfl rfl (by exact rfl) (by exact rfl)) rfl (fun _ => ?_) | refine JO.ld (Ld.store1 rfl rfl (by exact rfl)) rfl (fun _ => ?_) | refine JO.ld (Ld.storeN rfl rfl rfl (by exact rfl) (by exact rfl)) rfl (fun _ => ?_))
        | (refine K.assign ?_; refine JO.q rfl rfl (Nat.le_of_ble_eq_true rfl) (Qt.assign rfl) ?_)
        | (refine K.binOp ?_; first | refine JO.q rfl rfl (Nat.le_of_ble_eq_true rfl) (Qt.cmp rfl rfl rfl) ?_ | refine JO.q rfl rfl (Nat.le_of_ble_eq_true rfl) (Qt.eqB rfl rfl) ?_ | refine JO.q rfl rfl (Nat.le_of_ble_eq_true rfl) (Qt.neB rfl rfl) ?_)
        | (refine K.unOp ?_; refine JO.q rfl rfl (Nat.le_of_ble_eq_true rfl) (Qt.not rfl) ?_)
        | (refine K.bi ?_; first | refine JO.q rfl rfl (Nat.le_of_ble_eq_true rfl) (Qt.lenM rfl) ?_ | refine JO.q rfl rfl (Nat.le_of_ble_eq_true rfl) (Qt.lenR rfl) ?_ | refine JO.q rfl rfl (Nat.le_of_ble_eq_true rfl) (Qt.lenV rfl) ?_ | refine JO.q rfl rfl (Nat.le_of_ble_eq_true rfl) (Qt.lenO rfl) ?_)
        | (refine K.extract ?_; refine JO.q rfl rfl (Nat.le_of_ble_eq_true rfl) (Qt.extract rfl rfl) ?_)
        | (refine JO.alloc rfl (Nat.le_of_ble_eq_true rfl) ?_; intro _)
        | (refine JO.box rfl (Nat.le_of_ble_eq_true rfl) rfl rfl ?_; intro _)
        | (refine K.pick ?_; refine JO.q rfl rfl (Nat.le_of_ble_eq_true rfl) (Qt.pick rfl rfl) ?_)
        | (refine K.build ?_; refine JO.q rfl rfl (Nat.le_of_ble_eq_true rfl) (Qt.build rfl (by kernel_rfl)) ?_)
        | (refine K.lit ?_; first | (refine JO.lit0 rfl (Nat.le_of_ble_eq_true rfl) ?_; intro _) | (refine JO.lit1 rfl (Nat.le_of_ble_eq_true rfl) rfl rfl rfl rfl rfl ?_; intro _))
        | (refine K.nilCheck ?_; refine JO.q rfl rfl (Nat.le_of_ble_eq_true rfl) (Qt.nilCheck rfl rfl) ?_)
        | (refine K.field ?_; refine JO.q rfl rfl (Nat.le_of_ble_eq_true rfl) (Qt.field rfl rfl (by kernel_rfl) rfl) ?_)
        | (refine K.convert ?_; refine JO.q rfl rfl (Nat.le_of_ble_eq_true rfl) (Qt.conv rfl rfl) ?_)
        | refine JO.nil ?_
        | refine J.seq ?_
        | refine J.region ?_
        | refine J.block ?_
        | refine J.inBlock ?_
        | refine J.skip ?_
        | refine J.exit rfl ?_
        | refine J.cond_t rfl ?_
        | refine J.cond_f rfl ?_
        | refine JO.no rfl rfl (Nat.le_of_ble_eq_true rfl) ?_)
    refine J.draw (by kernel_rfl) rfl ?_
    refine JW.base none ?_
    refine JD.take 1 rfl rfl (by kernel_rfl) rfl (Nat.le_of_ble_eq_true rfl) (Qt.fieldAddr rfl rfl) rfl ?_
    first
      | refine JD.take 2 rfl rfl (by kernel_rfl) rfl (Nat.le_of_ble_eq_true rfl) (Qt.load1 rfl .el rfl) rfl ?_
      | refine JD.take 2 rfl rfl (by kernel_rfl) rfl (Nat.le_of_ble_eq_true rfl) (Qt.loadW rfl .el rfl) rfl ?_
      | refine JD.take 2 rfl rfl (by kernel_rfl) rfl (Nat.le_of_ble_eq_true rfl) (Qt.loadN rfl .el rfl rfl) rfl ?_
      | refine JD.take 2 rfl rfl (by kernel_rfl) rfl (Nat.le_of_ble_eq_true rfl) (Qt.load1b rfl (by exact rfl)) rfl ?_
      | refine JD.take 2 rfl rfl (by kernel_rfl) rfl (Nat.le_of_ble_eq_true rfl) (Qt.loadWb rfl (by exact rfl)) rfl ?_
      | refine JD.take 2 rfl rfl (by kernel_rfl) rfl (Nat.le_of_ble_eq_true rfl) (Qt.loadNb rfl (by exact rfl) (by exact rfl)) rfl ?_
    refine JD.take 5 rfl rfl (by kernel_rfl) rfl (Nat.le_of_ble_eq_true rfl) (Qt.fieldAddr rfl rfl) rfl ?_
    first
      | refine JD.take 6 rfl rfl (by kernel_rfl) rfl (Nat.le_of_ble_eq_true rfl) (Qt.load1 rfl .el rfl) rfl ?_
      | refine JD.take 6 rfl rfl (by kernel_rfl) rfl (Nat.le_of_ble_eq_true rfl) (Qt.loadW rfl .el rfl) rfl ?_
      | refine JD.take 6 rfl rfl (by kernel_rfl) rfl (Nat.le_of_ble_eq_true rfl) (Qt.loadN rfl .el rfl rfl) rfl ?_
      | refine JD.take 6 rfl rfl (by kernel_rfl) rfl (Nat.le_of_ble_eq_true rfl) (Qt.load1b rfl (by exact rfl)) rfl ?_
      | refine JD.take 6 rfl rfl (by kernel_rfl) rfl (Nat.le_of_ble_eq_true rfl) (Qt.loadWb rfl (by exact rfl)) rfl ?_
      | refine JD.take 6 rfl rfl (by kernel_rfl) rfl (Nat.le_of_ble_eq_true rfl) (Qt.loadNb rfl (by exact rfl) (by exact rfl)) rfl ?_
    refine JD.each1 (i := 0) (by kernel_rfl) ?_
    refine JS.loud rfl rfl rfl (Nat.le_of_ble_eq_true rfl) (Ld.pure (C2) (Nat.le_of_ble_eq_true rfl) rfl (by repeat (first | exact LeDs.nil | refine LeDs.cons (LeD.agg (by repeat (first | exact .nil | refine .cons .refl ?_ | refine .cons .nil ?_ | refine .cons .snoc ?_ | refine .cons .clone ?_))) ?_ | refine LeDs.cons LeD.refl ?_ | refine LeDs.cons (LeD.c LeA.nil) ?_ | refine LeDs.cons (LeD.c LeA.snoc) ?_ | refine LeDs.cons (LeD.c LeA.clone) ?_))) (by first | exact .none | exact .nil | exact .tbox rfl | exact .trow rfl | exact .tres rfl | exact .row (by repeat (first | exact .refl | refine .cons ?_)) | exact .box (by repeat (first | exact .refl | refine .cons ?_))) (fun _ => ?_)
    refine JD.each1 (i := 3) (by kernel_rfl) ?_
    refine JS.loud rfl rfl rfl (Nat.le_of_ble_eq_true rfl) (Ld.pureW hW (CC) (Nat.le_of_ble_eq_true rfl) rfl (by repeat (first | exact LeDs.nil | refine LeDs.cons (LeD.agg (by repeat (first | exact .nil | refine .cons .refl ?_ | refine .cons .nil ?_ | refine .cons .snoc ?_ | refine .cons .clone ?_))) ?_ | refine LeDs.cons LeD.refl ?_ | refine LeDs.cons (LeD.c LeA.nil) ?_ | refine LeDs.cons (LeD.c LeA.snoc) ?_ | refine LeDs.cons (LeD.c LeA.clone) ?_))) (by first | exact .none | exact .nil | exact .tbox rfl | exact .trow rfl | exact .tres rfl | exact .row (by repeat (first | exact .refl | refine .cons ?_)) | exact .box (by repeat (first | exact .refl | refine .cons ?_))) (fun _ => ?_)
    refine JD.rebase ?_
    refine JD.take 4 rfl rfl (by kernel_rfl) rfl (Nat.le_of_ble_eq_true rfl) (Qt.cat rfl rfl (by first | (simp; omega) | simp | omega)) rfl ?_
    refine JD.each1 (i := 7) (by kernel_rfl) ?_
    refine JS.loud rfl rfl rfl (Nat.le_of_ble_eq_true rfl) (Ld.pureW hW (CV) (Nat.le_of_ble_eq_true rfl) rfl (by repeat (first | exact LeDs.nil | refine LeDs.cons (LeD.agg (by repeat (first | exact .nil | refine .cons .refl ?_ | refine .cons .nil ?_ | refine .cons .snoc ?_ | refine .cons .clone ?_))) ?_ | refine LeDs.cons LeD.refl ?_ | refine LeDs.cons (LeD.c LeA.nil) ?_ | refine LeDs.cons (LeD.c LeA.snoc) ?_ | refine LeDs.cons (LeD.c LeA.clone) ?_))) (by first | exact .none | exact .nil | exact .tbox rfl | exact .trow rfl | exact .tres rfl | exact .row (by repeat (first | exact .refl | refine .cons ?_)) | exact .box (by repeat (first | exact .refl | refine .cons ?_))) (fun _ => ?_)
    refine JD.each1 (i := 8) (by kernel_rfl) ?_
    refine JS.q rfl rfl rfl (Nat.le_of_ble_eq_true rfl) (Qt.cat rfl rfl (by first | (simp; omega) | simp | omega)) ?_
    refine JD.each1 (i := 9) (by kernel_rfl) ?_
    refine JS.q rfl rfl rfl (Nat.le_of_ble_eq_true rfl) (Qt.assign rfl) ?_
    refine JD.done (by kernel_rfl) ?_
    all_goals
      exact J.ret Tryd.func24 rfl (.cons (.tmp rfl) .nil) () (by first | exact .agg (by repeat (first | exact .nil | refine .cons .refl ?_ | refine .cons .nil ?_ | refine .cons .snoc ?_ | refine .cons .clone ?_)) | exact .refl | exact .c .nil | exact .tup (by repeat (first | exact .nil | refine .cons (.agg (by repeat (first | exact .nil | refine .cons .refl ?_ | refine .cons .nil ?_ | refine .cons .snoc ?_ | refine .cons .clone ?_))) ?_ | refine .cons .refl ?_ | refine .cons (.c .nil) ?_ | refine .cons (.c .snoc) ?_ | refine .cons (.c .clone) ?_))) [] .nil rfl rfl
  | false =>
    repeat (first
        | (refine K.fieldAddr ?_; refine JO.q rfl rfl (Nat.le_of_ble_eq_true rfl) (Qt.fieldAddr rfl rfl) ?_)
        | (refine K.load ?_; first | refine JO.q rfl rfl (Nat.le_of_ble_eq_true rfl) (Qt.load1 rfl .el rfl) ?_ | refine JO.q rfl rfl (Nat.le_of_ble_eq_true rfl) (Qt.loadW rfl .el rfl) ?_ | refine JO.q rfl rfl (Nat.le_of_ble_eq_true rfl) (Qt.loadN rfl .el rfl rfl) ?_ | refine JO.q rfl rfl (Nat.le_of_ble_eq_true rfl) (Qt.load1b rfl (by exact rfl)) ?_ | refine JO.q rfl rfl (Nat.le_of_ble_eq_true rfl) (Qt.loadWb rfl (by exact rfl)) ?_ | refine JO.q rfl rfl (Nat.le_of_ble_eq_true rfl) (Qt.loadNb rfl (by exact rfl) (by exact rfl)) ?_)
        | (refine K.move ?_; refine JO.q rfl rfl (Nat.le_of_ble_eq_true rfl) (Qt.move rfl) ?_)
        | (refine K.store ?_; first | refine JO.ld (Ld.storeW rfl rfl rfl (by exact rfl) (by exact rfl)) rfl (fun _ => ?_) | refine JO.ld (Ld.store1 rfl rfl (by exact rfl)) rfl (fun _ => ?_) | refine JO.ld (Ld.storeN rfl rfl rfl (by exact rfl) (by exact rfl)) rfl (fun _ => ?_))
        | (refine K.assign ?_; refine JO.q rfl rfl (Nat.le_of_ble_eq_true rfl) (Qt.assign rfl) ?_)
        | (refine K.binOp ?_; first | refine JO.q rfl rfl (Nat.le_of_ble_eq_true rfl) (Qt.cmp rfl rfl rfl) ?_ | refine JO.q rfl rfl (Nat.le_of_ble_eq_true rfl) (Qt.eqB rfl rfl) ?_ | refine JO.q rfl rfl (Nat.le_of_ble_eq_true rfl) (Qt.neB rfl rfl) ?_)
        | (refine K.unOp ?_; refine JO.q rfl rfl (Nat.le_of_ble_eq_true rfl) (Qt.not rfl) ?_)
        | (refine K.bi ?_; first | refine JO.q rfl rfl (Nat.le_of_ble_eq_true rfl) (Qt.lenM rfl) ?_ | refine JO.q rfl rfl (Nat.le_of_ble_eq_true rfl) (Qt.lenR rfl) ?_ | refine JO.q rfl rfl (Nat.le_of_ble_eq_true rfl) (Qt.lenV rfl) ?_ | refine JO.q rfl rfl (Nat.le_of_ble_eq_true rfl) (Qt.lenO rfl) ?_)
        | (refine K.extract ?_; refine JO.q rfl rfl (Nat.le_of_ble_eq_true rfl) (Qt.extract rfl rfl) ?_)
        | (refine JO.alloc rfl (Nat.le_of_ble_eq_true rfl) ?_; intro _)
        | (refine JO.box rfl (Nat.le_of_ble_eq_true rfl) rfl rfl ?_; intro _)
        | (refine K.pick ?_; refine JO.q rfl rfl (Nat.le_of_ble_eq_true rfl) (Qt.pick rfl rfl) ?_)
        | (refine K.build ?_; refine JO.q rfl rfl (Nat.le_of_ble_eq_true rfl) (Qt.build rfl (by kernel_rfl)) ?_)
        | (refine K.lit ?_; first | (refine JO.lit0 rfl (Nat.le_of_ble_eq_true rfl) ?_; intro _) | (refine JO.lit1 rfl (Nat.le_of_ble_eq_true rfl) rfl rfl rfl rfl rfl ?_; intro _))
        | (refine K.nilCheck ?_; refine JO.q rfl rfl (Nat.le_of_ble_eq_true rfl) (Qt.nilCheck rfl rfl) ?_)
        | (refine K.field ?_; refine JO.q rfl rfl (Nat.le_of_ble_eq_true rfl) (Qt.field rfl rfl (by kernel_rfl) rfl) ?_)
        | (refine K.convert ?_; refine JO.q rfl rfl (Nat.le_of_ble_eq_true rfl) (Qt.conv rfl rfl) ?_)
        | refine JO.nil ?_
        | refine J.seq ?_
        | refine J.region ?_
        | refine J.block ?_
        | refine J.inBlock ?_
        | refine J.skip ?_
        | refine J.exit rfl ?_
        | refine J.cond_t rfl ?_
        | refine J.cond_f rfl ?_
        | refine JO.no rfl rfl (Nat.le_of_ble_eq_true rfl) ?_)
    refine J.draw (by kernel_rfl) rfl ?_
    refine JW.base none ?_
    refine JD.take 1 rfl rfl (by kernel_rfl) rfl (Nat.le_of_ble_eq_true rfl) (Qt.fieldAddr rfl rfl) rfl ?_
    first
      | refine JD.take 2 rfl rfl (by kernel_rfl) rfl (Nat.le_of_ble_eq_true rfl) (Qt.load1 rfl .el rfl) rfl ?_
      | refine JD.take 2 rfl rfl (by kernel_rfl) rfl (Nat.le_of_ble_eq_true rfl) (Qt.loadW rfl .el rfl) rfl ?_
      | refine JD.take 2 rfl rfl (by kernel_rfl) rfl (Nat.le_of_ble_eq_true rfl) (Qt.loadN rfl .el rfl rfl) rfl ?_
      | refine JD.take 2 rfl rfl (by kernel_rfl) rfl (Nat.le_of_ble_eq_true rfl) (Qt.load1b rfl (by exact rfl)) rfl ?_
      | refine JD.take 2 rfl rfl (by kernel_rfl) rfl (Nat.le_of_ble_eq_true rfl) (Qt.loadWb rfl (by exact rfl)) rfl ?_
      | refine JD.take 2 rfl rfl (by kernel_rfl) rfl (Nat.le_of_ble_eq_true rfl) (Qt.loadNb rfl (by exact rfl) (by exact rfl)) rfl ?_
    refine JD.each1 (i := 0) (by kernel_rfl) ?_
    refine JS.loud rfl rfl rfl (Nat.le_of_ble_eq_true rfl) (Ld.pure (C3) (Nat.le_of_ble_eq_true rfl) rfl (by repeat (first | exact LeDs.nil | refine LeDs.cons (LeD.agg (by repeat (first | exact .nil | refine .cons .refl ?_ | refine .cons .nil ?_ | refine .cons .snoc ?_ | refine .cons .clone ?_))) ?_ | refine LeDs.cons LeD.refl ?_ | refine LeDs.cons (LeD.c LeA.nil) ?_ | refine LeDs.cons (LeD.c LeA.snoc) ?_ | refine LeDs.cons (LeD.c LeA.clone) ?_))) (by first | exact .none | exact .nil | exact .tbox rfl | exact .trow rfl | exact .tres rfl | exact .row (by repeat (first | exact .refl | refine .cons ?_)) | exact .box (by repeat (first | exact .refl | refine .cons ?_))) (fun _ => ?_)
    refine JD.each1 (i := 3) (by kernel_rfl) ?_
    refine JS.loud rfl rfl rfl (Nat.le_of_ble_eq_true rfl) (Ld.pureW hW (CC) (Nat.le_of_ble_eq_true rfl) rfl (by repeat (first | exact LeDs.nil | refine LeDs.cons (LeD.agg (by repeat (first | exact .nil | refine .cons .refl ?_ | refine .cons .nil ?_ | refine .cons .snoc ?_ | refine .cons .clone ?_))) ?_ | refine LeDs.cons LeD.refl ?_ | refine LeDs.cons (LeD.c LeA.nil) ?_ | refine LeDs.cons (LeD.c LeA.snoc) ?_ | refine LeDs.cons (LeD.c LeA.clone) ?_))) (by first | exact .none | exact .nil | exact .tbox rfl | exact .trow rfl | exact .tres rfl | exact .row (by repeat (first | exact .refl | refine .cons ?_)) | exact .box (by repeat (first | exact .refl | refine .cons ?_))) (fun _ => ?_)
    refine JD.each1 (i := 4) (by kernel_rfl) ?_
    refine JS.q rfl rfl rfl (Nat.le_of_ble_eq_true rfl) (Qt.cat rfl rfl (by first | (simp; omega) | simp | omega)) ?_
    refine JD.each1 (i := 5) (by kernel_rfl) ?_
    refine JS.q rfl rfl rfl (Nat.le_of_ble_eq_true rfl) (Qt.assign rfl) ?_
    refine JD.done (by kernel_rfl) ?_
    all_goals
      exact J.ret Tryd.func24 rfl (.cons (.tmp rfl) .nil) () (by first | exact .agg (by repeat (first | exact .nil | refine .cons .refl ?_ | refine .cons .nil ?_ | refine .cons .snoc ?_ | refine .cons .clone ?_)) | exact .refl | exact .c .nil | exact .tup (by repeat (first | exact .nil | refine .cons (.agg (by repeat (first | exact .nil | refine .cons .refl ?_ | refine .cons .nil ?_ | refine .cons .snoc ?_ | refine .cons .clone ?_))) ?_ | refine .cons .refl ?_ | refine .cons (.c .nil) ?_ | refine .cons (.c .snoc) ?_ | refine .cons (.c .clone) ?_))) [] .nil rfl rfl
set_option maxHeartbeats 2000000 in
theorem c_wOp (o : Pn.Op) : PureW Tb Tryd.prog 10 [.agg (eOp o)] (.c (sA (Wd.op o))) := by
  have CR := c_wRightOp o
  refine ConW.intro Tryd.func10 rfl rfl rfl (fun ok e hT => ?_)
  have hW : ∀ w, Keeps [] e w → Tb w := fun w k => hT.grows k
  unfold Wd.op
  cases hr : Pn.rightOp o with
  | false =>
    rw [hr] at CR
    repeat (first
        | (refine K.fieldAddr ?_; refine JO.q rfl rfl (Nat.le_of_ble_eq_true rfl) (Qt.fieldAddr rfl rfl) ?_)
        | (refine K.load ?_; first | refine JO.q rfl rfl (Nat.le_of_ble_eq_true rfl) (Qt.load1 rfl .el rfl) ?_ | refine JO.q rfl rfl (Nat.le_of_ble_eq_true rfl) (Qt.loadW rfl .el rfl) ?_ | refine JO.q rfl rfl (Nat.le_of_ble_eq_true rfl) (Qt.loadN rfl .el rfl rfl) ?_ | refine JO.q rfl rfl (Nat.le_of_ble_eq_true rfl) (Qt.load1b rfl (by exact rfl)) ?_ | refine JO.q rfl rfl (Nat.le_of_ble_eq_true rfl) (Qt.loadWb rfl (by exact rfl)) ?_ | refine JO.q rfl rfl (Nat.le_of_ble_eq_true rfl) (Qt.loadNb rfl (by exact rfl) (by exact rfl)) ?_)
        | (refine K.move ?_; refine JO.q rfl rfl (Nat.le_of_ble_eq_true rfl) (Qt.move rfl) ?_)
        | (refine K.store ?_; first | refine JO.ld (Ld.storeW rfl rfl rfl (by exact rfl) (by exact rfl)) rfl (fun _ => ?_) | refine JO.ld (Ld.store1 rfl rfl (by exact rfl)) rfl (fun _ => ?_) | refine JO.ld (Ld.storeN rfl rfl rfl (by exact rfl) (by exact rfl)) rfl (fun _ => ?_))
        | (refine K.assign ?_; refine JO.q rfl rfl (Nat.le_of_ble_eq_true rfl) (Qt.assign rfl) ?_)
        | (refine K.binOp ?_; first | refine JO.q rfl rfl (Nat.le_of_ble_eq_true rfl) (Qt.cmp rfl rfl rfl) ?_ | refine JO.q rfl rfl (Nat.le_of_ble_eq_true rfl) (Qt.eqB rfl rfl) ?_ | refine JO.q rfl rfl (Nat.le_of_ble_eq_true rfl) (Qt.neB rfl rfl) ?_)
        | (refine K.call ?_; first | (refine JO.pure (CR) rfl (Nat.le_of_ble_eq_true rfl) rfl ?_ ?_; focus ((repeat (first | exact LeDs.nil | refine LeDs.cons (LeD.agg (by repeat (first | exact .nil | refine .cons .refl ?_ | refine .cons .nil ?_ | refine .cons .snoc ?_ | refine .cons .clone ?_))) ?_ | refine LeDs.cons LeD.refl ?_ | refine LeDs.cons (LeD.c LeA.nil) ?_ | refine LeDs.cons (LeD.c LeA.snoc) ?_ | refine LeDs.cons (LeD.c LeA.clone) ?_)); done)))
        | (refine K.unOp ?_; refine JO.q rfl rfl (Nat.le_of_ble_eq_true rfl) (Qt.not rfl) ?_)
        | (refine K.bi ?_; first | refine JO.q rfl rfl (Nat.le_of_ble_eq_true rfl) (Qt.lenM rfl) ?_ | refine JO.q rfl rfl (Nat.le_of_ble_eq_true rfl) (Qt.lenR rfl) ?_ | refine JO.q rfl rfl (Nat.le_of_ble_eq_true rfl) (Qt.lenV rfl) ?_ | refine JO.q rfl rfl (Nat.le_of_ble_eq_true rfl) (Qt.lenO rfl) ?_)
        | (refine K.extract ?_; refine JO.q rfl rfl (Nat.le_of_ble_eq_true rfl) (Qt.extract rfl rfl) ?_)
        | (refine JO.alloc rfl (Nat.le_of_ble_eq_true rfl) ?_; intro _)
        | (refine JO.box rfl (Nat.le_of_ble_eq_true rfl) rfl rfl ?_; intro _)
        | (refine K.pick ?_; refine JO.q rfl rfl (Nat.le_of_ble_eq_true rfl) (Qt.pick rfl rfl) ?_)
        | (refine K.build ?_; refine JO.q rfl rfl (Nat.le_of_ble_eq_true rfl) (Qt.build rfl (by kernel_rfl)) ?_)
        | (refine K.lit ?_; first | (refine JO.lit0 rfl (Nat.le_of_ble_eq_true rfl) ?_; intro _) | (refine JO.lit1 rfl (Nat.le_of_ble_eq_true rfl) rfl rfl rfl rfl rfl ?_; intro _))
        | (refine K.nilCheck ?_; refine JO.q rfl rfl (Nat.le_of_ble_eq_true rfl) (Qt.nilCheck rfl rfl) ?_)
        | (refine K.field ?_; refine JO.q rfl rfl (Nat.le_of_ble_eq_true rfl) (Qt.field rfl rfl (by kernel_rfl) rfl) ?_)
        | (refine K.convert ?_; refine JO.q rfl rfl (Nat.le_of_ble_eq_true rfl) (Qt.conv rfl rfl) ?_)
        | refine JO.nil ?_
        | refine J.seq ?_
        | refine J.region ?_
        | refine J.block ?_
        | refine J.inBlock ?_
        | refine J.skip ?_
        | refine J.exit rfl ?_
        | refine J.cond_t rfl ?_
        | refine J.cond_f rfl ?_
        | refine JO.no rfl rfl (Nat.le_of_ble_eq_true rfl) ?_)
    exact J.ret Tryd.func10 rfl (.cons (.tmp rfl) .nil) () (by first | exact .agg (by repeat (first | exact .nil | refine .cons .refl ?_ | refine .cons .nil ?_ | refine .cons .snoc ?_ | refine .cons .clone ?_)) | exact .refl | exact .c .nil | exact .tup (by repeat (first | exact .nil | refine .cons (.agg (by repeat (first | exact .nil | refine .cons .refl ?_ | refine .cons .nil ?_ | refine .cons .snoc ?_ | refine .cons .clone ?_))) ?_ | refine .cons .refl ?_ | refine .cons (.c .nil) ?_ | refine .cons (.c .snoc) ?_ | refine .cons (.c .clone) ?_))) [] .nil rfl rfl
  | true =>
  rw [hr] at CR
  have CI := cs_isI hr
  have R := hr
  unfold Pn.rightOp at R
  rw [decide_eq_true_iff] at R
  obtain ⟨r1, r2, r3, r4, r5, r6, r7, r8, r9, -, -, -, -, -⟩ := R
  have CN := c_number o.n (by unfold isI; omega)
  have CC := c_number o.ch (by unfold isI; omega)
  have CV := c_number o.v (by unfold isI; omega)
  have CK := c_opName o.kind (by omega) (by omega)
  have l1 := Wd.num_len o.n (by omega) (by omega)
  have l2 := Wd.num_len o.ch (by omega) (by omega)
  have l3 := Wd.num_len o.v (by omega) (by omega)
  have lk := Wd.kind_len o.kind
  have lc := Wd.cass_len o.cases CI
  clear r3 r4 r5 r6 r7 r8 hr
  obtain ⟨kd, ch, n, v, cs, els⟩ := o
  simp only at *
  unfold Wd.op1
  have hk : (kd = 2 ∨ kd = 4) ∨ (kd = 3 ∨ kd = 5 ∨ kd = 6 ∨ kd = 7 ∨ kd = 8) ∨ kd = 1 ∨ kd = 9 := by omega
  clear r1 r2
  rcases hk with hk | hk | hk | hk
  · rcases hk with rfl | rfl
    all_goals
      repeat (first
          | (refine K.fieldAddr ?_; refine JO.q rfl rfl (Nat.le_of_ble_eq_true rfl) (Qt.fieldAddr rfl rfl) ?_)
          | (refine K.load ?_; first | refine JO.q rfl rfl (Nat.le_of_ble_eq_true rfl) (Qt.load1 rfl .el rfl) ?_ | refine JO.q rfl rfl (Nat.le_of_ble_eq_true rfl) (Qt.loadW rfl .el rfl) ?_ | refine JO.q rfl rfl (Nat.le_of_ble_eq_true rfl) (Qt.loadN rfl .el rfl rfl) ?_ | refine JO.q rfl rfl (Nat.le_of_ble_eq_true rfl) (Qt.load1b rfl (by exact rfl)) ?_ | refine JO.q rfl rfl (Nat.le_of_ble_eq_true rfl) (Qt.loadWb rfl (by exact rfl)) ?_ | refine JO.q rfl rfl (Nat.le_of_ble_eq_true rfl) (Qt.loadNb rfl (by exact rfl) (by exact rfl)) ?_)
          | (refine K.move ?_; refine JO.q rfl rfl (Nat.le_of_ble_eq_true rfl) (Qt.move rfl) ?_)
          | (refine K.store ?_; first | refine JO.ld (Ld.storeW rfl rfl rfl (by exact rfl) (by exact rfl)) rfl (fun _ => ?_) | refine JO.ld (Ld.store1 rfl rfl (by exact rfl)) rfl (fun _ => ?_) | refine JO.ld (Ld.storeN rfl rfl rfl (by exact rfl) (by exact rfl)) rfl (fun _ => ?_))
          | (refine K.assign ?_; refine JO.q rfl rfl (Nat.le_of_ble_eq_true rfl) (Qt.assign rfl) ?_)
          | (refine K.binOp ?_; first | refine JO.q rfl rfl (Nat.le_of_ble_eq_true rfl) (Qt.cat rfl rfl (by first | omega | (simp only [List.length_append, List.length_cons, List.length_nil]; omega))) ?_ | refine JO.q rfl rfl (Nat.le_of_ble_eq_true rfl) (Qt.cmp rfl rfl rfl) ?_ | refine JO.q rfl rfl (Nat.le_of_ble_eq_true rfl) (Qt.eqB rfl rfl) ?_ | refine JO.q rfl rfl (Nat.le_of_ble_eq_true rfl) (Qt.neB rfl rfl) ?_)
          | (refine K.call ?_; first | (refine JO.pure (CR) rfl (Nat.le_of_ble_eq_true rfl) rfl ?_ ?_; focus ((repeat (first | exact LeDs.nil | refine LeDs.cons (LeD.agg (by repeat (first | exact .nil | refine .cons .refl ?_ | refine .cons .nil ?_ | refine .cons .snoc ?_ | refine .cons .clone ?_))) ?_ | refine LeDs.cons LeD.refl ?_ | refine LeDs.cons (LeD.c LeA.nil) ?_ | refine LeDs.cons (LeD.c LeA.snoc) ?_ | refine LeDs.cons (LeD.c LeA.clone) ?_)); done)) | (refine JO.pure (CK) rfl (Nat.le_of_ble_eq_true rfl) rfl ?_ ?_; focus ((repeat (first | exact LeDs.nil | refine LeDs.cons (LeD.agg (by repeat (first | exact .nil | refine .cons .refl ?_ | refine .cons .nil ?_ | refine .cons .snoc ?_ | refine .cons .clone ?_))) ?_ | refine LeDs.cons LeD.refl ?_ | refine LeDs.cons (LeD.c LeA.nil) ?_ | refine LeDs.cons (LeD.c LeA.snoc) ?_ | refine LeDs.cons (LeD.c LeA.clone) ?_)); done)) | (refine JO.ld (Ld.pureW hW (CC) (Nat.le_of_ble_eq_true rfl) rfl ?_) rfl (fun _ => ?_); focus ((repeat (first | exact LeDs.nil | refine LeDs.cons (LeD.agg (by repeat (first | exact .nil | refine .cons .refl ?_ | refine .cons .nil ?_ | refine .cons .snoc ?_ | refine .cons .clone ?_))) ?_ | refine LeDs.cons LeD.refl ?_ | refine LeDs.cons (LeD.c LeA.nil) ?_ | refine LeDs.cons (LeD.c LeA.snoc) ?_ | refine LeDs.cons (LeD.c LeA.clone) ?_)); done)) | (refine JO.ld (Ld.pureW hW (CV) (Nat.le_of_ble_eq_true rfl) rfl ?_) rfl (fun _ => ?_); focus ((repeat (first | exact LeDs.nil | refine LeDs.cons (LeD.agg (by repeat (first | exact .nil | refine .cons .refl ?_ | refine .cons .nil ?_ | refine .cons .snoc ?_ | refine .cons .clone ?_))) ?_ | refine LeDs.cons LeD.refl ?_ | refine LeDs.cons (LeD.c LeA.nil) ?_ | refine LeDs.cons (LeD.c LeA.snoc) ?_ | refine LeDs.cons (LeD.c LeA.clone) ?_)); done)))
          | (refine K.unOp ?_; refine JO.q rfl rfl (Nat.le_of_ble_eq_true rfl) (Qt.not rfl) ?_)
          | (refine K.bi ?_; first | refine JO.q rfl rfl (Nat.le_of_ble_eq_true rfl) (Qt.lenM rfl) ?_ | refine JO.q rfl rfl (Nat.le_of_ble_eq_true rfl) (Qt.lenR rfl) ?_ | refine JO.q rfl rfl (Nat.le_of_ble_eq_true rfl) (Qt.lenV rfl) ?_ | refine JO.q rfl rfl (Nat.le_of_ble_eq_true rfl) (Qt.lenO rfl) ?_)
          | (refine K.extract ?_; refine JO.q rfl rfl (Nat.le_of_ble_eq_true rfl) (Qt.extract rfl rfl) ?_)
          | (refine JO.alloc rfl (Nat.le_of_ble_eq_true rfl) ?_; intro _)
          | (refine JO.box rfl (Nat.le_of_ble_eq_true rfl) rfl rfl ?_; intro _)
          | (refine K.pick ?_; refine JO.q rfl rfl (Nat.le_of_ble_eq_true rfl) (Qt.pick rfl rfl) ?_)
          | (refine K.build ?_; refine JO.q rfl rfl (Nat.le_of_ble_eq_true rfl) (Qt.build rfl (by kernel_rfl)) ?_)
          | (refine K.lit ?_; first | (refine JO.lit0 rfl (Nat.le_of_ble_eq_true rfl) ?_; intro _) | (refine JO.lit1 rfl (Nat.le_of_ble_eq_true rfl) rfl rfl rfl rfl rfl ?_; intro _))
          | (refine K.nilCheck ?_; refine JO.q rfl rfl (Nat.le_of_ble_eq_true rfl) (Qt.nilCheck rfl rfl) ?_)
          | (refine K.field ?_; refine JO.q rfl rfl (Nat.le_of_ble_eq_true rfl) (Qt.field rfl rfl (by kernel_rfl) rfl) ?_)
          | (refine K.convert ?_; refine JO.q rfl rfl (Nat.le_of_ble_eq_true rfl) (Qt.conv rfl rfl) ?_)
          | refine JO.nil ?_
          | refine J.seq ?_
          | refine J.region ?_
          | refine J.block ?_
          | refine J.inBlock ?_
          | refine J.skip ?_
          | refine J.exit rfl ?_
          | refine J.cond_t rfl ?_
          | refine J.cond_f rfl ?_
          | refine JO.no rfl rfl (Nat.le_of_ble_eq_true rfl) ?_)
      refine J.ret Tryd.func10 rfl (.cons (.tmp rfl) .nil) () (.of_eq ?_) [] .nil rfl rfl
      rfl
  · rcases hk with rfl | rfl | rfl | rfl | rfl
    all_goals
      repeat (first
          | (refine K.fieldAddr ?_; refine JO.q rfl rfl (Nat.le_of_ble_eq_true rfl) (Qt.fieldAddr rfl rfl) ?_)
          | (refine K.load ?_; first | refine JO.q rfl rfl (Nat.le_of_ble_eq_true rfl) (Qt.load1 rfl .el rfl) ?_ | refine JO.q rfl rfl (Nat.le_of_ble_eq_true rfl) (Qt.loadW rfl .el rfl) ?_ | refine JO.q rfl rfl (Nat.le_of_ble_eq_true rfl) (Qt.loadN rfl .el rfl rfl) ?_ | refine JO.q rfl rfl (Nat.le_of_ble_eq_true rfl) (Qt.load1b rfl (by exact rfl)) ?_ | refine JO.q rfl rfl (Nat.le_of_ble_eq_true rfl) (Qt.loadWb rfl (by exact rfl)) ?_ | refine JO.q rfl rfl (Nat.le_of_ble_eq_true rfl) (Qt.loadNb rfl (by exact rfl) (by exact rfl)) ?_)
          | (refine K.move ?_; refine JO.q rfl rfl (Nat.le_of_ble_eq_true rfl) (Qt.move rfl) ?_)
          | (refine K.store ?_; first | refine JO.ld (Ld.storeW rfl rfl rfl (by exact rfl) (by exact rfl)) rfl (fun _ => ?_) | refine JO.ld (Ld.store1 rfl rfl (by exact rfl)) rfl (fun _ => ?_) | refine JO.ld (Ld.storeN rfl rfl rfl (by exact rfl) (by exact rfl)) rfl (fun _ => ?_))
          | (refine K.assign ?_; refine JO.q rfl rfl (Nat.le_of_ble_eq_true rfl) (Qt.assign rfl) ?_)
          | (refine K.binOp ?_; first | refine JO.q rfl rfl (Nat.le_of_ble_eq_true rfl) (Qt.cat rfl rfl (by first | omega | (simp only [List.length_append, List.length_cons, List.length_nil]; omega))) ?_ | refine JO.q rfl rfl (Nat.le_of_ble_eq_true rfl) (Qt.cmp rfl rfl rfl) ?_ | refine JO.q rfl rfl (Nat.le_of_ble_eq_true rfl) (Qt.eqB rfl rfl) ?_ | refine JO.q rfl rfl (Nat.le_of_ble_eq_true rfl) (Qt.neB rfl rfl) ?_)
          | (refine K.call ?_; first | (refine JO.pure (CR) rfl (Nat.le_of_ble_eq_true rfl) rfl ?_ ?_; focus ((repeat (first | exact LeDs.nil | refine LeDs.cons (LeD.agg (by repeat (first | exact .nil | refine .cons .refl ?_ | refine .cons .nil ?_ | refine .cons .snoc ?_ | refine .cons .clone ?_))) ?_ | refine LeDs.cons LeD.refl ?_ | refine LeDs.cons (LeD.c LeA.nil) ?_ | refine LeDs.cons (LeD.c LeA.snoc) ?_ | refine LeDs.cons (LeD.c LeA.clone) ?_)); done)) | (refine JO.pure (CK) rfl (Nat.le_of_ble_eq_true rfl) rfl ?_ ?_; focus ((repeat (first | exact LeDs.nil | refine LeDs.cons (LeD.agg (by repeat (first | exact .nil | refine .cons .refl ?_ | refine .cons .nil ?_ | refine .cons .snoc ?_ | refine .cons .clone ?_))) ?_ | refine LeDs.cons LeD.refl ?_ | refine LeDs.cons (LeD.c LeA.nil) ?_ | refine LeDs.cons (LeD.c LeA.snoc) ?_ | refine LeDs.cons (LeD.c LeA.clone) ?_)); done)) | (refine JO.ld (Ld.pureW hW (CC) (Nat.le_of_ble_eq_true rfl) rfl ?_) rfl (fun _ => ?_); focus ((repeat (first | exact LeDs.nil | refine LeDs.cons (LeD.agg (by repeat (first | exact .nil | refine .cons .refl ?_ | refine .cons .nil ?_ | refine .cons .snoc ?_ | refine .cons .clone ?_))) ?_ | refine LeDs.cons LeD.refl ?_ | refine LeDs.cons (LeD.c LeA.nil) ?_ | refine LeDs.cons (LeD.c LeA.snoc) ?_ | refine LeDs.cons (LeD.c LeA.clone) ?_)); done)))
          | (refine K.unOp ?_; refine JO.q rfl rfl (Nat.le_of_ble_eq_true rfl) (Qt.not rfl) ?_)
          | (refine K.bi ?_; first | refine JO.q rfl rfl (Nat.le_of_ble_eq_true rfl) (Qt.lenM rfl) ?_ | refine JO.q rfl rfl (Nat.le_of_ble_eq_true rfl) (Qt.lenR rfl) ?_ | refine JO.q rfl rfl (Nat.le_of_ble_eq_true rfl) (Qt.lenV rfl) ?_ | refine JO.q rfl rfl (Nat.le_of_ble_eq_true rfl) (Qt.lenO rfl) ?_)
          | (refine K.extract ?_; refine JO.q rfl rfl (Nat.le_of_ble_eq_true rfl) (Qt.extract rfl rfl) ?_)
          | (refine JO.alloc rfl (Nat.le_of_ble_eq_true rfl) ?_; intro _)
          | (refine JO.box rfl (Nat.le_of_ble_eq_true rfl) rfl rfl ?_; intro _)
          | (refine K.pick ?_; refine JO.q rfl rfl (Nat.le_of_ble_eq_true rfl) (Qt.pick rfl rfl) ?_)
          | (refine K.build ?_; refine JO.q rfl rfl (Nat.le_of_ble_eq_true rfl) (Qt.build rfl (by kernel_rfl)) ?_)
          | (refine K.lit ?_; first | (refine JO.lit0 rfl (Nat.le_of_ble_eq_true rfl) ?_; intro _) | (refine JO.lit1 rfl (Nat.le_of_ble_eq_true rfl) rfl rfl rfl rfl rfl ?_; intro _))
          | (refine K.nilCheck ?_; refine JO.q rfl rfl (Nat.le_of_ble_eq_true rfl) (Qt.nilCheck rfl rfl) ?_)
          | (refine K.field ?_; refine JO.q rfl rfl (Nat.le_of_ble_eq_true rfl) (Qt.field rfl rfl (by kernel_rfl) rfl) ?_)
          | (refine K.convert ?_; refine JO.q rfl rfl (Nat.le_of_ble_eq_true rfl) (Qt.conv rfl rfl) ?_)
          | refine JO.nil ?_
          | refine J.seq ?_
          | refine J.region ?_
          | refine J.block ?_
          | refine J.inBlock ?_
          | refine J.skip ?_
          | refine J.exit rfl ?_
          | refine J.cond_t rfl ?_
          | refine J.cond_f rfl ?_
          | refine JO.no rfl rfl (Nat.le_of_ble_eq_true rfl) ?_)
      refine J.ret Tryd.func10 rfl (.cons (.tmp rfl) .nil) () (.of_eq ?_) [] .nil rfl rfl
      rfl
  · subst hk
    repeat (first
        | (refine K.fieldAddr ?_; refine JO.q rfl rfl (Nat.le_of_ble_eq_true rfl) (Qt.fieldAddr rfl rfl) ?_)
        | (refine K.load ?_; first | refine JO.q rfl rfl (Nat.le_of_ble_eq_true rfl) (Qt.load1 rfl .el rfl) ?_ | refine JO.q rfl rfl (Nat.le_of_ble_eq_true rfl) (Qt.loadW rfl .el rfl) ?_ | refine JO.q rfl rfl (Nat.le_of_ble_eq_true rfl) (Qt.loadN rfl .el rfl rfl) ?_ | refine JO.q rfl rfl (Nat.le_of_ble_eq_true rfl) (Qt.load1b rfl (by exact rfl)) ?_ | refine JO.q rfl rfl (Nat.le_of_ble_eq_true rfl) (Qt.loadWb rfl (by exact rfl)) ?_ | refine JO.q rfl rfl (Nat.le_of_ble_eq_true rfl) (Qt.loadNb rfl (by exact rfl) (by exact rfl)) ?_)
        | (refine K.move ?_; refine JO.q rfl rfl (Nat.le_of_ble_eq_true rfl) (Qt.move rfl) ?_)
        | (refine K.store ?_; first | refine JO.ld (Ld.storeW rfl rfl rfl (by exact rfl) (by exact rfl)) rfl (fun _ => ?_) | refine JO.ld (Ld.store1 rfl rfl (by exact rfl)) rfl (fun _ => ?_) | refine JO.ld (Ld.storeN rfl rfl rfl (by exact rfl) (by exact rfl)) rfl (fun _ => ?_))
        | (refine K.assign ?_; refine JO.q rfl rfl (Nat.le_of_ble_eq_true rfl) (Qt.assign rfl) ?_)
        | (refine K.binOp ?_; first | refine JO.q rfl rfl (Nat.le_of_ble_eq_true rfl) (Qt.cat rfl rfl (by first | omega | (simp only [List.length_append, List.length_cons, List.length_nil]; omega))) ?_ | refine JO.q rfl rfl (Nat.le_of_ble_eq_true rfl) (Qt.cmp rfl rfl rfl) ?_ | refine JO.q rfl rfl (Nat.le_of_ble_eq_true rfl) (Qt.eqB rfl rfl) ?_ | refine JO.q rfl rfl (Nat.le_of_ble_eq_true rfl) (Qt.neB rfl rfl) ?_)
        | (refine K.call ?_; first | (refine JO.pure (CR) rfl (Nat.le_of_ble_eq_true rfl) rfl ?_ ?_; focus ((repeat (first | exact LeDs.nil | refine LeDs.cons (LeD.agg (by repeat (first | exact .nil | refine .cons .refl ?_ | refine .cons .nil ?_ | refine .cons .snoc ?_ | refine .cons .clone ?_))) ?_ | refine LeDs.cons LeD.refl ?_ | refine LeDs.cons (LeD.c LeA.nil) ?_ | refine LeDs.cons (LeD.c LeA.snoc) ?_ | refine LeDs.cons (LeD.c LeA.clone) ?_)); done)) | (refine JO.pure (CK) rfl (Nat.le_of_ble_eq_true rfl) rfl ?_ ?_; focus ((repeat (first | exact LeDs.nil | refine LeDs.cons (LeD.agg (by repeat (first | exact .nil | refine .cons .refl ?_ | refine .cons .nil ?_ | refine .cons .snoc ?_ | refine .cons .clone ?_))) ?_ | refine LeDs.cons LeD.refl ?_ | refine LeDs.cons (LeD.c LeA.nil) ?_ | refine LeDs.cons (LeD.c LeA.snoc) ?_ | refine LeDs.cons (LeD.c LeA.clone) ?_)); done)) | (refine JO.ld (Ld.pureW hW (CN) (Nat.le_of_ble_eq_true rfl) rfl ?_) rfl (fun _ => ?_); focus ((repeat (first | exact LeDs.nil | refine LeDs.cons (LeD.agg (by repeat (first | exact .nil | refine .cons .refl ?_ | refine .cons .nil ?_ | refine .cons .snoc ?_ | refine .cons .clone ?_))) ?_ | refine LeDs.cons LeD.refl ?_ | refine LeDs.cons (LeD.c LeA.nil) ?_ | refine LeDs.cons (LeD.c LeA.snoc) ?_ | refine LeDs.cons (LeD.c LeA.clone) ?_)); done)))
        | (refine K.unOp ?_; refine JO.q rfl rfl (Nat.le_of_ble_eq_true rfl) (Qt.not rfl) ?_)
        | (refine K.bi ?_; first | refine JO.q rfl rfl (Nat.le_of_ble_eq_true rfl) (Qt.lenM rfl) ?_ | refine JO.q rfl rfl (Nat.le_of_ble_eq_true rfl) (Qt.lenR rfl) ?_ | refine JO.q rfl rfl (Nat.le_of_ble_eq_true rfl) (Qt.lenV rfl) ?_ | refine JO.q rfl rfl (Nat.le_of_ble_eq_true rfl) (Qt.lenO rfl) ?_)
        | (refine K.extract ?_; refine JO.q rfl rfl (Nat.le_of_ble_eq_true rfl) (Qt.extract rfl rfl) ?_)
        | (refine JO.alloc rfl (Nat.le_of_ble_eq_true rfl) ?_; intro _)
        | (refine JO.box rfl (Nat.le_of_ble_eq_true rfl) rfl rfl ?_; intro _)
        | (refine K.pick ?_; refine JO.q rfl rfl (Nat.le_of_ble_eq_true rfl) (Qt.pick rfl rfl) ?_)
        | (refine K.build ?_; refine JO.q rfl rfl (Nat.le_of_ble_eq_true rfl) (Qt.build rfl (by kernel_rfl)) ?_)
        | (refine K.lit ?_; first | (refine JO.lit0 rfl (Nat.le_of_ble_eq_true rfl) ?_; intro _) | (refine JO.lit1 rfl (Nat.le_of_ble_eq_true rfl) rfl rfl rfl rfl rfl ?_; intro _))
        | (refine K.nilCheck ?_; refine JO.q rfl rfl (Nat.le_of_ble_eq_true rfl) (Qt.nilCheck rfl rfl) ?_)
        | (refine K.field ?_; refine JO.q rfl rfl (Nat.le_of_ble_eq_true rfl) (Qt.field rfl rfl (by kernel_rfl) rfl) ?_)
        | (refine K.convert ?_; refine JO.q rfl rfl (Nat.le_of_ble_eq_true rfl) (Qt.conv rfl rfl) ?_)
        | refine JO.nil ?_
        | refine J.seq ?_
        | refine J.region ?_
        | refine J.block ?_
        | refine J.inBlock ?_
        | refine J.skip ?_
        | refine J.exit rfl ?_
        | refine J.cond_t rfl ?_
        | refine J.cond_f rfl ?_
        | refine JO.no rfl rfl (Nat.le_of_ble_eq_true rfl) ?_)
    refine J.ret Tryd.func10 rfl (.cons (.tmp rfl) .nil) () (.of_eq ?_) [] .nil rfl rfl
    rfl
  subst hk
  repeat (first
      | (refine K.fieldAddr ?_; refine JO.q rfl rfl (Nat.le_of_ble_eq_true rfl) (Qt.fieldAddr rfl rfl) ?_)
      | (refine K.load ?_; first | refine JO.q rfl rfl (Nat.le_of_ble_eq_true rfl) (Qt.load1 rfl .el rfl) ?_ | refine JO.q rfl rfl (Nat.le_of_ble_eq_true rfl) (Qt.loadW rfl .el rfl) ?_ | refine JO.q rfl rfl (Nat.le_of_ble_eq_true rfl) (Qt.loadN rfl .el rfl rfl) ?_ | refine JO.q rfl rfl (Nat.le_of_ble_eq_true rfl) (Qt.load1b rfl (by exact rfl)) ?_ | refine JO.q rfl rfl (Nat.le_of_ble_eq_true rfl) (Qt.loadWb rfl (by exact rfl)) ?_ | refine JO.q rfl rfl (Nat.le_of_ble_eq_true rfl) (Qt.loadNb rfl (by exact rfl) (by exact rfl)) ?_)
      | (refine K.move ?_; refine JO.q rfl rfl (Nat.le_of_ble_eq_true rfl) (Qt.move rfl) ?_)
      | (refine K.store ?_; first | refine JO.ld (Ld.storeW rfl rfl rfl (by exact rfl) (by exact rfl)) rfl (fun _ => ?_) | refine JO.ld (Ld.store1 rfl rfl (by exact rfl)) rfl (fun _ => ?_) | refine JO.ld (Ld.storeN rfl rfl rfl (by exact rfl) (by exact rfl)) rfl (fun _ => ?_))
      | (refine K.assign ?_; refine JO.q rfl rfl (Nat.le_of_ble_eq_true rfl) (Qt.assign rfl) ?_)
      | (refine K.binOp ?_; first | refine JO.q rfl rfl (Nat.le_of_ble_eq_true rfl) (Qt.cmp rfl rfl rfl) ?_ | refine JO.q rfl rfl (Nat.le_of_ble_eq_true rfl) (Qt.eqB rfl rfl) ?_ | refine JO.q rfl rfl (Nat.le_of_ble_eq_true rfl) (Qt.neB rfl rfl) ?_)
      | (refine K.call ?_; first | (refine JO.pure (CR) rfl (Nat.le_of_ble_eq_true rfl) rfl ?_ ?_; focus ((repeat (first | exact LeDs.nil | refine LeDs.cons (LeD.agg (by repeat (first | exact .nil | refine .cons .refl ?_ | refine .cons .nil ?_ | refine .cons .snoc ?_ | refine .cons .clone ?_))) ?_ | refine LeDs.cons LeD.refl ?_ | refine LeDs.cons (LeD.c LeA.nil) ?_ | refine LeDs.cons (LeD.c LeA.snoc) ?_ | refine LeDs.cons (LeD.c LeA.clone) ?_)); done)) | (refine JO.pure (CK) rfl (Nat.le_of_ble_eq_true rfl) rfl ?_ ?_; focus ((repeat (first | exact LeDs.nil | refine LeDs.cons (LeD.agg (by repeat (first | exact .nil | refine .cons .refl ?_ | refine .cons .nil ?_ | refine .cons .snoc ?_ | refine .cons .clone ?_))) ?_ | refine LeDs.cons LeD.refl ?_ | refine LeDs.cons (LeD.c LeA.nil) ?_ | refine LeDs.cons (LeD.c LeA.snoc) ?_ | refine LeDs.cons (LeD.c LeA.clone) ?_)); done)))
      | (refine K.unOp ?_; refine JO.q rfl rfl (Nat.le_of_ble_eq_true rfl) (Qt.not rfl) ?_)
      | (refine K.bi ?_; first | refine JO.q rfl rfl (Nat.le_of_ble_eq_true rfl) (Qt.lenM rfl) ?_ | refine JO.q rfl rfl (Nat.le_of_ble_eq_true rfl) (Qt.lenR rfl) ?_ | refine JO.q rfl rfl (Nat.le_of_ble_eq_true rfl) (Qt.lenV rfl) ?_ | refine JO.q rfl rfl (Nat.le_of_ble_eq_true rfl) (Qt.lenO rfl) ?_)
      | (refine K.extract ?_; refine JO.q rfl rfl (Nat.le_of_ble_eq_true rfl) (Qt.extract rfl rfl) ?_)
      | (refine JO.alloc rfl (Nat.le_of_ble_eq_true rfl) ?_; intro _)
      | (refine JO.box rfl (Nat.le_of_ble_eq_true rfl) rfl rfl ?_; intro _)
      | (refine K.pick ?_; refine JO.q rfl rfl (Nat.le_of_ble_eq_true rfl) (Qt.pick rfl rfl) ?_)
      | (refine K.build ?_; refine JO.q rfl rfl (Nat.le_of_ble_eq_true rfl) (Qt.build rfl (by kernel_rfl)) ?_)
      | (refine K.lit ?_; first | (refine JO.lit0 rfl (Nat.le_of_ble_eq_true rfl) ?_; intro _) | (refine JO.lit1 rfl (Nat.le_of_ble_eq_true rfl) rfl rfl rfl rfl rfl ?_; intro _))
      | (refine K.nilCheck ?_; refine JO.q rfl rfl (Nat.le_of_ble_eq_true rfl) (Qt.nilCheck rfl rfl) ?_)
      | (refine K.field ?_; refine JO.q rfl rfl (Nat.le_of_ble_eq_true rfl) (Qt.field rfl rfl (by kernel_rfl) rfl) ?_)
      | (refine K.convert ?_; refine JO.q rfl rfl (Nat.le_of_ble_eq_true rfl) (Qt.conv rfl rfl) ?_)
      | refine JO.nil ?_
      | refine J.seq ?_
      | refine J.region ?_
      | refine J.block ?_
      | refine J.inBlock ?_
      | refine J.skip ?_
      | refine J.exit rfl ?_
      | refine J.cond_t rfl ?_
      | refine J.cond_f rfl ?_
      | refine JO.no rfl rfl (Nat.le_of_ble_eq_true rfl) ?_)
  rename_i b1
  refine J.loop (ι := { q : Nat // q ≤ cs.length }) (fun q => [(46, .c (nI q.1)), (45, .c (nI cs.length)), (44, .c (.r 3 (cs.map eCs))), (3, .c (sA (Wd.kind 9 ++ Wd.cass (cs.take q.1)))), (1, .c (.v (.pointer (some ⟨b1, 0, none⟩))))]) (fun _ => [.box b1 25 (eOp ⟨9, ch, n, v, cs, els⟩)]) (fun q => cs.length - q.1) ⟨0, Nat.zero_le _⟩ (fun X h => h.weak ⟨rfl, rfl, rfl, rfl, rfl, trivial⟩) (fun q ih => ?_)
  obtain ⟨k, hk'⟩ := q
  simp only at hk' ih ⊢
  by_cases hk : k < cs.length
  · have t1 : decide ((k : Int) < (cs.length : Int)) = true := decide_eq_true (by omega)
    obtain ⟨x, hx⟩ : ∃ m, cs[k]? = some m := ⟨_, List.getElem?_eq_getElem hk⟩
    have AX := wd_at (enc := eCs) hx
    have hm := List.mem_of_getElem? hx
    have CX := c_case x (CI x hm)
    have lx := Wd.cas_len x (CI x hm)
    have lt := Wd.cass_len (cs.take k) fun c hc => CI c (List.mem_of_mem_take hc)
    rw [List.length_take] at lt
    have e1 : Wd.kind 9 ++ Wd.cass (cs.take (k + 1)) = (Wd.kind 9 ++ Wd.cass (cs.take k)) ++ ([32, 124, 32] ++ Wd.cas x) := by
      rw [List.take_add_one, hx]
      simp [Wd.cass, Wd.bar]
    have next := ih ⟨k + 1, by omega⟩ (by simp only; omega)
    rw [e1] at next
    clear ih e1 CR CK CN CC CV
    generalize Wd.cass (cs.take k) = W at *
    have l0 : (Wd.kind 9).length + W.length ≤ 1000 := by omega
    repeat (first
        | (refine K.fieldAddr ?_; refine JO.q rfl rfl (Nat.le_of_ble_eq_true rfl) (Qt.fieldAddr rfl rfl) ?_)
        | (refine K.load ?_; first | refine JO.q rfl rfl (Nat.le_of_ble_eq_true rfl) (Qt.load1 rfl .el rfl) ?_ | refine JO.q rfl rfl (Nat.le_of_ble_eq_true rfl) (Qt.loadW rfl .el rfl) ?_ | refine JO.q rfl rfl (Nat.le_of_ble_eq_true rfl) (Qt.loadN rfl .el rfl rfl) ?_ | refine JO.q rfl rfl (Nat.le_of_ble_eq_true rfl) (Qt.load1b rfl (by exact rfl)) ?_ | refine JO.q rfl rfl (Nat.le_of_ble_eq_true rfl) (Qt.loadWb rfl (by exact rfl)) ?_ | refine JO.q rfl rfl (Nat.le_of_ble_eq_true rfl) (Qt.loadNb rfl (by exact rfl) (by exact rfl)) ?_)
        | (refine K.move ?_; refine JO.q rfl rfl (Nat.le_of_ble_eq_true rfl) (Qt.move rfl) ?_)
        | (refine K.store ?_; first | refine JO.ld (Ld.storeW rfl rfl rfl (by exact rfl) (by exact rfl)) rfl (fun _ => ?_) | refine JO.ld (Ld.store1 rfl rfl (by exact rfl)) rfl (fun _ => ?_) | refine JO.ld (Ld.storeN rfl rfl rfl (by exact rfl) (by exact rfl)) rfl (fun _ => ?_))
        | (refine K.assign ?_; refine JO.q rfl rfl (Nat.le_of_ble_eq_true rfl) (Qt.assign rfl) ?_)
        | (refine K.indexAddr ?_; refine JO.q rfl rfl (Nat.le_of_ble_eq_true rfl) (Qt.indexR rfl rfl (by omega) (AX)) ?_)
        | (refine K.binOp ?_; first | refine JO.q rfl rfl (Nat.le_of_ble_eq_true rfl) (Qt.cmp rfl rfl (congrArg some t1)) ?_ | refine JO.q rfl rfl (Nat.le_of_ble_eq_true rfl) (Qt.cat rfl rfl (by first | omega | (simp only [List.length_append, List.length_cons, List.length_nil]; omega))) ?_ | refine JO.q rfl rfl (Nat.le_of_ble_eq_true rfl) (Qt.ari rfl rfl rfl (w64 (by omega) (by omega))) ?_ | refine JO.q rfl rfl (Nat.le_of_ble_eq_true rfl) (Qt.cmp rfl rfl rfl) ?_ | refine JO.q rfl rfl (Nat.le_of_ble_eq_true rfl) (Qt.eqB rfl rfl) ?_ | refine JO.q rfl rfl (Nat.le_of_ble_eq_true rfl) (Qt.neB rfl rfl) ?_)
        | (refine K.call ?_; first | (refine JO.ld (Ld.pureW hW (CX) (Nat.le_of_ble_eq_true rfl) rfl ?_) rfl (fun _ => ?_); focus ((repeat (first | exact LeDs.nil | refine LeDs.cons (LeD.agg (by repeat (first | exact .nil | refine .cons .refl ?_ | refine .cons .nil ?_ | refine .cons .snoc ?_ | refine .cons .clone ?_))) ?_ | refine LeDs.cons LeD.refl ?_ | refine LeDs.cons (LeD.c LeA.nil) ?_ | refine LeDs.cons (LeD.c LeA.snoc) ?_ | refine LeDs.cons (LeD.c LeA.clone) ?_)); done)))
        | (refine K.unOp ?_; refine JO.q rfl rfl (Nat.le_of_ble_eq_true rfl) (Qt.not rfl) ?_)
        | (refine K.bi ?_; first | refine JO.q rfl rfl (Nat.le_of_ble_eq_true rfl) (Qt.lenM rfl) ?_ | refine JO.q rfl rfl (Nat.le_of_ble_eq_true rfl) (Qt.lenR rfl) ?_ | refine JO.q rfl rfl (Nat.le_of_ble_eq_true rfl) (Qt.lenV rfl) ?_ | refine JO.q rfl rfl (Nat.le_of_ble_eq_true rfl) (Qt.lenO rfl) ?_)
        | (refine K.extract ?_; refine JO.q rfl rfl (Nat.le_of_ble_eq_true rfl) (Qt.extract rfl rfl) ?_)
        | (refine JO.alloc rfl (Nat.le_of_ble_eq_true rfl) ?_; intro _)
        | (refine JO.box rfl (Nat.le_of_ble_eq_true rfl) rfl rfl ?_; intro _)
        | (refine K.pick ?_; refine JO.q rfl rfl (Nat.le_of_ble_eq_true rfl) (Qt.pick rfl rfl) ?_)
        | (refine K.build ?_; refine JO.q rfl rfl (Nat.le_of_ble_eq_true rfl) (Qt.build rfl (by kernel_rfl)) ?_)
        | (refine K.lit ?_; first | (refine JO.lit0 rfl (Nat.le_of_ble_eq_true rfl) ?_; intro _) | (refine JO.lit1 rfl (Nat.le_of_ble_eq_true rfl) rfl rfl rfl rfl rfl ?_; intro _))
        | (refine K.nilCheck ?_; refine JO.q rfl rfl (Nat.le_of_ble_eq_true rfl) (Qt.nilCheck rfl rfl) ?_)
        | (refine K.field ?_; refine JO.q rfl rfl (Nat.le_of_ble_eq_true rfl) (Qt.field rfl rfl (by kernel_rfl) rfl) ?_)
        | (refine K.convert ?_; refine JO.q rfl rfl (Nat.le_of_ble_eq_true rfl) (Qt.conv rfl rfl) ?_)
        | refine JO.nil ?_
        | refine J.seq ?_
        | refine J.region ?_
        | refine J.block ?_
        | refine J.inBlock ?_
        | refine J.skip ?_
        | refine J.exit rfl ?_
        | refine J.cond_t rfl ?_
        | refine J.cond_f rfl ?_
        | refine JO.no rfl rfl (Nat.le_of_ble_eq_true rfl) ?_)
    refine J.drop 0 ?_
    exact next.weak ⟨rfl, rfl, rfl, rfl, rfl, trivial⟩
  obtain rfl : k = cs.length := by omega
  have t1 : decide ((cs.length : Int) < (cs.length : Int)) = false := decide_eq_false (by omega)
  rw [List.take_length]
  clear ih CR CK CN CC CV
  have l0 : (Wd.kind 9).length + (Wd.cass cs).length ≤ 1000 := by omega
  cases els with
  | true =>
    repeat (first
        | (refine K.fieldAddr ?_; refine JO.q rfl rfl (Nat.le_of_ble_eq_true rfl) (Qt.fieldAddr rfl rfl) ?_)
        | (refine K.load ?_; first | refine JO.q rfl rfl (Nat.le_of_ble_eq_true rfl) (Qt.load1 rfl .el rfl) ?_ | refine JO.q rfl rfl (Nat.le_of_ble_eq_true rfl) (Qt.loadW rfl .el rfl) ?_ | refine JO.q rfl rfl (Nat.le_of_ble_eq_true rfl) (Qt.loadN rfl .el rfl rfl) ?_ | refine JO.q rfl rfl (Nat.le_of_ble_eq_true rfl) (Qt.load1b rfl (by exact rfl)) ?_ | refine JO.q rfl rfl (Nat.le_of_ble_eq_true rfl) (Qt.loadWb rfl (by exact rfl)) ?_ | refine JO.q rfl rfl (Nat.le_of_ble_eq_true rfl) (Qt.loadNb rfl (by exact rfl) (by exact rfl)) ?_)
        | (refine K.move ?_; refine JO.q rfl rfl (Nat.le_of_ble_eq_true rfl) (Qt.move rfl) ?_)
        | (refine K.store ?_; first | refine JO.ld (Ld.storeW rfl rfl rfl (by exact rfl) (by exact rfl)) rfl (fun _ => ?_) | refine JO.ld (Ld.store1 rfl rfl (by exact rfl)) rfl (fun _ => ?_) | refine JO.ld (Ld.storeN rfl rfl rfl (by exact rfl) (by exact rfl)) rfl (fun _ => ?_))
        | (refine K.assign ?_; refine JO.q rfl rfl (Nat.le_of_ble_eq_true rfl) (Qt.assign rfl) ?_)
        | (refine K.binOp ?_; first | refine JO.q rfl rfl (Nat.le_of_ble_eq_true rfl) (Qt.cmp rfl rfl (congrArg some t1)) ?_ | refine JO.q rfl rfl (Nat.le_of_ble_eq_true rfl) (Qt.cat rfl rfl (by first | omega | (simp only [List.length_append, List.length_cons, List.length_nil]; omega))) ?_ | refine JO.q rfl rfl (Nat.le_of_ble_eq_true rfl) (Qt.cmp rfl rfl rfl) ?_ | refine JO.q rfl rfl (Nat.le_of_ble_eq_true rfl) (Qt.eqB rfl rfl) ?_ | refine JO.q rfl rfl (Nat.le_of_ble_eq_true rfl) (Qt.neB rfl rfl) ?_)
        | (refine K.unOp ?_; refine JO.q rfl rfl (Nat.le_of_ble_eq_true rfl) (Qt.not rfl) ?_)
        | (refine K.bi ?_; first | refine JO.q rfl rfl (Nat.le_of_ble_eq_true rfl) (Qt.lenM rfl) ?_ | refine JO.q rfl rfl (Nat.le_of_ble_eq_true rfl) (Qt.lenR rfl) ?_ | refine JO.q rfl rfl (Nat.le_of_ble_eq_true rfl) (Qt.lenV rfl) ?_ | refine JO.q rfl rfl (Nat.le_of_ble_eq_true rfl) (Qt.lenO rfl) ?_)
        | (refine K.extract ?_; refine JO.q rfl rfl (Nat.le_of_ble_eq_true rfl) (Qt.extract rfl rfl) ?_)
        | (refine JO.alloc rfl (Nat.le_of_ble_eq_true rfl) ?_; intro _)
        | (refine JO.box rfl (Nat.le_of_ble_eq_true rfl) rfl rfl ?_; intro _)
        | (refine K.pick ?_; refine JO.q rfl rfl (Nat.le_of_ble_eq_true rfl) (Qt.pick rfl rfl) ?_)
        | (refine K.build ?_; refine JO.q rfl rfl (Nat.le_of_ble_eq_true rfl) (Qt.build rfl (by kernel_rfl)) ?_)
        | (refine K.lit ?_; first | (refine JO.lit0 rfl (Nat.le_of_ble_eq_true rfl) ?_; intro _) | (refine JO.lit1 rfl (Nat.le_of_ble_eq_true rfl) rfl rfl rfl rfl rfl ?_; intro _))
        | (refine K.nilCheck ?_; refine JO.q rfl rfl (Nat.le_of_ble_eq_true rfl) (Qt.nilCheck rfl rfl) ?_)
        | (refine K.field ?_; refine JO.q rfl rfl (Nat.le_of_ble_eq_true rfl) (Qt.field rfl rfl (by kernel_rfl) rfl) ?_)
        | (refine K.convert ?_; refine JO.q rfl rfl (Nat.le_of_ble_eq_true rfl) (Qt.conv rfl rfl) ?_)
        | refine JO.nil ?_
        | refine J.seq ?_
        | refine J.region ?_
        | refine J.block ?_
        | refine J.inBlock ?_
        | refine J.skip ?_
        | refine J.exit rfl ?_
        | refine J.cond_t rfl ?_
        | refine J.cond_f rfl ?_
        | refine JO.no rfl rfl (Nat.le_of_ble_eq_true rfl) ?_)
    refine J.ret Tryd.func10 rfl (.cons (.tmp rfl) .nil) () (.of_eq ?_) [] .nil rfl rfl
    simp [Wd.els]; rfl
  | false =>
    repeat (first
        | (refine K.fieldAddr ?_; refine JO.q rfl rfl (Nat.le_of_ble_eq_true rfl) (Qt.fieldAddr rfl rfl) ?_)
        | (refine K.load ?_; first | refine JO.q rfl rfl (Nat.le_of_ble_eq_true rfl) (Qt.load1 rfl .el rfl) ?_ | refine JO.q rfl rfl (Nat.le_of_ble_eq_true rfl) (Qt.loadW rfl .el rfl) ?_ | refine JO.q rfl rfl (Nat.le_of_ble_eq_true rfl) (Qt.loadN rfl .el rfl rfl) ?_ | refine JO.q rfl rfl (Nat.le_of_ble_eq_true rfl) (Qt.load1b rfl (by exact rfl)) ?_ | refine JO.q rfl rfl (Nat.le_of_ble_eq_true rfl) (Qt.loadWb rfl (by exact rfl)) ?_ | refine JO.q rfl rfl (Nat.le_of_ble_eq_true rfl) (Qt.loadNb rfl (by exact rfl) (by exact rfl)) ?_)
        | (refine K.move ?_; refine JO.q rfl rfl (Nat.le_of_ble_eq_true rfl) (Qt.move rfl) ?_)
        | (refine K.store ?_; first | refine JO.ld (Ld.storeW rfl rfl rfl (by exact rfl) (by exact rfl)) rfl (fun _ => ?_) | refine JO.ld (Ld.store1 rfl rfl (by exact rfl)) rfl (fun _ => ?_) | refine JO.ld (Ld.storeN rfl rfl rfl (by exact rfl) (by exact rfl)) rfl (fun _ => ?_))
        | (refine K.assign ?_; refine JO.q rfl rfl (Nat.le_of_ble_eq_true rfl) (Qt.assign rfl) ?_)
        | (refine K.binOp ?_; first | refine JO.q rfl rfl (Nat.le_of_ble_eq_true rfl) (Qt.cmp rfl rfl (congrArg some t1)) ?_ | refine JO.q rfl rfl (Nat.le_of_ble_eq_true rfl) (Qt.cat rfl rfl (by first | omega | (simp only [List.length_append, List.length_cons, List.length_nil]; omega))) ?_ | refine JO.q rfl rfl (Nat.le_of_ble_eq_true rfl) (Qt.cmp rfl rfl rfl) ?_ | refine JO.q rfl rfl (Nat.le_of_ble_eq_true rfl) (Qt.eqB rfl rfl) ?_ | refine JO.q rfl rfl (Nat.le_of_ble_eq_true rfl) (Qt.neB rfl rfl) ?_)
        | (refine K.unOp ?_; refine JO.q rfl rfl (Nat.le_of_ble_eq_true rfl) (Qt.not rfl) ?_)
        | (refine K.bi ?_; first | refine JO.q rfl rfl (Nat.le_of_ble_eq_true rfl) (Qt.lenM rfl) ?_ | refine JO.q rfl rfl (Nat.le_of_ble_eq_true rfl) (Qt.lenR rfl) ?_ | refine JO.q rfl rfl (Nat.le_of_ble_eq_true rfl) (Qt.lenV rfl) ?_ | refine JO.q rfl rfl (Nat.le_of_ble_eq_true rfl) (Qt.lenO rfl) ?_)
        | (refine K.extract ?_; refine JO.q rfl rfl (Nat.le_of_ble_eq_true rfl) (Qt.extract rfl rfl) ?_)
        | (refine JO.alloc rfl (Nat.le_of_ble_eq_true rfl) ?_; intro _)
        | (refine JO.box rfl (Nat.le_of_ble_eq_true rfl) rfl rfl ?_; intro _)
        | (refine K.pick ?_; refine JO.q rfl rfl (Nat.le_of_ble_eq_true rfl) (Qt.pick rfl rfl) ?_)
        | (refine K.build ?_; refine JO.q rfl rfl (Nat.le_of_ble_eq_true rfl) (Qt.build rfl (by kernel_rfl)) ?_)
        | (refine K.lit ?_; first | (refine JO.lit0 rfl (Nat.le_of_ble_eq_true rfl) ?_; intro _) | (refine JO.lit1 rfl (Nat.le_of_ble_eq_true rfl) rfl rfl rfl rfl rfl ?_; intro _))
        | (refine K.nilCheck ?_; refine JO.q rfl rfl (Nat.le_of_ble_eq_true rfl) (Qt.nilCheck rfl rfl) ?_)
        | (refine K.field ?_; refine JO.q rfl rfl (Nat.le_of_ble_eq_true rfl) (Qt.field rfl rfl (by kernel_rfl) rfl) ?_)
        | (refine K.convert ?_; refine JO.q rfl rfl (Nat.le_of_ble_eq_true rfl) (Qt.conv rfl rfl) ?_)
        | refine JO.nil ?_
        | refine J.seq ?_
        | refine J.region ?_
        | refine J.block ?_
        | refine J.inBlock ?_
        | refine J.skip ?_
        | refine J.exit rfl ?_
        | refine J.cond_t rfl ?_
        | refine J.cond_f rfl ?_
        | refine JO.no rfl rfl (Nat.le_of_ble_eq_true rfl) ?_)
    refine J.ret Tryd.func10 rfl (.cons (.tmp rfl) .nil) () (.of_eq ?_) [] .nil rfl rfl
    simp; rfl
end Fl
end Go.Proofs.YtgjpdogjekmemaaDoor
