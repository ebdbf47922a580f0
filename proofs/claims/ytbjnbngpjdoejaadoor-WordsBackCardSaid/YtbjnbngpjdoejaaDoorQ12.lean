/-
  Texts WdP Bld WdU WdR WdT of this claim, put together: what they show stands at their heads.
  Conditions: none but those that each theorem states.
-/
import Derived.Test.YtbjnbngpjdoejaaDoorQ11
import Derived.Lib.Builder
import Derived.Lib.UnsafeStr
import Derived.WalkKit
namespace Go.Proofs.YtbjnbngpjdoejaaDoor
open Go.RowKit
set_option linter.unusedVariables false
set_option linter.unusedSimpArgs false
set_option linter.unnecessarySimpa false
namespace Fl
set_option maxRecDepth 100000
set_option maxHeartbeats 2000000 in
theorem c_opNameK : ∀ k : Nat, k < 10 → ∀ w, Calls Tryd.prog 24 #[.int .i64 k] w fun e w' => e = .returned (strV (Wd.kind k)) ∧ Keeps [] w w' := by
  intro k hk w
  have : k = 0 ∨ k = 1 ∨ k = 2 ∨ k = 3 ∨ k = 4 ∨ k = 5 ∨ k = 6 ∨ k = 7 ∨ k = 8 ∨ k = 9 := by omega
  rcases this with rfl | rfl | rfl | rfl | rfl | rfl | rfl | rfl | rfl | rfl
  all_goals
    go_enter Tryd.func24, Tryd.ntmps24
    go_wp2
    go_ret
    exact ⟨rfl, (Keeps.refl [] w).alloc _⟩
set_option maxHeartbeats 2000000 in
theorem c_opName (k : Int) (h0 : 0 ≤ k) (h1 : k < 10) : Pure Tryd.prog 24 [.c (nI k)] (.c (sA (Wd.kind k))) :=
  Con.plain fun ok e xs hd => by
    obtain ⟨v, ys, rfl, r, h⟩ := hd.c
    rw [h.nil_]
    unfold nI RA at r
    rw [r.1]
    obtain ⟨n, rfl⟩ : ∃ n : Nat, k = n := ⟨k.toNat, by omega⟩
    refine (c_opNameK n (by omega) e).mono ?_
    rintro en w' ⟨rfl, k⟩
    exact ⟨_, rfl, k, RD.v rfl⟩
set_option maxHeartbeats 2000000 in
theorem c_number (n : Int) (hn : isI n) : PureW Tb Tryd.prog 25 [.c (nI n)] (.c (sA (Wd.num n))) := by
  have C := c_fmt n hn
  have l := Lib.itoa_length_le n hn.1 hn.2
  refine ConW.intro Tryd.func25 rfl rfl rfl (fun ok e hT => ?_)
  have hW : ∀ w, Keeps [] e w → Tb w := fun w k => hT.grows k
  repeat (first
      | (refine K.move ?_; refine JO.q rfl rfl (Nat.le_of_ble_eq_true rfl) (Qt.move rfl) ?_)
      | (refine K.assign ?_; refine JO.q rfl rfl (Nat.le_of_ble_eq_true rfl) (Qt.assign rfl) ?_)
      | (refine K.binOp ?_; (refine JO.q rfl rfl (Nat.le_of_ble_eq_true rfl) (Qt.cat rfl rfl (by (simp only [List.length_append, List.length_cons, List.length_nil]; omega))) ?_))
      | (refine K.call ?_; (refine JO.ld (Ld.pureW hW (C) (Nat.le_of_ble_eq_true rfl) rfl ?_) rfl (fun _ => ?_); focus ((repeat (first | exact LeDs.nil | refine LeDs.cons LeD.refl ?_)); done)))
      | refine JO.nil ?_
      | refine J.seq ?_
      | refine J.region ?_)
  exact J.ret Tryd.func25 rfl (.cons (.tmp rfl) .nil) () (by (exact .refl)) [] .nil rfl rfl
set_option maxHeartbeats 2000000 in
theorem c_case (x : Pn.Cs) (h : isI x.ch ∧ isI x.v) : PureW Tb Tryd.prog 26 [.agg (eCs x)] (.c (sA (Wd.cas x))) := by
  obtain ⟨s, ch, v⟩ := x
  simp only at h
  have C2 := c_opName 2 (by omega) (by omega)
  have C3 := c_opName 3 (by omega) (by omega)
  have CC := c_number ch h.1
  have CV := c_number v h.2
  have l1 := Wd.num_len ch h.1.1 h.1.2
  have l2 := Wd.num_len v h.2.1 h.2.2
  have k2 := Wd.kind_len 2
  have k3 := Wd.kind_len 3
  refine ConW.intro Tryd.func26 rfl rfl rfl (fun ok e hT => ?_)
  have hW : ∀ w, Keeps [] e w → Tb w := fun w k => hT.grows k
  unfold Wd.cas
  cases s with
  | true =>
    repeat (first
        | (refine K.fieldAddr ?_; refine JO.q rfl rfl (Nat.le_of_ble_eq_true rfl) (Qt.fieldAddr rfl rfl) ?_)
        | (refine K.load ?_; (refine JO.q rfl rfl (Nat.le_of_ble_eq_true rfl) (Qt.load1b rfl (by exact rfl)) ?_))
        | (refine K.assign ?_; refine JO.q rfl rfl (Nat.le_of_ble_eq_true rfl) (Qt.assign rfl) ?_)
        | (refine JO.box rfl (Nat.le_of_ble_eq_true rfl) rfl rfl ?_; intro _)
        | refine JO.nil ?_
        | refine J.seq ?_
        | refine J.region ?_
        | refine J.cond_t rfl ?_)
    refine J.draw (by kernel_rfl) rfl ?_
    refine JW.base none ?_
    refine JD.take 1 rfl rfl (by kernel_rfl) rfl (Nat.le_of_ble_eq_true rfl) (Qt.fieldAddr rfl rfl) rfl ?_
    (refine JD.take 2 rfl rfl (by kernel_rfl) rfl (Nat.le_of_ble_eq_true rfl) (Qt.load1b rfl (by exact rfl)) rfl ?_)
    refine JD.take 5 rfl rfl (by kernel_rfl) rfl (Nat.le_of_ble_eq_true rfl) (Qt.fieldAddr rfl rfl) rfl ?_
    (refine JD.take 6 rfl rfl (by kernel_rfl) rfl (Nat.le_of_ble_eq_true rfl) (Qt.load1b rfl (by exact rfl)) rfl ?_)
    refine JD.each1 (i := 0) (by kernel_rfl) ?_
    refine JS.loud rfl rfl rfl (Nat.le_of_ble_eq_true rfl) (Ld.pure (C2) (Nat.le_of_ble_eq_true rfl) rfl (by repeat (first | exact LeDs.nil | refine LeDs.cons LeD.refl ?_))) (by (exact .none)) (fun _ => ?_)
    refine JD.each1 (i := 3) (by kernel_rfl) ?_
    refine JS.loud rfl rfl rfl (Nat.le_of_ble_eq_true rfl) (Ld.pureW hW (CC) (Nat.le_of_ble_eq_true rfl) rfl (by repeat (first | exact LeDs.nil | refine LeDs.cons LeD.refl ?_))) (by (exact .none)) (fun _ => ?_)
    refine JD.rebase ?_
    refine JD.take 4 rfl rfl (by kernel_rfl) rfl (Nat.le_of_ble_eq_true rfl) (Qt.cat rfl rfl (by (omega))) rfl ?_
    refine JD.each1 (i := 7) (by kernel_rfl) ?_
    refine JS.loud rfl rfl rfl (Nat.le_of_ble_eq_true rfl) (Ld.pureW hW (CV) (Nat.le_of_ble_eq_true rfl) rfl (by repeat (first | exact LeDs.nil | refine LeDs.cons LeD.refl ?_))) (by (exact .none)) (fun _ => ?_)
    refine JD.each1 (i := 8) (by kernel_rfl) ?_
    refine JS.q rfl rfl rfl (Nat.le_of_ble_eq_true rfl) (Qt.cat rfl rfl (by (simp; omega))) ?_
    refine JD.each1 (i := 9) (by kernel_rfl) ?_
    refine JS.q rfl rfl rfl (Nat.le_of_ble_eq_true rfl) (Qt.assign rfl) ?_
    refine JD.done (by kernel_rfl) ?_
    all_goals
      exact J.ret Tryd.func26 rfl (.cons (.tmp rfl) .nil) () (by (exact .refl)) [] .nil rfl rfl
  | false =>
    repeat (first
        | (refine K.fieldAddr ?_; refine JO.q rfl rfl (Nat.le_of_ble_eq_true rfl) (Qt.fieldAddr rfl rfl) ?_)
        | (refine K.load ?_; (refine JO.q rfl rfl (Nat.le_of_ble_eq_true rfl) (Qt.load1b rfl (by exact rfl)) ?_))
        | (refine K.assign ?_; refine JO.q rfl rfl (Nat.le_of_ble_eq_true rfl) (Qt.assign rfl) ?_)
        | (refine JO.box rfl (Nat.le_of_ble_eq_true rfl) rfl rfl ?_; intro _)
        | refine JO.nil ?_
        | refine J.seq ?_
        | refine J.region ?_
        | refine J.skip ?_
        | refine J.cond_f rfl ?_)
    refine J.draw (by kernel_rfl) rfl ?_
    refine JW.base none ?_
    refine JD.take 1 rfl rfl (by kernel_rfl) rfl (Nat.le_of_ble_eq_true rfl) (Qt.fieldAddr rfl rfl) rfl ?_
    (refine JD.take 2 rfl rfl (by kernel_rfl) rfl (Nat.le_of_ble_eq_true rfl) (Qt.load1b rfl (by exact rfl)) rfl ?_)
    refine JD.each1 (i := 0) (by kernel_rfl) ?_
    refine JS.loud rfl rfl rfl (Nat.le_of_ble_eq_true rfl) (Ld.pure (C3) (Nat.le_of_ble_eq_true rfl) rfl (by repeat (first | exact LeDs.nil | refine LeDs.cons LeD.refl ?_))) (by (exact .none)) (fun _ => ?_)
    refine JD.each1 (i := 3) (by kernel_rfl) ?_
    refine JS.loud rfl rfl rfl (Nat.le_of_ble_eq_true rfl) (Ld.pureW hW (CC) (Nat.le_of_ble_eq_true rfl) rfl (by repeat (first | exact LeDs.nil | refine LeDs.cons LeD.refl ?_))) (by (exact .none)) (fun _ => ?_)
    refine JD.each1 (i := 4) (by kernel_rfl) ?_
    refine JS.q rfl rfl rfl (Nat.le_of_ble_eq_true rfl) (Qt.cat rfl rfl (by (omega))) ?_
    refine JD.each1 (i := 5) (by kernel_rfl) ?_
    refine JS.q rfl rfl rfl (Nat.le_of_ble_eq_true rfl) (Qt.assign rfl) ?_
    refine JD.done (by kernel_rfl) ?_
    all_goals
      exact J.ret Tryd.func26 rfl (.cons (.tmp rfl) .nil) () (by (exact .refl)) [] .nil rfl rfl
set_option maxHeartbeats 2000000 in
theorem c_wOp (o : Pn.Op) : PureW Tb Tryd.prog 12 [.agg (eOp o)] (.c (sA (Wd.op o))) := by
  have CR := c_wRightOp o
  refine ConW.intro Tryd.func12 rfl rfl rfl (fun ok e hT => ?_)
  have hW : ∀ w, Keeps [] e w → Tb w := fun w k => hT.grows k
  unfold Wd.op
  cases hr : Pn.rightOp o with
  | false =>
    rw [hr] at CR
    repeat (first
        | (refine K.load ?_; (refine JO.q rfl rfl (Nat.le_of_ble_eq_true rfl) (Qt.loadWb rfl (by exact rfl)) ?_))
        | (refine K.assign ?_; refine JO.q rfl rfl (Nat.le_of_ble_eq_true rfl) (Qt.assign rfl) ?_)
        | (refine K.call ?_; (refine JO.pure (CR) rfl (Nat.le_of_ble_eq_true rfl) rfl ?_ ?_; focus ((repeat (first | exact LeDs.nil | refine LeDs.cons (LeD.agg (by repeat (first | exact .nil | refine .cons .refl ?_))) ?_)); done)))
        | (refine K.unOp ?_; refine JO.q rfl rfl (Nat.le_of_ble_eq_true rfl) (Qt.not rfl) ?_)
        | (refine JO.box rfl (Nat.le_of_ble_eq_true rfl) rfl rfl ?_; intro _)
        | refine JO.nil ?_
        | refine J.seq ?_
        | refine J.region ?_
        | refine J.cond_t rfl ?_)
    exact J.ret Tryd.func12 rfl (.cons (.tmp rfl) .nil) () (by (exact .refl)) [] .nil rfl rfl
  | true =>
  rw [hr] at CR
  have CI := cs_isI hr
  have R := hr
  unfold Pn.rightOp at R
  rw [decide_eq_true_iff] at R
  obtain ⟨r1, r2, r3, r4, r5, r6, r7, r8, r9, -, -, -, -, -⟩ := R
  have CN := c_number o.n (by unfold isI; omega)
  have CC := c_number o.ch (by unfold isI; omega)
  have CV := c_number o.v (by unfold isI; omega)
  have CK := c_opName o.kind (by omega) (by omega)
  have l1 := Wd.num_len o.n (by omega) (by omega)
  have l2 := Wd.num_len o.ch (by omega) (by omega)
  have l3 := Wd.num_len o.v (by omega) (by omega)
  have lk := Wd.kind_len o.kind
  have lc := Wd.cass_len o.cases CI
  clear r3 r4 r5 r6 r7 r8 hr
  obtain ⟨kd, ch, n, v, cs, els⟩ := o
  simp only at *
  unfold Wd.op1
  have hk : (kd = 2 ∨ kd = 4) ∨ (kd = 3 ∨ kd = 5 ∨ kd = 6 ∨ kd = 7 ∨ kd = 8) ∨ kd = 1 ∨ kd = 9 := by omega
  clear r1 r2
  rcases hk with hk | hk | hk | hk
  · rcases hk with rfl | rfl
    all_goals
      repeat (first
          | (refine K.fieldAddr ?_; refine JO.q rfl rfl (Nat.le_of_ble_eq_true rfl) (Qt.fieldAddr rfl rfl) ?_)
          | (refine K.load ?_; first | refine JO.q rfl rfl (Nat.le_of_ble_eq_true rfl) (Qt.load1b rfl (by exact rfl)) ?_ | refine JO.q rfl rfl (Nat.le_of_ble_eq_true rfl) (Qt.loadWb rfl (by exact rfl)) ?_)
          | (refine K.move ?_; refine JO.q rfl rfl (Nat.le_of_ble_eq_true rfl) (Qt.move rfl) ?_)
          | (refine K.assign ?_; refine JO.q rfl rfl (Nat.le_of_ble_eq_true rfl) (Qt.assign rfl) ?_)
          | (refine K.binOp ?_; first | refine JO.q rfl rfl (Nat.le_of_ble_eq_true rfl) (Qt.cat rfl rfl (by first | omega | (simp only [List.length_append, List.length_cons, List.length_nil]; omega))) ?_ | refine JO.q rfl rfl (Nat.le_of_ble_eq_true rfl) (Qt.cmp rfl rfl rfl) ?_)
          | (refine K.call ?_; first | (refine JO.pure (CR) rfl (Nat.le_of_ble_eq_true rfl) rfl ?_ ?_; focus ((repeat (first | exact LeDs.nil | refine LeDs.cons (LeD.agg (by repeat (first | exact .nil | refine .cons .refl ?_))) ?_)); done)) | (refine JO.pure (CK) rfl (Nat.le_of_ble_eq_true rfl) rfl ?_ ?_; focus ((repeat (first | exact LeDs.nil | refine LeDs.cons LeD.refl ?_)); done)) | (refine JO.ld (Ld.pureW hW (CC) (Nat.le_of_ble_eq_true rfl) rfl ?_) rfl (fun _ => ?_); focus ((repeat (first | exact LeDs.nil | refine LeDs.cons LeD.refl ?_)); done)) | (refine JO.ld (Ld.pureW hW (CV) (Nat.le_of_ble_eq_true rfl) rfl ?_) rfl (fun _ => ?_); focus ((repeat (first | exact LeDs.nil | refine LeDs.cons LeD.refl ?_)); done)))
          | (refine K.unOp ?_; refine JO.q rfl rfl (Nat.le_of_ble_eq_true rfl) (Qt.not rfl) ?_)
          | (refine JO.box rfl (Nat.le_of_ble_eq_true rfl) rfl rfl ?_; intro _)
          | refine JO.nil ?_
          | refine J.seq ?_
          | refine J.region ?_
          | refine J.block ?_
          | refine J.inBlock ?_
          | refine J.skip ?_
          | refine J.exit rfl ?_
          | refine J.cond_t rfl ?_
          | refine J.cond_f rfl ?_)
      refine J.ret Tryd.func12 rfl (.cons (.tmp rfl) .nil) () (.of_eq ?_) [] .nil rfl rfl
      rfl
  · rcases hk with rfl | rfl | rfl | rfl | rfl
    all_goals
      repeat (first
          | (refine K.fieldAddr ?_; refine JO.q rfl rfl (Nat.le_of_ble_eq_true rfl) (Qt.fieldAddr rfl rfl) ?_)
          | (refine K.load ?_; first | refine JO.q rfl rfl (Nat.le_of_ble_eq_true rfl) (Qt.load1b rfl (by exact rfl)) ?_ | refine JO.q rfl rfl (Nat.le_of_ble_eq_true rfl) (Qt.loadWb rfl (by exact rfl)) ?_)
          | (refine K.move ?_; refine JO.q rfl rfl (Nat.le_of_ble_eq_true rfl) (Qt.move rfl) ?_)
          | (refine K.assign ?_; refine JO.q rfl rfl (Nat.le_of_ble_eq_true rfl) (Qt.assign rfl) ?_)
          | (refine K.binOp ?_; first | refine JO.q rfl rfl (Nat.le_of_ble_eq_true rfl) (Qt.cat rfl rfl (by (simp only [List.length_append, List.length_cons, List.length_nil]; omega))) ?_ | refine JO.q rfl rfl (Nat.le_of_ble_eq_true rfl) (Qt.cmp rfl rfl rfl) ?_)
          | (refine K.call ?_; first | (refine JO.pure (CR) rfl (Nat.le_of_ble_eq_true rfl) rfl ?_ ?_; focus ((repeat (first | exact LeDs.nil | refine LeDs.cons (LeD.agg (by repeat (first | exact .nil | refine .cons .refl ?_))) ?_)); done)) | (refine JO.pure (CK) rfl (Nat.le_of_ble_eq_true rfl) rfl ?_ ?_; focus ((repeat (first | exact LeDs.nil | refine LeDs.cons LeD.refl ?_)); done)) | (refine JO.ld (Ld.pureW hW (CC) (Nat.le_of_ble_eq_true rfl) rfl ?_) rfl (fun _ => ?_); focus ((repeat (first | exact LeDs.nil | refine LeDs.cons LeD.refl ?_)); done)))
          | (refine K.unOp ?_; refine JO.q rfl rfl (Nat.le_of_ble_eq_true rfl) (Qt.not rfl) ?_)
          | (refine JO.box rfl (Nat.le_of_ble_eq_true rfl) rfl rfl ?_; intro _)
          | refine JO.nil ?_
          | refine J.seq ?_
          | refine J.region ?_
          | refine J.block ?_
          | refine J.skip ?_
          | refine J.exit rfl ?_
          | refine J.cond_t rfl ?_
          | refine J.cond_f rfl ?_)
      refine J.ret Tryd.func12 rfl (.cons (.tmp rfl) .nil) () (.of_eq ?_) [] .nil rfl rfl
      rfl
  · subst hk
    repeat (first
        | (refine K.fieldAddr ?_; refine JO.q rfl rfl (Nat.le_of_ble_eq_true rfl) (Qt.fieldAddr rfl rfl) ?_)
        | (refine K.load ?_; first | refine JO.q rfl rfl (Nat.le_of_ble_eq_true rfl) (Qt.load1b rfl (by exact rfl)) ?_ | refine JO.q rfl rfl (Nat.le_of_ble_eq_true rfl) (Qt.loadWb rfl (by exact rfl)) ?_)
        | (refine K.move ?_; refine JO.q rfl rfl (Nat.le_of_ble_eq_true rfl) (Qt.move rfl) ?_)
        | (refine K.assign ?_; refine JO.q rfl rfl (Nat.le_of_ble_eq_true rfl) (Qt.assign rfl) ?_)
        | (refine K.binOp ?_; first | refine JO.q rfl rfl (Nat.le_of_ble_eq_true rfl) (Qt.cat rfl rfl (by (omega))) ?_ | refine JO.q rfl rfl (Nat.le_of_ble_eq_true rfl) (Qt.cmp rfl rfl rfl) ?_)
        | (refine K.call ?_; first | (refine JO.pure (CR) rfl (Nat.le_of_ble_eq_true rfl) rfl ?_ ?_; focus ((repeat (first | exact LeDs.nil | refine LeDs.cons (LeD.agg (by repeat (first | exact .nil | refine .cons .refl ?_))) ?_)); done)) | (refine JO.pure (CK) rfl (Nat.le_of_ble_eq_true rfl) rfl ?_ ?_; focus ((repeat (first | exact LeDs.nil | refine LeDs.cons LeD.refl ?_)); done)) | (refine JO.ld (Ld.pureW hW (CN) (Nat.le_of_ble_eq_true rfl) rfl ?_) rfl (fun _ => ?_); focus ((repeat (first | exact LeDs.nil | refine LeDs.cons LeD.refl ?_)); done)))
        | (refine K.unOp ?_; refine JO.q rfl rfl (Nat.le_of_ble_eq_true rfl) (Qt.not rfl) ?_)
        | (refine JO.box rfl (Nat.le_of_ble_eq_true rfl) rfl rfl ?_; intro _)
        | refine JO.nil ?_
        | refine J.seq ?_
        | refine J.region ?_
        | refine J.block ?_
        | refine J.skip ?_
        | refine J.exit rfl ?_
        | refine J.cond_t rfl ?_
        | refine J.cond_f rfl ?_)
    refine J.ret Tryd.func12 rfl (.cons (.tmp rfl) .nil) () (.of_eq ?_) [] .nil rfl rfl
    rfl
  subst hk
  repeat (first
      | (refine K.fieldAddr ?_; refine JO.q rfl rfl (Nat.le_of_ble_eq_true rfl) (Qt.fieldAddr rfl rfl) ?_)
      | (refine K.load ?_; first | refine JO.q rfl rfl (Nat.le_of_ble_eq_true rfl) (Qt.load1b rfl (by exact rfl)) ?_ | refine JO.q rfl rfl (Nat.le_of_ble_eq_true rfl) (Qt.loadWb rfl (by exact rfl)) ?_)
      | (refine K.move ?_; refine JO.q rfl rfl (Nat.le_of_ble_eq_true rfl) (Qt.move rfl) ?_)
      | (refine K.assign ?_; refine JO.q rfl rfl (Nat.le_of_ble_eq_true rfl) (Qt.assign rfl) ?_)
      | (refine K.binOp ?_; (refine JO.q rfl rfl (Nat.le_of_ble_eq_true rfl) (Qt.cmp rfl rfl rfl) ?_))
      | (refine K.call ?_; first | (refine JO.pure (CR) rfl (Nat.le_of_ble_eq_true rfl) rfl ?_ ?_; focus ((repeat (first | exact LeDs.nil | refine LeDs.cons (LeD.agg (by repeat (first | exact .nil | refine .cons .refl ?_))) ?_)); done)) | (refine JO.pure (CK) rfl (Nat.le_of_ble_eq_true rfl) rfl ?_ ?_; focus ((repeat (first | exact LeDs.nil | refine LeDs.cons LeD.refl ?_)); done)))
      | (refine K.unOp ?_; refine JO.q rfl rfl (Nat.le_of_ble_eq_true rfl) (Qt.not rfl) ?_)
      | (refine K.bi ?_; (refine JO.q rfl rfl (Nat.le_of_ble_eq_true rfl) (Qt.lenM rfl) ?_))
      | (refine JO.box rfl (Nat.le_of_ble_eq_true rfl) rfl rfl ?_; intro _)
      | refine JO.nil ?_
      | refine J.seq ?_
      | refine J.region ?_
      | refine J.block ?_
      | refine J.skip ?_
      | refine J.exit rfl ?_
      | refine J.cond_t rfl ?_
      | refine J.cond_f rfl ?_)
  rename_i b1
  refine J.loop (ι := { q : Nat // q ≤ cs.length }) (fun q => [(46, .c (nI q.1)), (45, .c (nI cs.length)), (44, .c (.r 3 (cs.map eCs))), (3, .c (sA (Wd.kind 9 ++ Wd.cass (cs.take q.1)))), (1, .c (.v (.pointer (some ⟨b1, 0, none⟩))))]) (fun _ => [.box b1 36 (eOp ⟨9, ch, n, v, cs, els⟩)]) (fun q => cs.length - q.1) ⟨0, Nat.zero_le _⟩ (fun X h => h.weak ⟨rfl, rfl, rfl, rfl, rfl, trivial⟩) (fun q ih => ?_)
  obtain ⟨k, hk'⟩ := q
  simp only at hk' ih ⊢
  by_cases hk : k < cs.length
  · have t1 : decide ((k : Int) < (cs.length : Int)) = true := decide_eq_true (by omega)
    obtain ⟨x, hx⟩ : ∃ m, cs[k]? = some m := ⟨_, List.getElem?_eq_getElem hk⟩
    have AX := wd_at (enc := eCs) hx
    have hm := List.mem_of_getElem? hx
    have CX := c_case x (CI x hm)
    have lx := Wd.cas_len x (CI x hm)
    have lt := Wd.cass_len (cs.take k) fun c hc => CI c (List.mem_of_mem_take hc)
    rw [List.length_take] at lt
    have e1 : Wd.kind 9 ++ Wd.cass (cs.take (k + 1)) = (Wd.kind 9 ++ Wd.cass (cs.take k)) ++ ([32, 124, 32] ++ Wd.cas x) := by
      rw [List.take_add_one, hx]
      simp [Wd.cass, Wd.bar]
    have next := ih ⟨k + 1, by omega⟩ (by simp only; omega)
    rw [e1] at next
    clear ih e1 CR CK CN CC CV
    generalize Wd.cass (cs.take k) = W at *
    have l0 : (Wd.kind 9).length + W.length ≤ 1000 := by omega
    repeat (first
        | (refine K.load ?_; first | refine JO.q rfl rfl (Nat.le_of_ble_eq_true rfl) (Qt.loadW rfl .el rfl) ?_ | refine JO.q rfl rfl (Nat.le_of_ble_eq_true rfl) (Qt.loadWb rfl (by exact rfl)) ?_)
        | (refine K.move ?_; refine JO.q rfl rfl (Nat.le_of_ble_eq_true rfl) (Qt.move rfl) ?_)
        | (refine K.store ?_; (refine JO.ld (Ld.storeW rfl rfl rfl (by exact rfl) (by exact rfl)) rfl (fun _ => ?_)))
        | (refine K.assign ?_; refine JO.q rfl rfl (Nat.le_of_ble_eq_true rfl) (Qt.assign rfl) ?_)
        | (refine K.indexAddr ?_; refine JO.q rfl rfl (Nat.le_of_ble_eq_true rfl) (Qt.indexR rfl rfl (by omega) (AX)) ?_)
        | (refine K.binOp ?_; first | refine JO.q rfl rfl (Nat.le_of_ble_eq_true rfl) (Qt.cmp rfl rfl (congrArg some t1)) ?_ | refine JO.q rfl rfl (Nat.le_of_ble_eq_true rfl) (Qt.cat rfl rfl (by (simp only [List.length_append, List.length_cons, List.length_nil]; omega))) ?_ | refine JO.q rfl rfl (Nat.le_of_ble_eq_true rfl) (Qt.ari rfl rfl rfl (w64 (by omega) (by omega))) ?_)
        | (refine K.call ?_; (refine JO.ld (Ld.pureW hW (CX) (Nat.le_of_ble_eq_true rfl) rfl ?_) rfl (fun _ => ?_); focus ((repeat (first | exact LeDs.nil | refine LeDs.cons (LeD.agg (by repeat (first | exact .nil | refine .cons .refl ?_))) ?_)); done)))
        | (refine JO.alloc rfl (Nat.le_of_ble_eq_true rfl) ?_; intro _)
        | refine JO.nil ?_
        | refine J.seq ?_
        | refine J.region ?_
        | refine J.block ?_
        | refine J.inBlock ?_
        | refine J.skip ?_
        | refine J.cond_t rfl ?_)
    refine J.drop 0 ?_
    exact next.weak ⟨rfl, rfl, rfl, rfl, rfl, trivial⟩
  obtain rfl : k = cs.length := by omega
  have t1 : decide ((cs.length : Int) < (cs.length : Int)) = false := decide_eq_false (by omega)
  rw [List.take_length]
  clear ih CR CK CN CC CV
  have l0 : (Wd.kind 9).length + (Wd.cass cs).length ≤ 1000 := by omega
  cases els with
  | true =>
    repeat (first
        | (refine K.fieldAddr ?_; refine JO.q rfl rfl (Nat.le_of_ble_eq_true rfl) (Qt.fieldAddr rfl rfl) ?_)
        | (refine K.load ?_; (refine JO.q rfl rfl (Nat.le_of_ble_eq_true rfl) (Qt.load1b rfl (by exact rfl)) ?_))
        | (refine K.move ?_; refine JO.q rfl rfl (Nat.le_of_ble_eq_true rfl) (Qt.move rfl) ?_)
        | (refine K.assign ?_; refine JO.q rfl rfl (Nat.le_of_ble_eq_true rfl) (Qt.assign rfl) ?_)
        | (refine K.binOp ?_; first | refine JO.q rfl rfl (Nat.le_of_ble_eq_true rfl) (Qt.cmp rfl rfl (congrArg some t1)) ?_ | refine JO.q rfl rfl (Nat.le_of_ble_eq_true rfl) (Qt.cat rfl rfl (by (simp only [List.length_append, List.length_cons, List.length_nil]; omega))) ?_)
        | refine JO.nil ?_
        | refine J.seq ?_
        | refine J.region ?_
        | refine J.exit rfl ?_
        | refine J.cond_t rfl ?_
        | refine J.cond_f rfl ?_)
    refine J.ret Tryd.func12 rfl (.cons (.tmp rfl) .nil) () (.of_eq ?_) [] .nil rfl rfl
    simp [Wd.els]; rfl
  | false =>
    repeat (first
        | (refine K.fieldAddr ?_; refine JO.q rfl rfl (Nat.le_of_ble_eq_true rfl) (Qt.fieldAddr rfl rfl) ?_)
        | (refine K.load ?_; (refine JO.q rfl rfl (Nat.le_of_ble_eq_true rfl) (Qt.load1b rfl (by exact rfl)) ?_))
        | (refine K.move ?_; refine JO.q rfl rfl (Nat.le_of_ble_eq_true rfl) (Qt.move rfl) ?_)
        | (refine K.assign ?_; refine JO.q rfl rfl (Nat.le_of_ble_eq_true rfl) (Qt.assign rfl) ?_)
        | (refine K.binOp ?_; (refine JO.q rfl rfl (Nat.le_of_ble_eq_true rfl) (Qt.cmp rfl rfl (congrArg some t1)) ?_))
        | refine JO.nil ?_
        | refine J.seq ?_
        | refine J.region ?_
        | refine J.skip ?_
        | refine J.exit rfl ?_
        | refine J.cond_f rfl ?_)
    refine J.ret Tryd.func12 rfl (.cons (.tmp rfl) .nil) () (.of_eq ?_) [] .nil rfl rfl
    simp; rfl
end Fl
end Go.Proofs.YtbjnbngpjdoejaaDoor
namespace Go.Proofs.YtbjnbngpjdoejaaDoor
open Go.RowKit
set_option linter.unusedVariables false
set_option linter.unusedSimpArgs false
set_option linter.unnecessarySimpa false
namespace Fl
set_option maxRecDepth 100000
section
variable {P : Program}
theorem ap_own (w : World) (t u ty e : TypeId) (i : TypeInfo) (ht : P.underlying t = some (.slice e)) (hu : P.underlying u = some .string) (hi : P.info? e = some i) (hz : i.zero = some (.int .u8 0)) (hsize : i.size = 1) (hby : i.bytes = 1)
    (v : Value) (n : Nat) (xs : List Value) (hown : w.ownsRow 0 e 1 v n xs) (s : ByteArray) (h63 : n + s.size ≤ maxLen) (hbytes : n + s.size ≤ 140737488355328) :
    ∃ v' w', (Builtin.append_ #[t, u] ty #[v, .string s]).run P w = .ok v' w' ∧ w'.ownsRow 0 e 1 v' (n + s.size) (xs ++ Lib.strCells s) ∧ w.grownBy w' v.ownBlock ∧ ∀ g, v'.ownBlock = some g → v.ownBlock = some g ∨ w.heap.size ≤ g := by
  obtain ⟨v', w', hr, h2, h3, -⟩ := Lib.run_append_own_string (P := P) w 0 t u ty e i ht hu hi hz hsize hby v n xs hown s h63 hbytes (Nat.zero_le _)
  refine ⟨v', w', hr, h2, h3, fun g hg => ?_⟩
  have hxl : xs.length = n := by simpa using hown.1
  rcases hown.2 with ⟨rfl, rfl⟩ | ⟨g0, cap, cur, rfl, _, hg0, hnc, hcm, hcs, htake⟩
  · have hx : xs = [] := List.eq_nil_of_length_eq_zero hxl
    subst hx
    obtain ⟨v2, w2, hr2, o2, -, -⟩ := Lib.run_append_own_string (P := P) w w.heap.size t u ty e i ht hu hi hz hsize hby _ 0 [] (World.ownsRow_nil w w.heap.size e 1) s h63 hbytes (Nat.le_refl _)
    rw [hr] at hr2
    simp only [Result.ok.injEq] at hr2
    obtain ⟨rfl, rfl⟩ := hr2
    rcases o2.2 with ⟨rfl, _⟩ | ⟨g1, _, _, rfl, hb, _⟩
    · simp [Value.ownBlock] at hg
    · simp [Value.ownBlock] at hg
      subst hg
      exact .inr hb
  · by_cases hroom : n + s.size ≤ cap
    · have hcs' : cur.size = cap := by simpa using hcs
      have hr2 := Lib.run_append_room_string (P := P) w t u ty e i ht hu hi hsize g0 n cap cur hg0 s hroom (by omega)
      rw [hr] at hr2
      simp only [Result.ok.injEq] at hr2
      obtain ⟨rfl, rfl⟩ := hr2
      simp [Value.ownBlock] at hg ⊢
      exact .inl hg
    · have holds : ∀ j u, xs[j]? = some u → w.cell? ((⟨g0, 0, none⟩ : Addr).add j) = some u := hown.cells (g := g0) rfl
      have hsmall : n + s.size ≤ 9223372036854775807 := by simp only [maxLen] at h63; omega
      have hr2 := Lib.run_append_grow_string (P := P) w t u ty e i (.int .u8 0) ht hu hi hz ⟨g0, 0, none⟩ n cap xs (by rw [hsize]; simpa using hxl) holds s (by omega) (by omega) (by rw [hby]; exact growslice_fits (by omega) (by omega))
      rw [hr] at hr2
      simp only [Result.ok.injEq] at hr2
      obtain ⟨rfl, rfl⟩ := hr2
      simp [Value.ownBlock] at hg
      exact .inr (by omega)
theorem wp_ap (w : World) {ops : Array Oper} {rest : List Oper} {o : Oper} {a : Act} {Q : Exit → Act → World → Prop} (hgd : o.guard = none) (sl x : Operand) (t u : TypeId) (ho : o.op = .call { callee := .builtin .append, args := #[sl, x], argTypes := #[t, u] })
    (e : TypeId) (i : TypeInfo) (ht : P.underlying t = some (.slice e)) (hu : P.underlying u = some .string) (hi : P.info? e = some i) (hz : i.zero = some (.int .u8 0)) (hsize : i.size = 1) (hby : i.bytes = 1)
    (v : Value) (n : Nat) (xs : List Value) (hs : a.eval sl = v) (hown : w.ownsRow 0 e 1 v n xs) (s : ByteArray) (hx : a.eval x = .string s) (h63 : n + s.size ≤ maxLen) (hbytes : n + s.size ≤ 140737488355328)
    (h : ∀ v' w', w'.ownsRow 0 e 1 v' (n + s.size) (xs ++ Lib.strCells s) → w.grownBy w' v.ownBlock → (∀ g, v'.ownBlock = some g → v.ownBlock = some g ∨ w.heap.size ≤ g) → wpList P ops Q rest (a.put o.dst v') w') : wpList P ops Q (o :: rest) a w := by
  refine wpList_plain hgd fun K hK => ?_
  obtain ⟨v', w', hr, h2, h3, h4⟩ := ap_own (P := P) w t u o.type e i ht hu hi hz hsize hby v n xs hown s h63 hbytes
  unfold Oper.wp execOp
  simp only [ho, resolve, invoke, builtin, Sem.run_bind, Sem.run_pure, Result.andThen_ok, List.map_toArray, List.map_cons, List.map_nil, hs, hx, hr]
  exact hK _ _ (h v' w' h2 h3 h4)
end
def Bu (b : Nat) (l : List UInt8) (w : World) (S : List Nat) : Prop :=
  ∃ p v, (p = .pointer none ∨ p = .pointer (some ⟨b, 0, none⟩)) ∧ w.heap[b]? = some (.cells #[p, v] 53 (0, 0)) ∧ w.ownsRow 0 5 1 v l.length (Lib.byteCells l) ∧ v.ownBlock ≠ some b ∧ S = b :: v.ownBlock.toList
theorem bi_info : ∃ j, Tryd.prog.info? 53 = some j ∧ j.size = 2 := by
  have : (Tryd.prog.info? 53).map (·.size) = some 2 := by kernel_rfl
  exact Option.map_eq_some_iff.1 this
theorem bd_used (b : Nat) (w : World) (h0 : w.cell? ⟨b, 0, none⟩ = some (.pointer (some ⟨b, 0, none⟩))) :
    Calls Tryd.prog 38 #[.pointer (some ⟨b, 0, none⟩)] w fun e w' => e = .returned (.tuple #[]) ∧ w' = w := by
  obtain ⟨j, hj, _⟩ := bi_info
  go_enter Tryd.func38, Tryd.ntmps38
  go_wp2
  rw [Lib.run_neq_ptr_same w _ Tryd.underlying50 hj]
  go_wp2
  go_end0
  exact ⟨rfl, rfl⟩
theorem bd_fresh (b : Nat) (w : World) (h0 : w.cell? ⟨b, 0, none⟩ = some (.pointer none)) (hsh : w.shape? b = some (53, 2)) (hfz : w.frozen? ⟨b, 0, none⟩ = false) :
    Calls Tryd.prog 38 #[.pointer (some ⟨b, 0, none⟩)] w fun e w' => e = .returned (.tuple #[]) ∧ w' = w.setCell ⟨b, 0, none⟩ (.pointer (some ⟨b, 0, none⟩)) := by
  obtain ⟨j, hj, hjs⟩ := bi_info
  go_enter Tryd.func38, Tryd.ntmps38
  go_wp2
  rw [Lib.run_to_unsafe w ⟨b, 0, none⟩ Tryd.underlying50 Tryd.underlying86 hj (by rw [hjs]; decide) hsh (Nat.zero_lt_succ 1)]
  simp only [Result.andThen]
  rw [Oper.upon_value]
  go_wp2
  rw [run_callFunc_extern Tryd.func50 (by kernel_rfl) (by kernel_rfl) (by kernel_rfl) (e := Extern.AbiNoEscape.same) (by kernel_rfl)]
  rw [Lib.run_noEscape]
  simp only [Result.andThen]
  rw [Oper.upon_value]
  go_wp2
  rw [Lib.run_from_unsafe w ⟨b, 0, none⟩ Tryd.underlying86 Tryd.underlying50 hj hsh (by kernel_rfl)]
  simp only [Result.andThen]
  rw [Oper.upon_value]
  go_wp2
  go_end0
  exact ⟨rfl, rfl⟩
theorem bd_check (b : Nat) (p v : Value) (w : World) (hp : p = .pointer none ∨ p = .pointer (some ⟨b, 0, none⟩)) (hb : w.heap[b]? = some (.cells #[p, v] 53 (0, 0))) :
    Calls Tryd.prog 38 #[.pointer (some ⟨b, 0, none⟩)] w fun e w' => e = .returned (.tuple #[]) ∧ Keeps [b] w w' ∧ w'.heap[b]? = some (.cells #[.pointer (some ⟨b, 0, none⟩), v] 53 (0, 0)) := by
  have hlt : b < w.heap.size := by
    rcases Nat.lt_or_ge b w.heap.size with h' | h'
    · exact h'
    · rw [Array.getElem?_eq_none h'] at hb; cases hb
  rcases hp with rfl | rfl
  · refine (bd_fresh b w (by rw [Lib.cell_of_heap hb]; rfl) (by simp [World.shape?, hb]) (by simp [World.frozen?, hb])).mono ?_
    rintro e w' ⟨rfl, rfl⟩
    refine ⟨rfl, ⟨rfl, rfl, rfl, by simp [World.setCell], fun k _ hk => Below.heap_setCell _ _ _ _ (fun e => hk (by simp [e]))⟩, ?_⟩
    simp [World.setCell, Array.getElem?_modify, hb]
  · refine (bd_used b w (by rw [Lib.cell_of_heap hb]; rfl)).mono ?_
    rintro e w' ⟨rfl, rfl⟩
    exact ⟨rfl, Keeps.refl _ _, hb⟩
theorem by_info : ∃ i, Tryd.prog.info? 5 = some i ∧ i.zero = some (.int .u8 0) ∧ i.size = 1 ∧ i.bytes = 1 := by
  have : (Tryd.prog.info? 5).map (fun i => (i.zero, i.size, i.bytes)) = some (some (.int .u8 0), 1, 1) := by kernel_rfl
  obtain ⟨i, h1, h2⟩ := Option.map_eq_some_iff.1 this
  simp only [Prod.mk.injEq] at h2
  exact ⟨i, h1, h2.1, h2.2.1, h2.2.2⟩
theorem bd_write (b : Nat) (l s : List UInt8) (w : World) (S : List Nat) (h : Bu b l w S) (hlen : l.length + s.length ≤ 140737488355328) :
    Calls Tryd.prog 21 #[.pointer (some ⟨b, 0, none⟩), strV s] w fun e w' => e = .returned (.tuple #[.int .i64 s.length, .nilIface]) ∧ ∃ S', Bu b (l ++ s) w' S' ∧ Keeps S w w' ∧ ∀ y ∈ S', y ∈ S ∨ w.heap.size ≤ y := by
  obtain ⟨p, v, hp, hb, hown, hne, rfl⟩ := h
  obtain ⟨i0, hi, hz0, hz1, hz2⟩ := by_info
  have hlt : b < w.heap.size := by
    rcases Nat.lt_or_ge b w.heap.size with h' | h'
    · exact h'
    · rw [Array.getElem?_eq_none h'] at hb; cases hb
  have C := bd_check b p v w hp hb
  unfold strV
  go_enter Tryd.func21, Tryd.ntmps21
  go_wp2_with (go_at_call 38; refine C.mono ?_)
  rintro e w1 ⟨rfl, k1, hbk⟩
  have g1 : w.grownBy w1 (some b) := ⟨k1.os, k1.tape, k1.output, k1.size, fun k hk hn => k1.block k hk (by simpa using hn)⟩
  have hown1 : w1.ownsRow 0 5 1 v l.length (Lib.byteCells l) := hown.kept g1 (Or.inr hne)
  have c0 : w1.cell? ⟨b, 0, none⟩ = some (.pointer (some ⟨b, 0, none⟩)) := by rw [Lib.cell_of_heap hbk]; rfl
  have c1 : w1.cell? ⟨b, 1, none⟩ = some v := by rw [Lib.cell_of_heap hbk]; rfl
  go_wp2_with (at_builtin; refine wp_ap _ rfl _ _ 51 9 rfl 5 i0 Tryd.underlying51 Tryd.underlying9 hi hz0 hz1 hz2 _ _ _ rfl hown1 ⟨s.toArray⟩ rfl ?c3 ?c4 ?_)
  case c3 => unfold maxLen; simp [ByteArray.size]; omega
  case c4 => simp [ByteArray.size]; omega
  intro v' w2 hown' hgrow hwh
  have hlt1 : b < w1.heap.size := by have := k1.size; omega
  have hb2 : w2.heap[b]? = some (.cells #[.pointer (some ⟨b, 0, none⟩), v] 53 (0, 0)) := by
    rw [hgrow.block b hlt1 (fun e => hne e.symm)]
    exact hbk
  have d0 : w2.cell? ⟨b, 0, none⟩ = some (.pointer (some ⟨b, 0, none⟩)) := by rw [Lib.cell_of_heap hb2]; rfl
  have d1 : w2.cell? ⟨b, 1, none⟩ = some v := by rw [Lib.cell_of_heap hb2]; rfl
  have f1 : w2.frozen? ⟨b, 1, none⟩ = false := Lib.frozen_of_heap hb2 1
  obtain ⟨ao, n', cap, rfl⟩ : ∃ ao n' cap, v' = .slice ao n' cap := by
    rcases hown'.2 with ⟨hv, _⟩ | ⟨g, cap, cur, hv, _⟩
    · exact ⟨_, _, _, hv⟩
    · exact ⟨_, _, _, hv⟩
  go_wp2
  go_ret2
  have e1 : (⟨s.toArray⟩ : ByteArray).size = s.length := by simp [ByteArray.size]
  have hTe : (53 : Nat) ≠ 5 := by decide
  have e2 : Lib.byteCells l ++ Lib.strCells ⟨s.toArray⟩ = Lib.byteCells (l ++ s) := by rw [Lib.strCells_eq, ← Lib.byteCells_append]
  rw [e2] at hown'
  obtain ⟨-, v3, hb3, ho3, hn3⟩ := Lib.BuilderAt.put (T := 53) (e := 5) (Nat.zero_le b) hb2 (bs' := Lib.byteCells (l ++ s)) (by rw [Lib.byteCells_length, List.length_append]; exact hown') hTe
  rw [Lib.byteCells_length] at ho3
  have hv3 : v3 = .slice ao n' cap := by
    have h1 : (w2.setCell ⟨b, 1, none⟩ (.slice ao n' cap)).heap[b]? = some (.cells #[.pointer (some ⟨b, 0, none⟩), .slice ao n' cap] 53 (0, 0)) := by
      simp [World.setCell, Array.getElem?_modify, hb2]
    rw [hb3] at h1
    simpa using h1
  have K2 : Keeps (b :: v.ownBlock.toList) w w2 := ⟨hgrow.os.trans k1.os, hgrow.tape.trans k1.tape, hgrow.output.trans k1.output, Nat.le_trans k1.size hgrow.size, fun k hk hn =>
    (hgrow.block k (by have := k1.size; omega) (fun e => hn (by rw [← e]; simp))).trans (k1.block k hk (fun h => hn (by simp at h; simp [h])))⟩
  have K3 : Keeps [b] w2 (w2.setCell ⟨b, 1, none⟩ (.slice ao n' cap)) := ⟨rfl, rfl, rfl, by simp [World.setCell], fun k _ hk => Below.heap_setCell _ _ _ _ (fun e => hk (by simp [e]))⟩
  subst hv3
  refine ⟨by rfl, _, ⟨_, _, .inr rfl, hb3, ho3, hn3, rfl⟩, K2.trans K3 (by simp), fun y hy => ?_⟩
  rcases List.mem_cons.1 hy with rfl | hy
  · exact .inl (List.mem_cons_self ..)
  · rcases hwh y (by simpa using hy) with h | h
    · exact .inl (List.mem_cons_of_mem _ (by rw [h]; simp))
    · exact .inr (Nat.le_trans k1.size h)
set_option maxHeartbeats 2000000 in
theorem bd_string (b : Nat) (l : List UInt8) (w : World) (S : List Nat) (h : Bu b l w S) (h0 : l ≠ []) :
    Calls Tryd.prog 22 #[.pointer (some ⟨b, 0, none⟩)] w fun e w' => e = .returned (strV l) ∧ Keeps S w w' := by
  obtain ⟨p, v, hp, hb, hown, hne, rfl⟩ := h
  have hl0 : l.length ≠ 0 := by simpa using h0
  obtain ⟨g, cap, cur, rfl, hbg, hg, hnc, hcm, hcs, htake⟩ : ∃ g cap cur, v = .slice (some ⟨g, 0, none⟩) l.length cap ∧ 0 ≤ g ∧ w.heap[g]? = some (.cells cur 5 (0, 0)) ∧ l.length ≤ cap ∧ cap ≤ maxLen ∧ cur.size = cap * 1 ∧ cur.toList.take (l.length * 1) = Lib.byteCells l := by
    rcases hown.2 with ⟨_, hz⟩ | ⟨g, cap, cur, hv, r⟩
    · exact absurd hz hl0
    · exact ⟨g, cap, cur, hv, r⟩
  have c1 : w.drew.cell? ⟨b, 1, none⟩ = some (.slice (some ⟨g, 0, none⟩) l.length cap) := by
    have : w.drew.heap[b]? = some (.cells #[p, .slice (some ⟨g, 0, none⟩) l.length cap] 53 (0, 0)) := hb
    rw [Lib.cell_of_heap this]; rfl
  have hSD : (Builtin.unsafeSliceData_ #[51] 76 #[.slice (some ⟨g, 0, none⟩) l.length cap]).run Tryd.prog w.drew = .ok (.pointer (some ⟨g, 0, none⟩)) w.drew :=
    Lib.run_unsafeSliceData_row _ _ _ _ _ _ (by omega)
  have hUS : (Builtin.unsafeString_ #[76, 3] 9 #[.pointer (some ⟨g, 0, none⟩), .int .i64 l.length]).run Tryd.prog w.drew = .ok (.string ⟨l.toArray⟩) (w.drew.freeze ⟨g, 0, none⟩ l.length) := by
    refine Lib.run_unsafeString_row w.drew 76 3 9 5 Tryd.underlying76 (by kernel_rfl) g cur.size (by have hg' : w.drew.heap[g]? = some (.cells cur 5 (0, 0)) := hg; simp [World.shape?, hg']) l h0 (by omega) (by unfold maxLen at hcm; omega) ?_
    intro j x hx
    exact hown.cells (g := g) rfl j (.int .u8 x.toNat) (by simp [Lib.byteCells, hx])
  have KF : Keeps (b :: (Value.slice (some ⟨g, 0, none⟩) l.length cap).ownBlock.toList) w (w.drew.freeze ⟨g, 0, none⟩ l.length) := by
    unfold World.freeze
    split
    · exact (Keeps.refl _ w).drew
    · refine ⟨rfl, rfl, rfl, by simp, fun k hk hn => ?_⟩
      simp only [Array.getElem?_modify]
      rw [if_neg (fun e => hn (by simp [Value.ownBlock, e]))]
      rfl
  have mixed : Tryd.prog.follows .mixedOrders = true := by kernel_rfl
  clear hown hg htake hp hne hbg hnc hcm hcs h0 hl0
  go_enter Tryd.func22, Tryd.ntmps22
  go_wp2
  go_region_o
  all_goals (go_wp2; go_ret; exact ⟨rfl, KF⟩)
/-! ### in Fl's words -/
theorem Bu.ok {b : Nat} {l : List UInt8} : Thing (Bu b l) where
  lt := fun {w S} h => by
    obtain ⟨p, v, hp, hb, hown, hne, rfl⟩ := h
    intro x hx
    have hl : ∀ (k : Nat) (o : Obj), w.heap[k]? = some o → k < w.heap.size := fun k o h => (Array.getElem?_eq_some_iff.1 h).1
    rcases List.mem_cons.1 hx with rfl | hx
    · exact hl _ _ hb
    · rcases hown.2 with ⟨rfl, _⟩ | ⟨g, cap, cur, rfl, _, hg, _⟩
      · simp [Value.ownBlock] at hx
      · simp [Value.ownBlock] at hx
        subst hx
        exact hl _ _ hg
  keep := fun {w w' S T} h k hn => by
    obtain ⟨p, v, hp, hb, hown, hne, rfl⟩ := h
    have hl : ∀ (k : Nat) (o : Obj), w.heap[k]? = some o → k < w.heap.size := fun k o h => (Array.getElem?_eq_some_iff.1 h).1
    refine ⟨p, v, hp, by rw [k.block b (hl _ _ hb) (hn b (List.mem_cons_self ..))]; exact hb, ⟨hown.1, ?_⟩, hne, rfl⟩
    rcases hown.2 with h | ⟨g, cap, cur, rfl, h1, hg, h2⟩
    · exact .inl h
    · exact .inr ⟨g, cap, cur, rfl, h1, by rw [k.block g (hl _ _ hg) (hn g (by simp [Value.ownBlock]))]; exact hg, h2⟩
theorem J.toBu {P : Program} {c : Cx} {k : List Item} {f : Fm} {L : List Res} {b : Nat} (h : J P c k f (thing (Bu b []) [b] :: L)) : J P c k f (.box b 53 [.v (.pointer none), .v (.slice none 0 0)] :: L) := ⟨fun a w s => h.go a w ⟨s.kp, s.size, s.dfr, fun r hr => by
    rcases List.mem_cons.1 hr with rfl | hr
    · obtain ⟨vs, h1, h2⟩ := s.res _ (List.mem_cons_self ..)
      obtain ⟨y1, rfl, r1⟩ := RC.c1 (as_ := [.v (.slice none 0 0)]) h2
      obtain ⟨y2, rfl, r2⟩ := r1.c1
      have e3 := r2.n0
      subst e3
      exact (thing.holds Bu.ok).2 ⟨_, _, .inl rfl, h1, World.ownsRow_nil w 0 _ 1, by simp [Value.ownBlock], by simp [Value.ownBlock]⟩
    · exact s.res r (List.mem_cons_of_mem _ hr), s.frm, List.pairwise_cons.2 ⟨(List.pairwise_cons.1 s.ap).1, (List.pairwise_cons.1 s.ap).2⟩, s.fr⟩⟩
set_option maxHeartbeats 2000000 in
theorem c_bWrite (b : Nat) (l s : List UInt8) (S : List Nat) (hlen : l.length + s.length ≤ 140737488355328) :
    Con Tryd.prog 21 [.c (.v (.pointer (some ⟨b, 0, none⟩))), .c (sA s)] [thing (Bu b l) S] (fun S' : List Nat => (.tup [.c (nI s.length), .c (.v .nilIface)], [thing (Bu b (l ++ s)) S'])) := ⟨fun ok e xs hd hr _ _ => by
  obtain ⟨v, ys, rfl, r, h⟩ := hd.c
  obtain ⟨v2, ys2, rfl, r2, h2⟩ := h.c
  rw [h2.nil_]
  unfold RA at r r2
  rw [r.1, r2.1]
  have h1 := (thing.holds Bu.ok).1 (hr _ (List.mem_singleton.2 rfl))
  refine Calls.mono (bd_write b l s e S h1 hlen) ?_
  rintro en w' ⟨rfl, S', hb, kp, hs⟩
  refine ⟨S', _, rfl, by rw [foots_thing]; exact kp, by rw [foots_thing, foots_thing]; exact hs, List.pairwise_singleton _ _, fun r hr => ?_, ?_⟩
  · rw [List.mem_singleton.1 hr]; exact (thing.holds Bu.ok).2 hb
  · unfold RD
    exact ⟨[_, _], rfl, RDs.cons (RD.v rfl) (RDs.cons (RD.v rfl) RDs.nil)⟩⟩
set_option maxHeartbeats 2000000 in
theorem c_bString (b : Nat) (l : List UInt8) (S : List Nat) (h0 : l ≠ []) :
    Con Tryd.prog 22 [.c (.v (.pointer (some ⟨b, 0, none⟩)))] [thing (Bu b l) S] (fun _ : Unit => (.c (sA l), [])) := ⟨fun ok e xs hd hr _ _ => by
  obtain ⟨v, ys, rfl, r, h⟩ := hd.c
  rw [h.nil_]
  unfold RA at r
  rw [r.1]
  have h1 := (thing.holds Bu.ok).1 (hr _ (List.mem_singleton.2 rfl))
  refine Calls.mono (bd_string b l e S h1 h0) ?_
  rintro en w' ⟨rfl, kp⟩
  exact ⟨(), _, rfl, by rw [foots_thing]; exact kp, by simp [foots], List.Pairwise.nil, by simp, RD.v rfl⟩⟩
end Fl
end Go.Proofs.YtbjnbngpjdoejaaDoor
namespace Go.Proofs.YtbjnbngpjdoejaaDoor
open Go.RowKit
set_option linter.unusedVariables false
set_option linter.unusedSimpArgs false
set_option linter.unnecessarySimpa false
namespace Fl
set_option maxRecDepth 100000
set_option maxHeartbeats 2000000 in
theorem c_wText (p : List (List Pn.Op)) : PureW Tb Tryd.prog 11 [.c (opsA p)] (.c (sA (Wd.text p))) := by
  have CR := c_wRight p
  refine ConW.intro Tryd.func11 rfl rfl rfl (fun ok e hT => ?_)
  have hW : ∀ w, Keeps [] e w → Tb w := fun w k => hT.grows k
  rw [Wd.txt_eq]
  cases hr : Pn.right p with
  | false =>
    rw [hr] at CR
    repeat (first
        | (refine K.move ?_; refine JO.q rfl rfl (Nat.le_of_ble_eq_true rfl) (Qt.move rfl) ?_)
        | (refine K.assign ?_; refine JO.q rfl rfl (Nat.le_of_ble_eq_true rfl) (Qt.assign rfl) ?_)
        | (refine K.call ?_; (refine JO.pure (CR) rfl (Nat.le_of_ble_eq_true rfl) rfl ?_ ?_; focus ((repeat (first | exact LeDs.nil | refine LeDs.cons LeD.refl ?_)); done)))
        | (refine K.unOp ?_; refine JO.q rfl rfl (Nat.le_of_ble_eq_true rfl) (Qt.not rfl) ?_)
        | refine JO.nil ?_
        | refine J.seq ?_
        | refine J.region ?_
        | refine J.cond_t rfl ?_)
    exact J.ret Tryd.func11 rfl (.cons (.tmp rfl) .nil) () (by (exact .refl)) [] .nil rfl rfl
  | true =>
  rw [hr] at CR
  unfold Pn.right at hr
  rw [decide_eq_true_iff] at hr
  obtain ⟨p1, p8, hr⟩ := hr
  repeat (first
      | (refine K.move ?_; refine JO.q rfl rfl (Nat.le_of_ble_eq_true rfl) (Qt.move rfl) ?_)
      | (refine K.assign ?_; refine JO.q rfl rfl (Nat.le_of_ble_eq_true rfl) (Qt.assign rfl) ?_)
      | (refine K.call ?_; (refine JO.pure (CR) rfl (Nat.le_of_ble_eq_true rfl) rfl ?_ ?_; focus ((repeat (first | exact LeDs.nil | refine LeDs.cons LeD.refl ?_)); done)))
      | (refine K.unOp ?_; refine JO.q rfl rfl (Nat.le_of_ble_eq_true rfl) (Qt.not rfl) ?_)
      | (refine K.bi ?_; (refine JO.q rfl rfl (Nat.le_of_ble_eq_true rfl) (Qt.lenM rfl) ?_))
      | (refine JO.alloc rfl (Nat.le_of_ble_eq_true rfl) ?_; intro _)
      | refine JO.nil ?_
      | refine J.seq ?_
      | refine J.region ?_
      | refine J.block ?_
      | refine J.skip ?_
      | refine J.cond_f rfl ?_)
  rename_i b
  refine J.toBu ?_
  refine J.loop (ι := { q : Nat // q ≤ p.length } × List Nat) (fun q => [(13, .c (nI q.1.1)), (12, .c (nI p.length)), (11, .c (opsA p)), (3, .c (.v (.pointer (some ⟨b, 0, none⟩))))]) (fun q => [thing (Bu b (Wd.txt (p.take q.1.1))) q.2]) (fun q => p.length - q.1.1) (⟨0, Nat.zero_le _⟩, [b]) (fun X h => h.weak ⟨rfl, rfl, rfl, rfl, trivial⟩) (fun q ih => ?_)
  obtain ⟨⟨i, hi'⟩, S⟩ := q
  simp only at hi' ih ⊢
  clear CR
  by_cases hi : i < p.length
  · have t1 : decide ((i : Int) < (p.length : Int)) = true := decide_eq_true (by omega)
    obtain ⟨l, hl⟩ : ∃ m, p[i]? = some m := ⟨_, List.getElem?_eq_getElem hi⟩
    have AX := wd_at (enc := fun ops : List Pn.Op => [A.r 6 (ops.map eOp)]) hl
    have hro := hr l (List.mem_of_getElem? hl)
    unfold Pn.rightOps at hro
    rw [decide_eq_true_iff] at hro
    obtain ⟨l16, hro⟩ := hro
    have tl := Wd.txt_len (p := p.take i) fun x hx => hr x (List.mem_of_mem_take hx)
    rw [List.length_take] at tl
    have next := fun S' : List Nat => ih (⟨i + 1, by omega⟩, S') (by simp only; omega)
    simp only at next
    rw [Wd.txt_take hl] at next
    clear ih
    generalize Wd.txt (p.take i) = B at *
    have tb : B.length ≤ 60000 := by omega
    clear tl
    have C1 := c_bWrite b B [103, 111, 10] S (by simp only [List.length_cons, List.length_nil]; omega)
    repeat (first
        | (refine K.load ?_; (refine JO.q rfl rfl (Nat.le_of_ble_eq_true rfl) (Qt.load1 rfl .el rfl) ?_))
        | (refine K.move ?_; refine JO.q rfl rfl (Nat.le_of_ble_eq_true rfl) (Qt.move rfl) ?_)
        | (refine K.assign ?_; refine JO.q rfl rfl (Nat.le_of_ble_eq_true rfl) (Qt.assign rfl) ?_)
        | (refine K.indexAddr ?_; refine JO.q rfl rfl (Nat.le_of_ble_eq_true rfl) (Qt.indexR rfl rfl (by omega) (AX)) ?_)
        | (refine K.binOp ?_; (refine JO.q rfl rfl (Nat.le_of_ble_eq_true rfl) (Qt.cmp rfl rfl (congrArg some t1)) ?_))
        | (refine K.call ?_; (refine JO.ld (Ld.callT (C1) (Nat.le_of_ble_eq_true rfl) rfl (by (exact LeDs.cons .refl (.cons .refl .nil)))) rfl (fun _ => ?_)))
        | (refine K.bi ?_; (refine JO.q rfl rfl (Nat.le_of_ble_eq_true rfl) (Qt.lenM rfl) ?_))
        | refine JO.nil ?_
        | refine J.seq ?_
        | refine J.region ?_
        | refine J.block ?_
        | refine J.skip ?_
        | refine J.cond_t rfl ?_)
    rename_i S1
    refine J.loop (ι := { q : Nat // q ≤ l.length } × List Nat) (fun q => [(20, .c (nI q.1.1)), (19, .c (nI l.length)), (18, .c (.r 6 (l.map eOp))), (3, .c (.v (.pointer (some ⟨b, 0, none⟩)))), (13, .c (nI i)), (12, .c (nI p.length)), (11, .c (opsA p))]) (fun q => [thing (Bu b ((B ++ [103, 111, 10]) ++ Wd.ops (l.take q.1.1))) q.2]) (fun q => l.length - q.1.1) (⟨0, Nat.zero_le _⟩, S1) (fun X h => (h.weak ⟨rfl, rfl, rfl, rfl, rfl, rfl, rfl, trivial⟩).congL (by simp [Wd.ops])) (fun q ih => ?_)
    obtain ⟨⟨k, hk'⟩, S2⟩ := q
    simp only at hk' ih ⊢
    by_cases hk : k < l.length
    · have u1 : decide ((k : Int) < (l.length : Int)) = true := decide_eq_true (by omega)
      obtain ⟨o, ho⟩ : ∃ m, l[k]? = some m := ⟨_, List.getElem?_eq_getElem hk⟩
      have AY := wd_at (enc := eOp) ho
      have CO := c_wOp o
      have lo := Wd.op_len (hro o (List.mem_of_getElem? ho))
      have tk := Wd.ops_len (l := l.take k) fun x hx => hro x (List.mem_of_mem_take hx)
      rw [List.length_take] at tk
      have next2 := fun S' : List Nat => ih (⟨k + 1, by omega⟩, S') (by simp only; omega)
      simp only at next2
      rw [Wd.ops_take ho, ← List.append_assoc] at next2
      clear ih next
      generalize Wd.ops (l.take k) = W at *
      have l0 : ((B ++ [103, 111, 10]) ++ W).length ≤ 70000 := by simp only [List.length_append, List.length_cons, List.length_nil]; omega
      generalize (B ++ [103, 111, 10]) ++ W = V at *
      have C2 := c_bWrite b V (Wd.op o ++ [10]) S2 (by simp only [List.length_append, List.length_cons, List.length_nil]; omega)
      repeat (first
          | (refine K.load ?_; first | refine JO.q rfl rfl (Nat.le_of_ble_eq_true rfl) (Qt.loadW rfl .el rfl) ?_ | refine JO.q rfl rfl (Nat.le_of_ble_eq_true rfl) (Qt.loadWb rfl (by exact rfl)) ?_)
          | (refine K.move ?_; refine JO.q rfl rfl (Nat.le_of_ble_eq_true rfl) (Qt.move rfl) ?_)
          | (refine K.store ?_; (refine JO.ld (Ld.storeW rfl rfl rfl (by exact rfl) (by exact rfl)) rfl (fun _ => ?_)))
          | (refine K.indexAddr ?_; refine JO.q rfl rfl (Nat.le_of_ble_eq_true rfl) (Qt.indexR rfl rfl (by omega) (AY)) ?_)
          | (refine K.binOp ?_; first | refine JO.q rfl rfl (Nat.le_of_ble_eq_true rfl) (Qt.cmp rfl rfl (congrArg some u1)) ?_ | refine JO.q rfl rfl (Nat.le_of_ble_eq_true rfl) (Qt.cat rfl rfl (by (simp only [List.length_append, List.length_cons, List.length_nil]; omega))) ?_ | refine JO.q rfl rfl (Nat.le_of_ble_eq_true rfl) (Qt.ari rfl rfl rfl (w64 (by omega) (by omega))) ?_)
          | (refine K.call ?_; first | (refine JO.ld (Ld.pureW hW (CO) (Nat.le_of_ble_eq_true rfl) rfl ?_) rfl (fun _ => ?_); focus ((repeat (first | exact LeDs.nil | refine LeDs.cons (LeD.agg (by repeat (first | exact .nil | refine .cons .refl ?_))) ?_)); done)) | (refine JO.ld (Ld.callT (C2) (Nat.le_of_ble_eq_true rfl) rfl (by (exact LeDs.cons .refl (.cons .refl .nil)))) rfl (fun _ => ?_)))
          | (refine JO.alloc rfl (Nat.le_of_ble_eq_true rfl) ?_; intro _)
          | refine JO.nil ?_
          | refine J.seq ?_
          | refine J.region ?_
          | refine J.block ?_
          | refine J.inBlock ?_
          | refine J.skip ?_
          | refine J.cond_t rfl ?_)
      refine J.drop 0 ?_
      exact (next2 _).weak ⟨rfl, rfl, rfl, rfl, rfl, rfl, rfl, trivial⟩
    obtain rfl : k = l.length := by omega
    have u1 : decide ((l.length : Int) < (l.length : Int)) = false := decide_eq_false (by omega)
    rw [List.take_length]
    clear ih
    repeat (first
        | (refine K.move ?_; refine JO.q rfl rfl (Nat.le_of_ble_eq_true rfl) (Qt.move rfl) ?_)
        | (refine K.binOp ?_; first | refine JO.q rfl rfl (Nat.le_of_ble_eq_true rfl) (Qt.cmp rfl rfl (congrArg some u1)) ?_ | refine JO.q rfl rfl (Nat.le_of_ble_eq_true rfl) (Qt.ari rfl rfl rfl (w64 (by omega) (by omega))) ?_)
        | refine JO.nil ?_
        | refine J.seq ?_
        | refine J.region ?_
        | refine J.inBlock ?_
        | refine J.exit rfl ?_
        | refine J.cond_f rfl ?_)
    exact (next _).weak ⟨rfl, rfl, rfl, rfl, trivial⟩
  obtain rfl : i = p.length := by omega
  have t1 : decide ((p.length : Int) < (p.length : Int)) = false := decide_eq_false (by omega)
  rw [List.take_length]
  clear ih
  have ne : Wd.txt p ≠ [] := by
    cases p with
    | nil => simp at p1
    | cons l p => simp [Wd.txt, Wd.blk]
  have C3 := c_bString b (Wd.txt p) S ne
  repeat (first
      | (refine K.assign ?_; refine JO.q rfl rfl (Nat.le_of_ble_eq_true rfl) (Qt.assign rfl) ?_)
      | (refine K.binOp ?_; (refine JO.q rfl rfl (Nat.le_of_ble_eq_true rfl) (Qt.cmp rfl rfl (congrArg some t1)) ?_))
      | (refine K.call ?_; (refine JO.ld (Ld.callA (C3) (Nat.le_of_ble_eq_true rfl) rfl (by (exact LeDs.cons .refl .nil))) rfl ?_; intro _))
      | refine JO.nil ?_
      | refine J.seq ?_
      | refine J.region ?_
      | refine J.exit rfl ?_
      | refine J.cond_f rfl ?_)
  refine J.ret Tryd.func11 rfl (.cons (.tmp rfl) .nil) () (.of_eq ?_) [] .nil rfl rfl
  rfl
end Fl
end Go.Proofs.YtbjnbngpjdoejaaDoor
namespace Go.Proofs.YtbjnbngpjdoejaaDoor
open Go.RowKit
set_option linter.unusedVariables false
set_option linter.unusedSimpArgs false
set_option linter.unnecessarySimpa false
namespace Fl
set_option maxRecDepth 100000
theorem t_hasV10 (k : Int) : Pure Tryd.prog 34 [.c (nI k)] (.c (bI (Pn.hasV k))) :=
  Con.plain fun ok e xs hd => by
    obtain ⟨v, ys, rfl, r, h⟩ := hd.c
    rw [h.nil_]
    unfold nI RA at r
    rw [r.1]
    refine (ref10_hasV e k).mono ?_
    rintro en w' ⟨rfl, rfl⟩
    exact ⟨_, rfl, Keeps.refl _ _, RD.v rfl⟩
theorem kind_at {k : Int} (h0 : 0 ≤ k) (h1 : k < 10) : ((Wd.kinds.map strV).map fun z => [A.v z])[k.toNat]? = some [sA (Wd.kind k)] := by
  have : k.toNat < Wd.kinds.length := by show k.toNat < 10; omega
  unfold Wd.kind
  rw [List.getElem?_map, List.getElem?_map, List.getElem?_eq_getElem this, List.getD_eq_getElem?_getD, List.getElem?_eq_getElem this]
  rfl
end Fl
end Go.Proofs.YtbjnbngpjdoejaaDoor
namespace Go.Proofs.YtbjnbngpjdoejaaDoor
open Go.RowKit
set_option linter.unusedVariables false
set_option linter.unusedSimpArgs false
set_option linter.unnecessarySimpa false
namespace Fl
set_option maxRecDepth 100000
end Fl
end Go.Proofs.YtbjnbngpjdoejaaDoor
