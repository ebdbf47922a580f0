/-
  The tale's comparisons as function values: sortBy at events and points.
  Conditions: none.
-/
import Derived.Test.YtgjpdogjekmemaaSrtPtD
import Derived.Test.YtgjpdogjekmemaaSrtEvD
namespace Go.Proofs.Ytgjpdogjekmemaa
open Go.RowKit
set_option linter.unusedVariables false
set_option linter.unusedSimpArgs false
set_option linter.unnecessarySimpa false
namespace Fl
set_option maxRecDepth 100000
/-! ### a function value that has a box -/
theorem rc_vsT {ok : Nat → Prop} {w : World} : ∀ {zs ys : List Value}, RC ok w (vs zs) ys → ys = zs
  | [], ys, h => by unfold vs at h; simpa [RC] using h
  | z :: zs, ys, h => by
    change RC ok w (A.v z :: vs zs) ys at h
    unfold RC at h
    obtain ⟨x, xs, rfl, h1, h2⟩ := h
    unfold RA at h1
    rw [h1.1, rc_vsT h2]
theorem CmpFn.box {P : Program} {F : FuncId} {b : Nat} {T : TypeId} {zs : List Value} {α : Type} {enc : α → List A} {key : α → Int} [TyC P F] (hC : ∀ x y, Con P F [.agg (enc x), .agg (enc y), .c (.v (.pointer (some ⟨b, 0, none⟩)))] [.box b T (vs zs)] (fun _ : Unit => (.c (.v (.int .i64 (cq (key x) (key y)))), [.box b T (vs zs)]))) :
    CmpFn P (.func (.func F) #[] #[.pointer (some ⟨b, 0, none⟩)]) [.box b T (vs zs)] enc key := by
  constructor
  intro c f L X ps af gd t tys x y z p q hL ht hx hy hz
  obtain ⟨E, rfl⟩ := hL
  refine ⟨fun a w s K Q hK => ?_⟩
  have h1 := (Ld.callF (P := P) (c := c) (T := X) (ps := ps) (af := af) (gd := gd) (L := E ++ [.box b T (vs zs)]) (f := f) (tys := tys) (args := [y, z, .const (.pointer (some ⟨b, 0, none⟩))]) E (fun _ => E ++ [.box b T (vs zs)]) (hC p q) List.perm_append_comm (fun _ => List.perm_append_comm) ht (by simp only [evDs, hy, hz]; rfl) (.cons .refl (.cons .refl (.cons .refl .nil)))).go a w s K Q (fun u v w' kp sx hf => hK u v w' ?_ sx hf)
  · have e := s.val hx
    unfold Oper.wp at h1 ⊢
    rw [show execOp a.eval ⟨some t, .call ⟨.value x, #[y, z], tys⟩, X, ps, af, gd⟩ = execOp a.eval ⟨some t, .call ⟨.value (.func F), [y, z, .const (.pointer (some ⟨b, 0, none⟩))].toArray, tys⟩, X, ps, af, gd⟩ by
      simp only [execOp, resolve, e, Deferred.ofValue]; simp [Act.eval, invoke, Deferred.ofValue]]
    exact h1
  · refine ⟨kp.os, kp.tape, kp.output, kp.size, fun k hk _ => ?_⟩
    by_cases hb : k = b
    · subst hb
      obtain ⟨v1, h2, h3⟩ := s.res (.box k T (vs zs)) (by simp)
      obtain ⟨v2, h4, h5⟩ := sx.res (.box k T (vs zs)) (by simp)
      rw [rc_vsT h3] at h2
      rw [rc_vsT h5] at h4
      exact h4.trans h2.symm
    · exact kp.block k hk (by simp [foots, Res.foot, hb])
section
variable {P : Program} {c : Cx} {f : Fm} {L : List Res} {T : TypeId} {ps : String} {af : Array Edge} {gd : Option (Nat × Bool)} {t : Nat}
theorem Qt.mkFun {x : Operand} {F : FuncId} {p : Option Addr} (h : evD f x = some (.c (.v (.pointer p)))) : Qt P c [] ⟨t, .makeFunc (.func F) #[] #[x], T, ps, af, gd⟩ f L (.c (.v (.func (.func F) #[] #[.pointer p]))) := ⟨fun a w s => by
  have rx := s.val h
  refine ⟨.func (.func F) #[] #[.pointer p], by unfold RD RA; exact ⟨rfl, rfl⟩, fun w' k => ?_⟩
  simp [execOp, rx, Instr.makeFunc, Sem.run_bind]⟩
end
instance : TyV Try.prog 72 := ⟨by kernel_rfl⟩
instance : TyV Try.prog 76 := ⟨by kernel_rfl⟩
instance : TyN Try.prog 72 1 := ⟨by kernel_rfl⟩
instance : TyN Try.prog 76 1 := ⟨by kernel_rfl⟩
/-! ### cmp.Compare -/
theorem t_isNaN (x : Int) : Pure Try.prog 72 [.c (nI x)] (.c (bI false)) := by
  have t1 : (x != x) = false := by simp
  refine Con.intro Try.func72 rfl rfl rfl (fun ok e => ?_)
  repeat (first
      | (refine K.move ?_; refine JO.q rfl rfl (Nat.le_of_ble_eq_true rfl) (Qt.move rfl) ?_)
      | (refine K.assign ?_; refine JO.q rfl rfl (Nat.le_of_ble_eq_true rfl) (Qt.assign rfl) ?_)
      | (refine K.binOp ?_; (refine JO.q rfl rfl (Nat.le_of_ble_eq_true rfl) (Qt.cmp rfl rfl (congrArg some t1)) ?_))
      | refine JO.nil ?_
      | refine J.seq ?_
      | refine J.region ?_)
  exact J.ret Try.func72 rfl (.cons (.tmp rfl) .nil) () (by (exact .refl)) [] .nil rfl rfl
theorem t_compare (x y : Int) : Pure Try.prog 48 [.c (nI x), .c (nI y)] (.c (nI (cq x y))) := by
  have CX := t_isNaN x
  have CY := t_isNaN y
  unfold cq
  refine Con.intro Try.func48 rfl rfl rfl (fun ok e => ?_)
  by_cases h : x < y
  · have t1 : decide (x < y) = true := decide_eq_true h
    rw [if_pos h]
    repeat (first
        | (refine K.move ?_; refine JO.q rfl rfl (Nat.le_of_ble_eq_true rfl) (Qt.move rfl) ?_)
        | (refine K.assign ?_; refine JO.q rfl rfl (Nat.le_of_ble_eq_true rfl) (Qt.assign rfl) ?_)
        | (refine K.binOp ?_; (refine JO.q rfl rfl (Nat.le_of_ble_eq_true rfl) (Qt.cmp rfl rfl (congrArg some t1)) ?_))
        | (refine K.call ?_; first | (refine JO.pure (CX) rfl (Nat.le_of_ble_eq_true rfl) rfl ?_ ?_; focus ((repeat (first | exact LeDs.nil | refine LeDs.cons LeD.refl ?_)); done)) | (refine JO.pure (CY) rfl (Nat.le_of_ble_eq_true rfl) rfl ?_ ?_; focus ((repeat (first | exact LeDs.nil | refine LeDs.cons LeD.refl ?_)); done)))
        | refine JO.nil ?_
        | refine J.seq ?_
        | refine J.region ?_
        | refine J.skip ?_
        | refine J.cond_t rfl ?_
        | refine J.cond_f rfl ?_)
    exact J.ret Try.func48 rfl (.cons (.tmp rfl) .nil) () (by (exact .refl)) [] .nil rfl rfl
  · have t1 : decide (x < y) = false := decide_eq_false h
    rw [if_neg h]
    by_cases h2 : x > y
    · have t2 : decide (x > y) = true := decide_eq_true h2
      rw [if_pos h2]
      repeat (first
          | (refine K.move ?_; refine JO.q rfl rfl (Nat.le_of_ble_eq_true rfl) (Qt.move rfl) ?_)
          | (refine K.assign ?_; refine JO.q rfl rfl (Nat.le_of_ble_eq_true rfl) (Qt.assign rfl) ?_)
          | (refine K.binOp ?_; first | refine JO.q rfl rfl (Nat.le_of_ble_eq_true rfl) (Qt.cmp rfl rfl (congrArg some t1)) ?_ | refine JO.q rfl rfl (Nat.le_of_ble_eq_true rfl) (Qt.cmp rfl rfl (congrArg some t2)) ?_)
          | (refine K.call ?_; first | (refine JO.pure (CX) rfl (Nat.le_of_ble_eq_true rfl) rfl ?_ ?_; focus ((repeat (first | exact LeDs.nil | refine LeDs.cons LeD.refl ?_)); done)) | (refine JO.pure (CY) rfl (Nat.le_of_ble_eq_true rfl) rfl ?_ ?_; focus ((repeat (first | exact LeDs.nil | refine LeDs.cons LeD.refl ?_)); done)))
          | refine JO.nil ?_
          | refine J.seq ?_
          | refine J.region ?_
          | refine J.skip ?_
          | refine J.cond_t rfl ?_
          | refine J.cond_f rfl ?_)
      exact J.ret Try.func48 rfl (.cons (.tmp rfl) .nil) () (by (exact .refl)) [] .nil rfl rfl
    · have t2 : decide (x > y) = false := decide_eq_false h2
      rw [if_neg h2]
      repeat (first
          | (refine K.move ?_; refine JO.q rfl rfl (Nat.le_of_ble_eq_true rfl) (Qt.move rfl) ?_)
          | (refine K.assign ?_; refine JO.q rfl rfl (Nat.le_of_ble_eq_true rfl) (Qt.assign rfl) ?_)
          | (refine K.binOp ?_; first | refine JO.q rfl rfl (Nat.le_of_ble_eq_true rfl) (Qt.cmp rfl rfl (congrArg some t1)) ?_ | refine JO.q rfl rfl (Nat.le_of_ble_eq_true rfl) (Qt.cmp rfl rfl (congrArg some t2)) ?_)
          | (refine K.call ?_; first | (refine JO.pure (CX) rfl (Nat.le_of_ble_eq_true rfl) rfl ?_ ?_; focus ((repeat (first | exact LeDs.nil | refine LeDs.cons LeD.refl ?_)); done)) | (refine JO.pure (CY) rfl (Nat.le_of_ble_eq_true rfl) rfl ?_ ?_; focus ((repeat (first | exact LeDs.nil | refine LeDs.cons LeD.refl ?_)); done)))
          | refine JO.nil ?_
          | refine J.seq ?_
          | refine J.region ?_
          | refine J.skip ?_
          | refine J.cond_f rfl ?_)
      exact J.ret Try.func48 rfl (.cons (.tmp rfl) .nil) () (by (exact .refl)) [] .nil rfl rfl
end Fl
namespace Ta
structure Ev where
  step : Int
  g : Int
  op : Int
  ans : Bool
  res : Md.Res
structure Pt where
  step : Int
  kind : Int
  at_ : Int
end Ta
namespace Fl
def eEv (e : Ta.Ev) : List A := [nI e.step, nI e.g, nI e.op, bI e.ans, nI e.res.code, nI e.res.cs, nI e.res.v, bI e.res.ok, nI e.res.n]
def ePt (e : Ta.Pt) : List A := [nI e.step, nI e.kind, nI e.at_]
theorem t_stepEv (e : Ta.Ev) : Pure Try.prog 25 [.agg (eEv e)] (.c (nI e.step)) := by
  refine Con.intro Try.func25 rfl rfl rfl (fun ok e => ?_)
  repeat (first
      | (refine K.fieldAddr ?_; refine JO.q rfl rfl (Nat.le_of_ble_eq_true rfl) (Qt.fieldAddr rfl rfl) ?_)
      | (refine K.load ?_; (refine JO.q rfl rfl (Nat.le_of_ble_eq_true rfl) (Qt.load1b rfl (by exact rfl)) ?_))
      | (refine K.assign ?_; refine JO.q rfl rfl (Nat.le_of_ble_eq_true rfl) (Qt.assign rfl) ?_)
      | (refine JO.box rfl (Nat.le_of_ble_eq_true rfl) rfl rfl ?_; intro _)
      | refine JO.nil ?_
      | refine J.seq ?_
      | refine J.region ?_)
  (exact J.retE [_] rfl Try.func25 rfl (.cons (.tmp rfl) .nil) () (by (exact .refl)) rfl)
theorem t_stepPt (e : Ta.Pt) : Pure Try.prog 28 [.agg (ePt e)] (.c (nI e.step)) := by
  refine Con.intro Try.func28 rfl rfl rfl (fun ok e => ?_)
  repeat (first
      | (refine K.fieldAddr ?_; refine JO.q rfl rfl (Nat.le_of_ble_eq_true rfl) (Qt.fieldAddr rfl rfl) ?_)
      | (refine K.load ?_; (refine JO.q rfl rfl (Nat.le_of_ble_eq_true rfl) (Qt.load1b rfl (by exact rfl)) ?_))
      | (refine K.assign ?_; refine JO.q rfl rfl (Nat.le_of_ble_eq_true rfl) (Qt.assign rfl) ?_)
      | (refine JO.box rfl (Nat.le_of_ble_eq_true rfl) rfl rfl ?_; intro _)
      | refine JO.nil ?_
      | refine J.seq ?_
      | refine J.region ?_)
  (exact J.retE [_] rfl Try.func28 rfl (.cons (.tmp rfl) .nil) () (by (exact .refl)) rfl)
theorem t_cmpEv (b : Nat) (x y : Ta.Ev) : Con Try.prog 47 [.agg (eEv x), .agg (eEv y), .c (.v (.pointer (some ⟨b, 0, none⟩)))] [.box b 72 (vs [.func (.func 25) #[] #[]])] (fun _ : Unit => (.c (nI (cq x.step y.step)), [.box b 72 (vs [.func (.func 25) #[] #[]])])) := by
  have CX := t_stepEv x
  have CY := t_stepEv y
  have CC := t_compare x.step y.step
  refine Con.intro Try.func47 rfl rfl rfl (fun ok e => ?_)
  repeat (first
      | (refine K.assign ?_; refine JO.q rfl rfl (Nat.le_of_ble_eq_true rfl) (Qt.assign rfl) ?_)
      | (refine JO.box rfl (Nat.le_of_ble_eq_true rfl) rfl rfl ?_; intro _)
      | refine JO.nil ?_
      | refine J.seq ?_
      | refine J.region ?_)
  refine J.draw (by kernel_rfl) rfl ?_
  refine JW.base none ?_
  (refine JD.take 0 rfl rfl (by kernel_rfl) rfl (Nat.le_of_ble_eq_true rfl) (Qt.load1b rfl (by exact rfl)) rfl ?_)
  (refine JD.take 1 rfl rfl (by kernel_rfl) rfl (Nat.le_of_ble_eq_true rfl) (Qt.loadWb rfl (by exact rfl)) rfl ?_)
  (refine JD.take 3 rfl rfl (by kernel_rfl) rfl (Nat.le_of_ble_eq_true rfl) (Qt.load1b rfl (by exact rfl)) rfl ?_)
  (refine JD.take 4 rfl rfl (by kernel_rfl) rfl (Nat.le_of_ble_eq_true rfl) (Qt.loadWb rfl (by exact rfl)) rfl ?_)
  refine JD.each1 (i := 2) (by kernel_rfl) ?_
  refine JS.loud rfl rfl rfl (Nat.le_of_ble_eq_true rfl) (Ld.pureV rfl CX (Nat.le_of_ble_eq_true rfl) rfl (.cons .refl .nil)) (by (exact .none)) (fun _ => ?_)
  refine JD.each1 (i := 5) (by kernel_rfl) ?_
  refine JS.loud rfl rfl rfl (Nat.le_of_ble_eq_true rfl) (Ld.pureV rfl CY (Nat.le_of_ble_eq_true rfl) rfl (.cons .refl .nil)) (by (exact .none)) (fun _ => ?_)
  refine JD.each1 (i := 6) (by kernel_rfl) ?_
  refine JS.loud rfl rfl rfl (Nat.le_of_ble_eq_true rfl) (Ld.pure (CC) (Nat.le_of_ble_eq_true rfl) rfl (by repeat (first | exact LeDs.nil | refine LeDs.cons LeD.refl ?_))) (by (exact .none)) (fun _ => ?_)
  refine JD.each1 (i := 7) (by kernel_rfl) ?_
  refine JS.q rfl rfl rfl (Nat.le_of_ble_eq_true rfl) (Qt.assign rfl) ?_
  refine JD.done (by kernel_rfl) ?_
  repeat (fail)
  (exact J.retE [_, _] rfl Try.func47 rfl (.cons (.tmp rfl) .nil) () (by (exact .refl)) rfl)
theorem t_cmpPt (b : Nat) (x y : Ta.Pt) : Con Try.prog 50 [.agg (ePt x), .agg (ePt y), .c (.v (.pointer (some ⟨b, 0, none⟩)))] [.box b 76 (vs [.func (.func 28) #[] #[]])] (fun _ : Unit => (.c (nI (cq x.step y.step)), [.box b 76 (vs [.func (.func 28) #[] #[]])])) := by
  have CX := t_stepPt x
  have CY := t_stepPt y
  have CC := t_compare x.step y.step
  refine Con.intro Try.func50 rfl rfl rfl (fun ok e => ?_)
  repeat (first
      | (refine K.assign ?_; refine JO.q rfl rfl (Nat.le_of_ble_eq_true rfl) (Qt.assign rfl) ?_)
      | (refine JO.box rfl (Nat.le_of_ble_eq_true rfl) rfl rfl ?_; intro _)
      | refine JO.nil ?_
      | refine J.seq ?_
      | refine J.region ?_)
  refine J.draw (by kernel_rfl) rfl ?_
  refine JW.base none ?_
  (refine JD.take 0 rfl rfl (by kernel_rfl) rfl (Nat.le_of_ble_eq_true rfl) (Qt.load1b rfl (by exact rfl)) rfl ?_)
  (refine JD.take 1 rfl rfl (by kernel_rfl) rfl (Nat.le_of_ble_eq_true rfl) (Qt.loadWb rfl (by exact rfl)) rfl ?_)
  (refine JD.take 3 rfl rfl (by kernel_rfl) rfl (Nat.le_of_ble_eq_true rfl) (Qt.load1b rfl (by exact rfl)) rfl ?_)
  (refine JD.take 4 rfl rfl (by kernel_rfl) rfl (Nat.le_of_ble_eq_true rfl) (Qt.loadWb rfl (by exact rfl)) rfl ?_)
  refine JD.each1 (i := 2) (by kernel_rfl) ?_
  refine JS.loud rfl rfl rfl (Nat.le_of_ble_eq_true rfl) (Ld.pureV rfl CX (Nat.le_of_ble_eq_true rfl) rfl (.cons .refl .nil)) (by (exact .none)) (fun _ => ?_)
  refine JD.each1 (i := 5) (by kernel_rfl) ?_
  refine JS.loud rfl rfl rfl (Nat.le_of_ble_eq_true rfl) (Ld.pureV rfl CY (Nat.le_of_ble_eq_true rfl) rfl (.cons .refl .nil)) (by (exact .none)) (fun _ => ?_)
  refine JD.each1 (i := 6) (by kernel_rfl) ?_
  refine JS.loud rfl rfl rfl (Nat.le_of_ble_eq_true rfl) (Ld.pure (CC) (Nat.le_of_ble_eq_true rfl) rfl (by repeat (first | exact LeDs.nil | refine LeDs.cons LeD.refl ?_))) (by (exact .none)) (fun _ => ?_)
  refine JD.each1 (i := 7) (by kernel_rfl) ?_
  refine JS.q rfl rfl rfl (Nat.le_of_ble_eq_true rfl) (Qt.assign rfl) ?_
  refine JD.done (by kernel_rfl) ?_
  repeat (fail)
  (exact J.retE [_, _] rfl Try.func50 rfl (.cons (.tmp rfl) .nil) () (by (exact .refl)) rfl)
end Fl
end Go.Proofs.Ytgjpdogjekmemaa
