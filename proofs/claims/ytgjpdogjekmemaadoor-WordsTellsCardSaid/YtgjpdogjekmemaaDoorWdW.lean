/-
  WordsTells at arguments as they lie; what the row's list of variables gives; a world that meets the list.
  Conditions: none.
-/
import Derived.Test.YtgjpdogjekmemaaDoorWordsTells
import Derived.Test.YtgjpdogjekmemaaDoorRows
import Derived.ChangeSame
import Derived.ChangeVars
import Derived.JoinedOf
import Derived.RowKit
import Derived.RowKitTokens
import Derived.LaidLaws
import Derived.LaidHandle
import Derived.Stop.Joined
import Derived.Stop.LaidTwo
import Derived.Lib.LaidTab
import Derived.Lay
namespace Go.Proofs.YtgjpdogjekmemaaDoor
open Go.RowKit Go.ChangeShapes Go.WideShapes
set_option linter.unusedVariables false
set_option linter.unusedSimpArgs false
set_option linter.unnecessarySimpa false
namespace Fl
theorem wi_case : Si eCs caseE := fun ok w cs c U r _ => by
  obtain ⟨rfl, _⟩ := r
  exact RC.cons (RA.w rfl) (RC.cons (RA.w rfl) (RC.cons (RA.w rfl) RC.nil))
theorem wi_op : Si eOp opE := fun ok w cs o U r hS => by
  obtain ⟨vc, rfl, g⟩ := r
  exact RC.cons (RA.w rfl) (RC.cons (RA.w rfl) (RC.cons (RA.w rfl) (RC.cons (RA.w rfl) (RC.cons (wi_case.ra g hS) (RC.cons (RA.w rfl) RC.nil)))))
theorem wi_ops : Si (fun l : List Pn.Op => [A.r 6 (l.map eOp)]) opsE := wi_op.row
theorem law1W {H : World → Prop} {P : Program} {F : FuncId} {ds : List D} (h : PureW H P F ds (.c (bI true))) {w : World} (hH : H w) {xs : List Value} (hd : RDs (fun _ => True) w ds xs) : Calls P F xs.toArray w fun e w' => e = .returned (.bool true) ∧ Keeps [] w w' := by
  refine Calls.mono (h.go (fun _ => True) w xs hH hd (by simp) List.Pairwise.nil (by simp [foots])) ?_
  rintro en w' ⟨i, x, rfl, kp, _, _, _, r⟩
  unfold RD bI RA at r
  exact ⟨by rw [r.1], by simpa [foots] using kp⟩
theorem wordsTells_walk (w : World) (v : Value) (p : List (List Pn.Op)) (S : List Nat) (hp : GV opsE 1 w v p S) (cs : Array Value) (o : Pn.Op) (U : List Nat) (sz : cs.size = 6) (ho : opE w cs.toList o U) (oc : ∀ y ∈ cs.toList, y.oneCell' = true) (b : Bool) (a0 a1 a2 a4 : Int)
    (w0 : (Lit.int .i64 a0).wf = true) (w1 : (Lit.int .i64 a1).wf = true) (w2 : (Lit.int .i64 a2).wf = true) (w4 : (Lit.int .i64 a4).wf = true) (hT : Tb w) :
    Calls Tryd.prog 3 #[v, .agg cs, .agg #[.int .i64 a0, .int .i64 a1, .int .i64 a2, .bool b, .int .i64 a4]] w fun e w' => e = .returned (.bool true) ∧ Keeps [] w w' := by
  have wf : ∀ {n : Int}, (Lit.int .i64 n).wf = true → isI n := fun {n} h => by
    unfold isI
    simpa [Lit.wf, IntKind.min, IntKind.max, IntKind.signed, IntKind.bits] using h
  have l1 : p.length ≤ 9223372036854775807 := by have := hp.le; unfold maxLen at this; omega
  have l2 : ∀ l ∈ p, l.length ≤ 9223372036854775807 := fun l hl => by
    obtain ⟨xs, T, h1, h2, _⟩ := hp
    obtain ⟨k, hk⟩ := List.getElem?_of_mem hl
    obtain ⟨V, ⟨u, _, g⟩, _⟩ := h2 k l hk
    have := g.le; unfold maxLen at this; omega
  exact law1W (c_WordsTells p o ⟨a0, a1, a2, b, a4⟩ l1 l2 ⟨wf w0, wf w1, wf w2, wf w4⟩) hT (xs := [v, .agg cs, .agg #[.int .i64 a0, .int .i64 a1, .int .i64 a2, .bool b, .int .i64 a4]])
    (RDs.cons (by unfold RD; exact wi_ops.ra hp fun _ _ => trivial) (RDs.cons (by unfold RD; exact ⟨cs.toList, by simp, wi_op _ _ _ _ _ ho fun _ _ => trivial⟩)
      (RDs.cons (by unfold RD; exact ⟨[.int .i64 a0, .int .i64 a1, .int .i64 a2, .bool b, .int .i64 a4], rfl, RC.cons (RA.w rfl) (RC.cons (RA.w rfl) (RC.cons (RA.w rfl) (RC.cons (RA.w rfl) (RC.cons (RA.w rfl) RC.nil))))⟩) RDs.nil)))
end Fl
theorem tb_of_laid {W : World} (h : laidMetH Tryd.prog Rows.wordsTellsRow.laid W) : Fl.Tb W := by
  have h' : laidMet Tryd.prog [("math/bits.deBruijn32tab", Rows.laid_math_bits_deBruijn32tab), ("math/bits.deBruijn64tab", Rows.laid_math_bits_deBruijn64tab), ("internal/strconv.uint64pow10", Rows.laid_internal_strconv_uint64pow10)] W := h
  exact Lib.tabIs_of_head (g := 0) (t := 102) (e := 69) (n := 20) (by kernel_rfl) (by kernel_rfl) Tryd.underlying102 Tryd.underlying69 (by kernel_rfl) (by kernel_rfl) h'.tail.tail
/-- A world that meets the list. -/
noncomputable def laidWorld (os : Os) : World := World.laidAll Tryd.prog os (Rows.wordsTellsRow.laid.filter fun x => x.2.handleName?.isNone)
theorem laidWorld_met (os : Os) (args : Array Value) : laidMetH Tryd.prog Rows.wordsTellsRow.laid ((laidWorld os).forCall (fun _ _ => 0) ⟨#[], args, []⟩).memory :=
  laidMetH_of_parts (laidMet_of_run' 88 (by kernel_rfl) (by kernel_rfl)) (by kernel_rfl)
end Go.Proofs.YtgjpdogjekmemaaDoor
