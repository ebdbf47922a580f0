/-
  The walk of the law WordsTells.
  Conditions: the table internal/strconv.uint64pow10 holds the powers of ten.
-/
import Derived.Test.YtgjpdogjekmemaaDoorWdU
import Derived.Test.YtgjpdogjekmemaaDoorWdT
import Derived.Test.YtgjpdogjekmemaaDoorWdQ
import Derived.Test.YtgjpdogjekmemaaDoorWdS
namespace Go.Proofs.YtgjpdogjekmemaaDoor
open Go.RowKit
set_option linter.unusedVariables false
set_option linter.unusedSimpArgs false
set_option linter.unnecessarySimpa false
namespace Fl
set_option maxRecDepth 100000
set_option maxHeartbeats 2000000 in
theorem t_great (p : List (List Pn.Op)) (h1 : p.length ≤ 9223372036854775807) (h2 : ∀ l ∈ p, l.length ≤ 9223372036854775807) : Con Tryd.prog 7 [.c (opsA p)] [] (fun g : Bool => (.c (bI g), [])) := by
  refine Con.intro Tryd.func7 rfl rfl rfl (fun ok e => ?_)
  repeat (first
      | (refine K.fieldAddr ?_; refine JO.q rfl rfl (Nat.le_of_ble_eq_true rfl) (Qt.fieldAddr rfl rfl) ?_)
      | (refine K.load ?_; first | refine JO.q rfl rfl (Nat.le_of_ble_eq_true rfl) (Qt.load1 rfl .el rfl) ?_ | refine JO.q rfl rfl (Nat.le_of_ble_eq_true rfl) (Qt.loadW rfl .el rfl) ?_ | refine JO.q rfl rfl (Nat.le_of_ble_eq_true rfl) (Qt.loadN rfl .el rfl rfl) ?_ | refine JO.q rfl rfl (Nat.le_of_ble_eq_true rfl) (Qt.load1b rfl (by exact rfl)) ?_ | refine JO.q rfl rfl (Nat.le_of_ble_eq_true rfl) (Qt.loadWb rfl (by exact rfl)) ?_ | refine JO.q rfl rfl (Nat.le_of_ble_eq_true rfl) (Qt.loadNb rfl (by exact rfl) (by exact rfl)) ?_)
      | (refine K.move ?_; refine JO.q rfl rfl (Nat.le_of_ble_eq_true rfl) (Qt.move rfl) ?_)
      | (refine K.store ?_; first | refine JO.ld (Ld.storeW rfl rfl rfl (by exact rfl) (by exact rfl)) rfl (fun _ => ?_) | refine JO.ld (Ld.store1 rfl rfl (by exact rfl)) rfl (fun _ => ?_) | refine JO.ld (Ld.storeN rfl rfl rfl (by exact rfl) (by exact rfl)) rfl (fun _ => ?_))
      | (refine K.assign ?_; refine JO.q rfl rfl (Nat.le_of_ble_eq_true rfl) (Qt.assign rfl) ?_)
      | (refine K.binOp ?_; first | refine JO.q rfl rfl (Nat.le_of_ble_eq_true rfl) (Qt.cmp rfl rfl rfl) ?_ | refine JO.q rfl rfl (Nat.le_of_ble_eq_true rfl) (Qt.eqB rfl rfl) ?_ | refine JO.q rfl rfl (Nat.le_of_ble_eq_true rfl) (Qt.neB rfl rfl) ?_)
      | (refine K.unOp ?_; refine JO.q rfl rfl (Nat.le_of_ble_eq_true rfl) (Qt.not rfl) ?_)
      | (refine K.bi ?_; first | refine JO.q rfl rfl (Nat.le_of_ble_eq_true rfl) (Qt.lenM rfl) ?_ | refine JO.q rfl rfl (Nat.le_of_ble_eq_true rfl) (Qt.lenR rfl) ?_ | refine JO.q rfl rfl (Nat.le_of_ble_eq_true rfl) (Qt.lenV rfl) ?_ | refine JO.q rfl rfl (Nat.le_of_ble_eq_true rfl) (Qt.lenO rfl) ?_)
      | (refine K.extract ?_; refine JO.q rfl rfl (Nat.le_of_ble_eq_true rfl) (Qt.extract rfl rfl) ?_)
      | (refine JO.alloc rfl (Nat.le_of_ble_eq_true rfl) ?_; intro _)
      | (refine JO.box rfl (Nat.le_of_ble_eq_true rfl) rfl rfl ?_; intro _)
      | (refine K.pick ?_; refine JO.q rfl rfl (Nat.le_of_ble_eq_true rfl) (Qt.pick rfl rfl) ?_)
      | (refine K.build ?_; refine JO.q rfl rfl (Nat.le_of_ble_eq_true rfl) (Qt.build rfl (by kernel_rfl)) ?_)
      | (refine K.lit ?_; first | (refine JO.lit0 rfl (Nat.le_of_ble_eq_true rfl) ?_; intro _) | (refine JO.lit1 rfl (Nat.le_of_ble_eq_true rfl) rfl rfl rfl rfl rfl ?_; intro _))
      | (refine K.nilCheck ?_; refine JO.q rfl rfl (Nat.le_of_ble_eq_true rfl) (Qt.nilCheck rfl rfl) ?_)
      | (refine K.field ?_; refine JO.q rfl rfl (Nat.le_of_ble_eq_true rfl) (Qt.field rfl rfl (by kernel_rfl) rfl) ?_)
      | (refine K.convert ?_; refine JO.q rfl rfl (Nat.le_of_ble_eq_true rfl) (Qt.conv rfl rfl) ?_)
      | refine JO.nil ?_
      | refine J.seq ?_
      | refine J.region ?_
      | refine J.block ?_
      | refine J.inBlock ?_
      | refine J.skip ?_
      | refine J.exit rfl ?_
      | refine J.cond_t rfl ?_
      | refine J.cond_f rfl ?_
      | refine JO.no rfl rfl (Nat.le_of_ble_eq_true rfl) ?_)
  refine J.loop (ι := { q : Nat // q ≤ p.length }) (fun q => [(9, .c (nI q.1)), (8, .c (nI p.length)), (7, .c (opsA p)), (0, .c (opsA p))]) (fun _ => []) (fun q => p.length - q.1) ⟨0, Nat.zero_le _⟩ (fun X h => h.weak ⟨rfl, rfl, rfl, rfl, trivial⟩) (fun q ih => ?_)
  obtain ⟨i, hi'⟩ := q
  simp only at hi' ih ⊢
  by_cases hi : i < p.length
  · have t1 : decide ((i : Int) < (p.length : Int)) = true := decide_eq_true (by omega)
    obtain ⟨l, hl⟩ : ∃ m, p[i]? = some m := ⟨_, List.getElem?_eq_getElem hi⟩
    have AX := wd_at (enc := fun ops : List Pn.Op => [A.r 6 (ops.map eOp)]) hl
    have l2 := h2 l (List.mem_of_getElem? hl)
    have next := ih ⟨i + 1, by omega⟩ (by simp only; omega)
    clear ih
    repeat (first
        | (refine K.fieldAddr ?_; refine JO.q rfl rfl (Nat.le_of_ble_eq_true rfl) (Qt.fieldAddr rfl rfl) ?_)
        | (refine K.load ?_; first | refine JO.q rfl rfl (Nat.le_of_ble_eq_true rfl) (Qt.load1 rfl .el rfl) ?_ | refine JO.q rfl rfl (Nat.le_of_ble_eq_true rfl) (Qt.loadW rfl .el rfl) ?_ | refine JO.q rfl rfl (Nat.le_of_ble_eq_true rfl) (Qt.loadN rfl .el rfl rfl) ?_ | refine JO.q rfl rfl (Nat.le_of_ble_eq_true rfl) (Qt.load1b rfl (by exact rfl)) ?_ | refine JO.q rfl rfl (Nat.le_of_ble_eq_true rfl) (Qt.loadWb rfl (by exact rfl)) ?_ | refine JO.q rfl rfl (Nat.le_of_ble_eq_true rfl) (Qt.loadNb rfl (by exact rfl) (by exact rfl)) ?_)
        | (refine K.move ?_; refine JO.q rfl rfl (Nat.le_of_ble_eq_true rfl) (Qt.move rfl) ?_)
        | (refine K.store ?_; first | refine JO.ld (Ld.storeW rfl rfl rfl (by exact rfl) (by exact rfl)) rfl (fun _ => ?_) | refine JO.ld (Ld.store1 rfl rfl (by exact rfl)) rfl (fun _ => ?_) | refine JO.ld (Ld.storeN rfl rfl rfl (by exact rfl) (by exact rfl)) rfl (fun _ => ?_))
        | (refine K.assign ?_; refine JO.q rfl rfl (Nat.le_of_ble_eq_true rfl) (Qt.assign rfl) ?_)
        | (refine K.indexAddr ?_; refine JO.q rfl rfl (Nat.le_of_ble_eq_true rfl) (Qt.indexR rfl rfl (by omega) (AX)) ?_)
        | (refine K.binOp ?_; first | refine JO.q rfl rfl (Nat.le_of_ble_eq_true rfl) (Qt.cmp rfl rfl (congrArg some t1)) ?_ | refine JO.q rfl rfl (Nat.le_of_ble_eq_true rfl) (Qt.cmp rfl rfl rfl) ?_ | refine JO.q rfl rfl (Nat.le_of_ble_eq_true rfl) (Qt.eqB rfl rfl) ?_ | refine JO.q rfl rfl (Nat.le_of_ble_eq_true rfl) (Qt.neB rfl rfl) ?_)
        | (refine K.unOp ?_; refine JO.q rfl rfl (Nat.le_of_ble_eq_true rfl) (Qt.not rfl) ?_)
        | (refine K.bi ?_; first | refine JO.q rfl rfl (Nat.le_of_ble_eq_true rfl) (Qt.lenM rfl) ?_ | refine JO.q rfl rfl (Nat.le_of_ble_eq_true rfl) (Qt.lenR rfl) ?_ | refine JO.q rfl rfl (Nat.le_of_ble_eq_true rfl) (Qt.lenV rfl) ?_ | refine JO.q rfl rfl (Nat.le_of_ble_eq_true rfl) (Qt.lenO rfl) ?_)
        | (refine K.extract ?_; refine JO.q rfl rfl (Nat.le_of_ble_eq_true rfl) (Qt.extract rfl rfl) ?_)
        | (refine JO.alloc rfl (Nat.le_of_ble_eq_true rfl) ?_; intro _)
        | (refine JO.box rfl (Nat.le_of_ble_eq_true rfl) rfl rfl ?_; intro _)
        | (refine K.pick ?_; refine JO.q rfl rfl (Nat.le_of_ble_eq_true rfl) (Qt.pick rfl rfl) ?_)
        | (refine K.build ?_; refine JO.q rfl rfl (Nat.le_of_ble_eq_true rfl) (Qt.build rfl (by kernel_rfl)) ?_)
        | (refine K.lit ?_; first | (refine JO.lit0 rfl (Nat.le_of_ble_eq_true rfl) ?_; intro _) | (refine JO.lit1 rfl (Nat.le_of_ble_eq_true rfl) rfl rfl rfl rfl rfl ?_; intro _))
        | (refine K.nilCheck ?_; refine JO.q rfl rfl (Nat.le_of_ble_eq_true rfl) (Qt.nilCheck rfl rfl) ?_)
        | (refine K.field ?_; refine JO.q rfl rfl (Nat.le_of_ble_eq_true rfl) (Qt.field rfl rfl (by kernel_rfl) rfl) ?_)
        | (refine K.convert ?_; refine JO.q rfl rfl (Nat.le_of_ble_eq_true rfl) (Qt.conv rfl rfl) ?_)
        | refine JO.nil ?_
        | refine J.seq ?_
        | refine J.region ?_
        | refine J.block ?_
        | refine J.inBlock ?_
        | refine J.skip ?_
        | refine J.exit rfl ?_
        | refine J.cond_t rfl ?_
        | refine J.cond_f rfl ?_
        | refine JO.no rfl rfl (Nat.le_of_ble_eq_true rfl) ?_)
    refine J.loop (ι := { q : Nat // q ≤ l.length }) (fun q => [(15, .c (nI q.1)), (14, .c (nI l.length)), (13, .c (.r 6 (l.map eOp))), (4, .c (.r 6 (l.map eOp))), (9, .c (nI i)), (8, .c (nI p.length)), (7, .c (opsA p)), (0, .c (opsA p))]) (fun _ => []) (fun q => l.length - q.1) ⟨0, Nat.zero_le _⟩ (fun X h => h.weak ⟨rfl, rfl, rfl, rfl, rfl, rfl, rfl, rfl, trivial⟩) (fun q ih => ?_)
    obtain ⟨k, hk'⟩ := q
    simp only at hk' ih ⊢
    by_cases hk : k < l.length
    · have u1 : decide ((k : Int) < (l.length : Int)) = true := decide_eq_true (by omega)
      obtain ⟨o, ho⟩ : ∃ m, l[k]? = some m := ⟨_, List.getElem?_eq_getElem hk⟩
      have AY := wd_at (enc := eOp) ho
      have next2 := ih ⟨k + 1, by omega⟩ (by simp only; omega)
      clear ih next
      cases c1 : decide ((o.cases.length : Int) > 20) with
      | true =>
        repeat (first
            | (refine K.fieldAddr ?_; refine JO.q rfl rfl (Nat.le_of_ble_eq_true rfl) (Qt.fieldAddr rfl rfl) ?_)
            | (refine K.load ?_; first | refine JO.q rfl rfl (Nat.le_of_ble_eq_true rfl) (Qt.load1 rfl .el rfl) ?_ | refine JO.q rfl rfl (Nat.le_of_ble_eq_true rfl) (Qt.loadW rfl .el rfl) ?_ | refine JO.q rfl rfl (Nat.le_of_ble_eq_true rfl) (Qt.loadN rfl .el rfl rfl) ?_ | refine JO.q rfl rfl (Nat.le_of_ble_eq_true rfl) (Qt.load1b rfl (by exact rfl)) ?_ | refine JO.q rfl rfl (Nat.le_of_ble_eq_true rfl) (Qt.loadWb rfl (by exact rfl)) ?_ | refine JO.q rfl rfl (Nat.le_of_ble_eq_true rfl) (Qt.loadNb rfl (by exact rfl) (by exact rfl)) ?_)
            | (refine K.move ?_; refine JO.q rfl rfl (Nat.le_of_ble_eq_true rfl) (Qt.move rfl) ?_)
            | (refine K.store ?_; first | refine JO.ld (Ld.storeW rfl rfl rfl (by exact rfl) (by exact rfl)) rfl (fun _ => ?_) | refine JO.ld (Ld.store1 rfl rfl (by exact rfl)) rfl (fun _ => ?_) | refine JO.ld (Ld.storeN rfl rfl rfl (by exact rfl) (by exact rfl)) rfl (fun _ => ?_))
            | (refine K.assign ?_; refine JO.q rfl rfl (Nat.le_of_ble_eq_true rfl) (Qt.assign rfl) ?_)
            | (refine K.indexAddr ?_; refine JO.q rfl rfl (Nat.le_of_ble_eq_true rfl) (Qt.indexR rfl rfl (by omega) (AY)) ?_)
            | (refine K.binOp ?_; first | refine JO.q rfl rfl (Nat.le_of_ble_eq_true rfl) (Qt.cmp rfl rfl (congrArg some u1)) ?_ | refine JO.q rfl rfl (Nat.le_of_ble_eq_true rfl) (Qt.cmp rfl rfl (congrArg some c1)) ?_ | refine JO.q rfl rfl (Nat.le_of_ble_eq_true rfl) (Qt.cmp rfl rfl rfl) ?_ | refine JO.q rfl rfl (Nat.le_of_ble_eq_true rfl) (Qt.eqB rfl rfl) ?_ | refine JO.q rfl rfl (Nat.le_of_ble_eq_true rfl) (Qt.neB rfl rfl) ?_)
            | (refine K.unOp ?_; refine JO.q rfl rfl (Nat.le_of_ble_eq_true rfl) (Qt.not rfl) ?_)
            | (refine K.bi ?_; first | refine JO.q rfl rfl (Nat.le_of_ble_eq_true rfl) (Qt.lenM rfl) ?_ | refine JO.q rfl rfl (Nat.le_of_ble_eq_true rfl) (Qt.lenR rfl) ?_ | refine JO.q rfl rfl (Nat.le_of_ble_eq_true rfl) (Qt.lenV rfl) ?_ | refine JO.q rfl rfl (Nat.le_of_ble_eq_true rfl) (Qt.lenO rfl) ?_)
            | (refine K.extract ?_; refine JO.q rfl rfl (Nat.le_of_ble_eq_true rfl) (Qt.extract rfl rfl) ?_)
            | (refine JO.alloc rfl (Nat.le_of_ble_eq_true rfl) ?_; intro _)
            | (refine JO.box rfl (Nat.le_of_ble_eq_true rfl) rfl rfl ?_; intro _)
            | (refine K.pick ?_; refine JO.q rfl rfl (Nat.le_of_ble_eq_true rfl) (Qt.pick rfl rfl) ?_)
            | (refine K.build ?_; refine JO.q rfl rfl (Nat.le_of_ble_eq_true rfl) (Qt.build rfl (by kernel_rfl)) ?_)
            | (refine K.lit ?_; first | (refine JO.lit0 rfl (Nat.le_of_ble_eq_true rfl) ?_; intro _) | (refine JO.lit1 rfl (Nat.le_of_ble_eq_true rfl) rfl rfl rfl rfl rfl ?_; intro _))
            | (refine K.nilCheck ?_; refine JO.q rfl rfl (Nat.le_of_ble_eq_true rfl) (Qt.nilCheck rfl rfl) ?_)
            | (refine K.field ?_; refine JO.q rfl rfl (Nat.le_of_ble_eq_true rfl) (Qt.field rfl rfl (by kernel_rfl) rfl) ?_)
            | (refine K.convert ?_; refine JO.q rfl rfl (Nat.le_of_ble_eq_true rfl) (Qt.conv rfl rfl) ?_)
            | refine JO.nil ?_
            | refine J.seq ?_
            | refine J.region ?_
            | refine J.block ?_
            | refine J.inBlock ?_
            | refine J.skip ?_
            | refine J.exit rfl ?_
            | refine J.cond_t rfl ?_
            | refine J.cond_f rfl ?_
            | refine JO.no rfl rfl (Nat.le_of_ble_eq_true rfl) ?_)
        exact J.ret Tryd.func7 rfl (.cons (.tmp rfl) .nil) true (by first | exact .agg (by repeat (first | exact .nil | refine .cons .refl ?_ | refine .cons .nil ?_ | refine .cons .snoc ?_ | refine .cons .clone ?_)) | exact .refl | exact .c .nil | exact .tup (by repeat (first | exact .nil | refine .cons (.agg (by repeat (first | exact .nil | refine .cons .refl ?_ | refine .cons .nil ?_ | refine .cons .snoc ?_ | refine .cons .clone ?_))) ?_ | refine .cons .refl ?_ | refine .cons (.c .nil) ?_ | refine .cons (.c .snoc) ?_ | refine .cons (.c .clone) ?_))) [] .nil rfl rfl
      | false =>
        repeat (first
            | (refine K.fieldAddr ?_; refine JO.q rfl rfl (Nat.le_of_ble_eq_true rfl) (Qt.fieldAddr rfl rfl) ?_)
            | (refine K.load ?_; first | refine JO.q rfl rfl (Nat.le_of_ble_eq_true rfl) (Qt.load1 rfl .el rfl) ?_ | refine JO.q rfl rfl (Nat.le_of_ble_eq_true rfl) (Qt.loadW rfl .el rfl) ?_ | refine JO.q rfl rfl (Nat.le_of_ble_eq_true rfl) (Qt.loadN rfl .el rfl rfl) ?_ | refine JO.q rfl rfl (Nat.le_of_ble_eq_true rfl) (Qt.load1b rfl (by exact rfl)) ?_ | refine JO.q rfl rfl (Nat.le_of_ble_eq_true rfl) (Qt.loadWb rfl (by exact rfl)) ?_ | refine JO.q rfl rfl (Nat.le_of_ble_eq_true rfl) (Qt.loadNb rfl (by exact rfl) (by exact rfl)) ?_)
            | (refine K.move ?_; refine JO.q rfl rfl (Nat.le_of_ble_eq_true rfl) (Qt.move rfl) ?_)
            | (refine K.store ?_; first | refine JO.ld (Ld.storeW rfl rfl rfl (by exact rfl) (by exact rfl)) rfl (fun _ => ?_) | refine JO.ld (Ld.store1 rfl rfl (by exact rfl)) rfl (fun _ => ?_) | refine JO.ld (Ld.storeN rfl rfl rfl (by exact rfl) (by exact rfl)) rfl (fun _ => ?_))
            | (refine K.assign ?_; refine JO.q rfl rfl (Nat.le_of_ble_eq_true rfl) (Qt.assign rfl) ?_)
            | (refine K.indexAddr ?_; refine JO.q rfl rfl (Nat.le_of_ble_eq_true rfl) (Qt.indexR rfl rfl (by omega) (AY)) ?_)
            | (refine K.binOp ?_; first | refine JO.q rfl rfl (Nat.le_of_ble_eq_true rfl) (Qt.cmp rfl rfl (congrArg some u1)) ?_ | refine JO.q rfl rfl (Nat.le_of_ble_eq_true rfl) (Qt.cmp rfl rfl (congrArg some c1)) ?_ | refine JO.q rfl rfl (Nat.le_of_ble_eq_true rfl) (Qt.ari rfl rfl rfl (w64 (by omega) (by omega))) ?_ | refine JO.q rfl rfl (Nat.le_of_ble_eq_true rfl) (Qt.cmp rfl rfl rfl) ?_ | refine JO.q rfl rfl (Nat.le_of_ble_eq_true rfl) (Qt.eqB rfl rfl) ?_ | refine JO.q rfl rfl (Nat.le_of_ble_eq_true rfl) (Qt.neB rfl rfl) ?_)
            | (refine K.unOp ?_; refine JO.q rfl rfl (Nat.le_of_ble_eq_true rfl) (Qt.not rfl) ?_)
            | (refine K.bi ?_; first | refine JO.q rfl rfl (Nat.le_of_ble_eq_true rfl) (Qt.lenM rfl) ?_ | refine JO.q rfl rfl (Nat.le_of_ble_eq_true rfl) (Qt.lenR rfl) ?_ | refine JO.q rfl rfl (Nat.le_of_ble_eq_true rfl) (Qt.lenV rfl) ?_ | refine JO.q rfl rfl (Nat.le_of_ble_eq_true rfl) (Qt.lenO rfl) ?_)
            | (refine K.extract ?_; refine JO.q rfl rfl (Nat.le_of_ble_eq_true rfl) (Qt.extract rfl rfl) ?_)
            | (refine JO.alloc rfl (Nat.le_of_ble_eq_true rfl) ?_; intro _)
            | (refine JO.box rfl (Nat.le_of_ble_eq_true rfl) rfl rfl ?_; intro _)
            | (refine K.pick ?_; refine JO.q rfl rfl (Nat.le_of_ble_eq_true rfl) (Qt.pick rfl rfl) ?_)
            | (refine K.build ?_; refine JO.q rfl rfl (Nat.le_of_ble_eq_true rfl) (Qt.build rfl (by kernel_rfl)) ?_)
            | (refine K.lit ?_; first | (refine JO.lit0 rfl (Nat.le_of_ble_eq_true rfl) ?_; intro _) | (refine JO.lit1 rfl (Nat.le_of_ble_eq_true rfl) rfl rfl rfl rfl rfl ?_; intro _))
            | (refine K.nilCheck ?_; refine JO.q rfl rfl (Nat.le_of_ble_eq_true rfl) (Qt.nilCheck rfl rfl) ?_)
            | (refine K.field ?_; refine JO.q rfl rfl (Nat.le_of_ble_eq_true rfl) (Qt.field rfl rfl (by kernel_rfl) rfl) ?_)
            | (refine K.convert ?_; refine JO.q rfl rfl (Nat.le_of_ble_eq_true rfl) (Qt.conv rfl rfl) ?_)
            | refine JO.nil ?_
            | refine J.seq ?_
            | refine J.region ?_
            | refine J.block ?_
            | refine J.inBlock ?_
            | refine J.skip ?_
            | refine J.exit rfl ?_
            | refine J.cond_t rfl ?_
            | refine J.cond_f rfl ?_
            | refine JO.no rfl rfl (Nat.le_of_ble_eq_true rfl) ?_)
        refine J.drop 0 ?_
        exact next2.weak ⟨rfl, rfl, rfl, rfl, rfl, rfl, rfl, rfl, trivial⟩
    obtain rfl : k = l.length := by omega
    have u1 : decide ((l.length : Int) < (l.length : Int)) = false := decide_eq_false (by omega)
    clear ih
    cases c2 : decide ((l.length : Int) > 40) with
    | true =>
      repeat (first
          | (refine K.fieldAddr ?_; refine JO.q rfl rfl (Nat.le_of_ble_eq_true rfl) (Qt.fieldAddr rfl rfl) ?_)
          | (refine K.load ?_; first | refine JO.q rfl rfl (Nat.le_of_ble_eq_true rfl) (Qt.load1 rfl .el rfl) ?_ | refine JO.q rfl rfl (Nat.le_of_ble_eq_true rfl) (Qt.loadW rfl .el rfl) ?_ | refine JO.q rfl rfl (Nat.le_of_ble_eq_true rfl) (Qt.loadN rfl .el rfl rfl) ?_ | refine JO.q rfl rfl (Nat.le_of_ble_eq_true rfl) (Qt.load1b rfl (by exact rfl)) ?_ | refine JO.q rfl rfl (Nat.le_of_ble_eq_true rfl) (Qt.loadWb rfl (by exact rfl)) ?_ | refine JO.q rfl rfl (Nat.le_of_ble_eq_true rfl) (Qt.loadNb rfl (by exact rfl) (by exact rfl)) ?_)
          | (refine K.move ?_; refine JO.q rfl rfl (Nat.le_of_ble_eq_true rfl) (Qt.move rfl) ?_)
          | (refine K.store ?_; first | refine JO.ld (Ld.storeW rfl rfl rfl (by exact rfl) (by exact rfl)) rfl (fun _ => ?_) | refine JO.ld (Ld.store1 rfl rfl (by exact rfl)) rfl (fun _ => ?_) | refine JO.ld (Ld.storeN rfl rfl rfl (by exact rfl) (by exact rfl)) rfl (fun _ => ?_))
          | (refine K.assign ?_; refine JO.q rfl rfl (Nat.le_of_ble_eq_true rfl) (Qt.assign rfl) ?_)
          | (refine K.binOp ?_; first | refine JO.q rfl rfl (Nat.le_of_ble_eq_true rfl) (Qt.cmp rfl rfl (congrArg some u1)) ?_ | refine JO.q rfl rfl (Nat.le_of_ble_eq_true rfl) (Qt.cmp rfl rfl (congrArg some c2)) ?_ | refine JO.q rfl rfl (Nat.le_of_ble_eq_true rfl) (Qt.cmp rfl rfl rfl) ?_ | refine JO.q rfl rfl (Nat.le_of_ble_eq_true rfl) (Qt.eqB rfl rfl) ?_ | refine JO.q rfl rfl (Nat.le_of_ble_eq_true rfl) (Qt.neB rfl rfl) ?_)
          | (refine K.unOp ?_; refine JO.q rfl rfl (Nat.le_of_ble_eq_true rfl) (Qt.not rfl) ?_)
          | (refine K.bi ?_; first | refine JO.q rfl rfl (Nat.le_of_ble_eq_true rfl) (Qt.lenM rfl) ?_ | refine JO.q rfl rfl (Nat.le_of_ble_eq_true rfl) (Qt.lenR rfl) ?_ | refine JO.q rfl rfl (Nat.le_of_ble_eq_true rfl) (Qt.lenV rfl) ?_ | refine JO.q rfl rfl (Nat.le_of_ble_eq_true rfl) (Qt.lenO rfl) ?_)
          | (refine K.extract ?_; refine JO.q rfl rfl (Nat.le_of_ble_eq_true rfl) (Qt.extract rfl rfl) ?_)
          | (refine JO.alloc rfl (Nat.le_of_ble_eq_true rfl) ?_; intro _)
          | (refine JO.box rfl (Nat.le_of_ble_eq_true rfl) rfl rfl ?_; intro _)
          | (refine K.pick ?_; refine JO.q rfl rfl (Nat.le_of_ble_eq_true rfl) (Qt.pick rfl rfl) ?_)
          | (refine K.build ?_; refine JO.q rfl rfl (Nat.le_of_ble_eq_true rfl) (Qt.build rfl (by kernel_rfl)) ?_)
          | (refine K.lit ?_; first | (refine JO.lit0 rfl (Nat.le_of_ble_eq_true rfl) ?_; intro _) | (refine JO.lit1 rfl (Nat.le_of_ble_eq_true rfl) rfl rfl rfl rfl rfl ?_; intro _))
          | (refine K.nilCheck ?_; refine JO.q rfl rfl (Nat.le_of_ble_eq_true rfl) (Qt.nilCheck rfl rfl) ?_)
          | (refine K.field ?_; refine JO.q rfl rfl (Nat.le_of_ble_eq_true rfl) (Qt.field rfl rfl (by kernel_rfl) rfl) ?_)
          | (refine K.convert ?_; refine JO.q rfl rfl (Nat.le_of_ble_eq_true rfl) (Qt.conv rfl rfl) ?_)
          | refine JO.nil ?_
          | refine J.seq ?_
          | refine J.region ?_
          | refine J.block ?_
          | refine J.inBlock ?_
          | refine J.skip ?_
          | refine J.exit rfl ?_
          | refine J.cond_t rfl ?_
          | refine J.cond_f rfl ?_
          | refine JO.no rfl rfl (Nat.le_of_ble_eq_true rfl) ?_)
      exact J.ret Tryd.func7 rfl (.cons (.tmp rfl) .nil) true (by first | exact .agg (by repeat (first | exact .nil | refine .cons .refl ?_ | refine .cons .nil ?_ | refine .cons .snoc ?_ | refine .cons .clone ?_)) | exact .refl | exact .c .nil | exact .tup (by repeat (first | exact .nil | refine .cons (.agg (by repeat (first | exact .nil | refine .cons .refl ?_ | refine .cons .nil ?_ | refine .cons .snoc ?_ | refine .cons .clone ?_))) ?_ | refine .cons .refl ?_ | refine .cons (.c .nil) ?_ | refine .cons (.c .snoc) ?_ | refine .cons (.c .clone) ?_))) [] .nil rfl rfl
    | false =>
      repeat (first
          | (refine K.fieldAddr ?_; refine JO.q rfl rfl (Nat.le_of_ble_eq_true rfl) (Qt.fieldAddr rfl rfl) ?_)
          | (refine K.load ?_; first | refine JO.q rfl rfl (Nat.le_of_ble_eq_true rfl) (Qt.load1 rfl .el rfl) ?_ | refine JO.q rfl rfl (Nat.le_of_ble_eq_true rfl) (Qt.loadW rfl .el rfl) ?_ | refine JO.q rfl rfl (Nat.le_of_ble_eq_true rfl) (Qt.loadN rfl .el rfl rfl) ?_ | refine JO.q rfl rfl (Nat.le_of_ble_eq_true rfl) (Qt.load1b rfl (by exact rfl)) ?_ | refine JO.q rfl rfl (Nat.le_of_ble_eq_true rfl) (Qt.loadWb rfl (by exact rfl)) ?_ | refine JO.q rfl rfl (Nat.le_of_ble_eq_true rfl) (Qt.loadNb rfl (by exact rfl) (by exact rfl)) ?_)
          | (refine K.move ?_; refine JO.q rfl rfl (Nat.le_of_ble_eq_true rfl) (Qt.move rfl) ?_)
          | (refine K.store ?_; first | refine JO.ld (Ld.storeW rfl rfl rfl (by exact rfl) (by exact rfl)) rfl (fun _ => ?_) | refine JO.ld (Ld.store1 rfl rfl (by exact rfl)) rfl (fun _ => ?_) | refine JO.ld (Ld.storeN rfl rfl rfl (by exact rfl) (by exact rfl)) rfl (fun _ => ?_))
          | (refine K.assign ?_; refine JO.q rfl rfl (Nat.le_of_ble_eq_true rfl) (Qt.assign rfl) ?_)
          | (refine K.binOp ?_; first | refine JO.q rfl rfl (Nat.le_of_ble_eq_true rfl) (Qt.cmp rfl rfl (congrArg some u1)) ?_ | refine JO.q rfl rfl (Nat.le_of_ble_eq_true rfl) (Qt.cmp rfl rfl (congrArg some c2)) ?_ | refine JO.q rfl rfl (Nat.le_of_ble_eq_true rfl) (Qt.ari rfl rfl rfl (w64 (by omega) (by omega))) ?_ | refine JO.q rfl rfl (Nat.le_of_ble_eq_true rfl) (Qt.cmp rfl rfl rfl) ?_ | refine JO.q rfl rfl (Nat.le_of_ble_eq_true rfl) (Qt.eqB rfl rfl) ?_ | refine JO.q rfl rfl (Nat.le_of_ble_eq_true rfl) (Qt.neB rfl rfl) ?_)
          | (refine K.unOp ?_; refine JO.q rfl rfl (Nat.le_of_ble_eq_true rfl) (Qt.not rfl) ?_)
          | (refine K.bi ?_; first | refine JO.q rfl rfl (Nat.le_of_ble_eq_true rfl) (Qt.lenM rfl) ?_ | refine JO.q rfl rfl (Nat.le_of_ble_eq_true rfl) (Qt.lenR rfl) ?_ | refine JO.q rfl rfl (Nat.le_of_ble_eq_true rfl) (Qt.lenV rfl) ?_ | refine JO.q rfl rfl (Nat.le_of_ble_eq_true rfl) (Qt.lenO rfl) ?_)
          | (refine K.extract ?_; refine JO.q rfl rfl (Nat.le_of_ble_eq_true rfl) (Qt.extract rfl rfl) ?_)
          | (refine JO.alloc rfl (Nat.le_of_ble_eq_true rfl) ?_; intro _)
          | (refine JO.box rfl (Nat.le_of_ble_eq_true rfl) rfl rfl ?_; intro _)
          | (refine K.pick ?_; refine JO.q rfl rfl (Nat.le_of_ble_eq_true rfl) (Qt.pick rfl rfl) ?_)
          | (refine K.build ?_; refine JO.q rfl rfl (Nat.le_of_ble_eq_true rfl) (Qt.build rfl (by kernel_rfl)) ?_)
          | (refine K.lit ?_; first | (refine JO.lit0 rfl (Nat.le_of_ble_eq_true rfl) ?_; intro _) | (refine JO.lit1 rfl (Nat.le_of_ble_eq_true rfl) rfl rfl rfl rfl rfl ?_; intro _))
          | (refine K.nilCheck ?_; refine JO.q rfl rfl (Nat.le_of_ble_eq_true rfl) (Qt.nilCheck rfl rfl) ?_)
          | (refine K.field ?_; refine JO.q rfl rfl (Nat.le_of_ble_eq_true rfl) (Qt.field rfl rfl (by kernel_rfl) rfl) ?_)
          | (refine K.convert ?_; refine JO.q rfl rfl (Nat.le_of_ble_eq_true rfl) (Qt.conv rfl rfl) ?_)
          | refine JO.nil ?_
          | refine J.seq ?_
          | refine J.region ?_
          | refine J.block ?_
          | refine J.inBlock ?_
          | refine J.skip ?_
          | refine J.exit rfl ?_
          | refine J.cond_t rfl ?_
          | refine J.cond_f rfl ?_
          | refine JO.no rfl rfl (Nat.le_of_ble_eq_true rfl) ?_)
      exact next.weak ⟨rfl, rfl, rfl, rfl, trivial⟩
  obtain rfl : i = p.length := by omega
  have t1 : decide ((p.length : Int) < (p.length : Int)) = false := decide_eq_false (by omega)
  clear ih
  repeat (first
      | (refine K.fieldAddr ?_; refine JO.q rfl rfl (Nat.le_of_ble_eq_true rfl) (Qt.fieldAddr rfl rfl) ?_)
      | (refine K.load ?_; first | refine JO.q rfl rfl (Nat.le_of_ble_eq_true rfl) (Qt.load1 rfl .el rfl) ?_ | refine JO.q rfl rfl (Nat.le_of_ble_eq_true rfl) (Qt.loadW rfl .el rfl) ?_ | refine JO.q rfl rfl (Nat.le_of_ble_eq_true rfl) (Qt.loadN rfl .el rfl rfl) ?_ | refine JO.q rfl rfl (Nat.le_of_ble_eq_true rfl) (Qt.load1b rfl (by exact rfl)) ?_ | refine JO.q rfl rfl (Nat.le_of_ble_eq_true rfl) (Qt.loadWb rfl (by exact rfl)) ?_ | refine JO.q rfl rfl (Nat.le_of_ble_eq_true rfl) (Qt.loadNb rfl (by exact rfl) (by exact rfl)) ?_)
      | (refine K.move ?_; refine JO.q rfl rfl (Nat.le_of_ble_eq_true rfl) (Qt.move rfl) ?_)
      | (refine K.store ?_; first | refine JO.ld (Ld.storeW rfl rfl rfl (by exact rfl) (by exact rfl)) rfl (fun _ => ?_) | refine JO.ld (Ld.store1 rfl rfl (by exact rfl)) rfl (fun _ => ?_) | refine JO.ld (Ld.storeN rfl rfl rfl (by exact rfl) (by exact rfl)) rfl (fun _ => ?_))
      | (refine K.assign ?_; refine JO.q rfl rfl (Nat.le_of_ble_eq_true rfl) (Qt.assign rfl) ?_)
      | (refine K.binOp ?_; first | refine JO.q rfl rfl (Nat.le_of_ble_eq_true rfl) (Qt.cmp rfl rfl (congrArg some t1)) ?_ | refine JO.q rfl rfl (Nat.le_of_ble_eq_true rfl) (Qt.cmp rfl rfl rfl) ?_ | refine JO.q rfl rfl (Nat.le_of_ble_eq_true rfl) (Qt.eqB rfl rfl) ?_ | refine JO.q rfl rfl (Nat.le_of_ble_eq_true rfl) (Qt.neB rfl rfl) ?_)
      | (refine K.unOp ?_; refine JO.q rfl rfl (Nat.le_of_ble_eq_true rfl) (Qt.not rfl) ?_)
      | (refine K.bi ?_; first | refine JO.q rfl rfl (Nat.le_of_ble_eq_true rfl) (Qt.lenM rfl) ?_ | refine JO.q rfl rfl (Nat.le_of_ble_eq_true rfl) (Qt.lenR rfl) ?_ | refine JO.q rfl rfl (Nat.le_of_ble_eq_true rfl) (Qt.lenV rfl) ?_ | refine JO.q rfl rfl (Nat.le_of_ble_eq_true rfl) (Qt.lenO rfl) ?_)
      | (refine K.extract ?_; refine JO.q rfl rfl (Nat.le_of_ble_eq_true rfl) (Qt.extract rfl rfl) ?_)
      | (refine JO.alloc rfl (Nat.le_of_ble_eq_true rfl) ?_; intro _)
      | (refine JO.box rfl (Nat.le_of_ble_eq_true rfl) rfl rfl ?_; intro _)
      | (refine K.pick ?_; refine JO.q rfl rfl (Nat.le_of_ble_eq_true rfl) (Qt.pick rfl rfl) ?_)
      | (refine K.build ?_; refine JO.q rfl rfl (Nat.le_of_ble_eq_true rfl) (Qt.build rfl (by kernel_rfl)) ?_)
      | (refine K.lit ?_; first | (refine JO.lit0 rfl (Nat.le_of_ble_eq_true rfl) ?_; intro _) | (refine JO.lit1 rfl (Nat.le_of_ble_eq_true rfl) rfl rfl rfl rfl rfl ?_; intro _))
      | (refine K.nilCheck ?_; refine JO.q rfl rfl (Nat.le_of_ble_eq_true rfl) (Qt.nilCheck rfl rfl) ?_)
      | (refine K.field ?_; refine JO.q rfl rfl (Nat.le_of_ble_eq_true rfl) (Qt.field rfl rfl (by kernel_rfl) rfl) ?_)
      | (refine K.convert ?_; refine JO.q rfl rfl (Nat.le_of_ble_eq_true rfl) (Qt.conv rfl rfl) ?_)
      | refine JO.nil ?_
      | refine J.seq ?_
      | refine J.region ?_
      | refine J.block ?_
      | refine J.inBlock ?_
      | refine J.skip ?_
      | refine J.exit rfl ?_
      | refine J.cond_t rfl ?_
      | refine J.cond_f rfl ?_
      | refine JO.no rfl rfl (Nat.le_of_ble_eq_true rfl) ?_)
  exact J.ret Tryd.func7 rfl (.cons (.tmp rfl) .nil) _ (by first | exact .agg (by repeat (first | exact .nil | refine .cons .refl ?_ | refine .cons .nil ?_ | refine .cons .snoc ?_ | refine .cons .clone ?_)) | exact .refl | exact .c .nil | exact .tup (by repeat (first | exact .nil | refine .cons (.agg (by repeat (first | exact .nil | refine .cons .refl ?_ | refine .cons .nil ?_ | refine .cons .snoc ?_ | refine .cons .clone ?_))) ?_ | refine .cons .refl ?_ | refine .cons (.c .nil) ?_ | refine .cons (.c .snoc) ?_ | refine .cons (.c .clone) ?_))) [] .nil rfl rfl
theorem t_wordsAlive : PureW Tb Tryd.prog 6 [] (.c (bI true)) := by
  have C1 := c_wOp ⟨9, 0, 0, 0, [⟨false, 1, 0⟩], true⟩
  have C2 := c_wResult ⟨1, -1, 7, true, 0⟩ (by unfold isI; simp)
  have e1 : (Wd.op ⟨9, 0, 0, 0, [⟨false, 1, 0⟩], true⟩ == [115, 101, 108, 101, 99, 116, 32, 124, 32, 114, 101, 99, 118, 32, 49, 32, 124, 32, 101, 108, 115, 101]) = true := by decide +kernel
  have e2 : (Wd.res ⟨1, -1, 7, true, 0⟩ == [100, 111, 110, 101, 32, 55, 32, 111, 107, 32, 48]) = true := by decide +kernel
  refine ConW.intro Tryd.func6 rfl rfl rfl (fun ok e hT => ?_)
  have hW : ∀ w, Keeps [] e w → Tb w := fun w k => hT.grows k
  repeat (first
      | (refine K.fieldAddr ?_; refine JO.q rfl rfl (Nat.le_of_ble_eq_true rfl) (Qt.fieldAddr rfl rfl) ?_)
      | (refine K.load ?_; first | refine JO.q rfl rfl (Nat.le_of_ble_eq_true rfl) (Qt.load1 rfl .el rfl) ?_ | refine JO.q rfl rfl (Nat.le_of_ble_eq_true rfl) (Qt.loadW rfl .el rfl) ?_ | refine JO.q rfl rfl (Nat.le_of_ble_eq_true rfl) (Qt.loadN rfl .el rfl rfl) ?_ | refine JO.q rfl rfl (Nat.le_of_ble_eq_true rfl) (Qt.load1b rfl (by exact rfl)) ?_ | refine JO.q rfl rfl (Nat.le_of_ble_eq_true rfl) (Qt.loadWb rfl (by exact rfl)) ?_ | refine JO.q rfl rfl (Nat.le_of_ble_eq_true rfl) (Qt.loadNb rfl (by exact rfl) (by exact rfl)) ?_)
      | (refine K.move ?_; refine JO.q rfl rfl (Nat.le_of_ble_eq_true rfl) (Qt.move rfl) ?_)
      | (refine K.store ?_; first | refine JO.ld (Ld.storeW rfl rfl rfl (by exact rfl) (by exact rfl)) rfl (fun _ => ?_) | refine JO.ld (Ld.store1 rfl rfl (by exact rfl)) rfl (fun _ => ?_) | refine JO.ld (Ld.storeN rfl rfl rfl (by exact rfl) (by exact rfl)) rfl (fun _ => ?_))
      | (refine K.assign ?_; refine JO.q rfl rfl (Nat.le_of_ble_eq_true rfl) (Qt.assign rfl) ?_)
      | (refine K.binOp ?_; first | refine JO.q rfl rfl (Nat.le_of_ble_eq_true rfl) ((Qt.strE rfl rfl).eq (congrArg (fun z => D.c (.v (.bool z))) e1)) ?_ | refine JO.q rfl rfl (Nat.le_of_ble_eq_true rfl) ((Qt.strE rfl rfl).eq (congrArg (fun z => D.c (.v (.bool z))) e2)) ?_ | refine JO.q rfl rfl (Nat.le_of_ble_eq_true rfl) (Qt.cmp rfl rfl rfl) ?_ | refine JO.q rfl rfl (Nat.le_of_ble_eq_true rfl) (Qt.eqB rfl rfl) ?_ | refine JO.q rfl rfl (Nat.le_of_ble_eq_true rfl) (Qt.neB rfl rfl) ?_)
      | (refine K.call ?_; first | (refine JO.ld (Ld.pureW hW (C1) (Nat.le_of_ble_eq_true rfl) rfl ?_) rfl (fun _ => ?_); focus ((repeat (first | exact LeDs.nil | refine LeDs.cons (LeD.agg (by repeat (first | exact .nil | refine .cons .refl ?_ | refine .cons .nil ?_ | refine .cons .snoc ?_ | refine .cons .clone ?_))) ?_ | refine LeDs.cons LeD.refl ?_ | refine LeDs.cons (LeD.c LeA.nil) ?_ | refine LeDs.cons (LeD.c LeA.snoc) ?_ | refine LeDs.cons (LeD.c LeA.clone) ?_)); done)) | (refine JO.ld (Ld.pureW hW (C2) (Nat.le_of_ble_eq_true rfl) rfl ?_) rfl (fun _ => ?_); focus ((repeat (first | exact LeDs.nil | refine LeDs.cons (LeD.agg (by repeat (first | exact .nil | refine .cons .refl ?_ | refine .cons .nil ?_ | refine .cons .snoc ?_ | refine .cons .clone ?_))) ?_ | refine LeDs.cons LeD.refl ?_ | refine LeDs.cons (LeD.c LeA.nil) ?_ | refine LeDs.cons (LeD.c LeA.snoc) ?_ | refine LeDs.cons (LeD.c LeA.clone) ?_)); done)))
      | (refine K.unOp ?_; refine JO.q rfl rfl (Nat.le_of_ble_eq_true rfl) (Qt.not rfl) ?_)
      | (refine K.bi ?_; first | refine JO.q rfl rfl (Nat.le_of_ble_eq_true rfl) (Qt.lenM rfl) ?_ | refine JO.q rfl rfl (Nat.le_of_ble_eq_true rfl) (Qt.lenR rfl) ?_ | refine JO.q rfl rfl (Nat.le_of_ble_eq_true rfl) (Qt.lenV rfl) ?_ | refine JO.q rfl rfl (Nat.le_of_ble_eq_true rfl) (Qt.lenO rfl) ?_)
      | (refine K.extract ?_; refine JO.q rfl rfl (Nat.le_of_ble_eq_true rfl) (Qt.extract rfl rfl) ?_)
      | (refine JO.alloc rfl (Nat.le_of_ble_eq_true rfl) ?_; intro _)
      | (refine JO.box rfl (Nat.le_of_ble_eq_true rfl) rfl rfl ?_; intro _)
      | (refine K.pick ?_; refine JO.q rfl rfl (Nat.le_of_ble_eq_true rfl) (Qt.pick rfl rfl) ?_)
      | (refine K.build ?_; refine JO.q rfl rfl (Nat.le_of_ble_eq_true rfl) (Qt.build rfl (by kernel_rfl)) ?_)
      | (refine K.lit ?_; first | (first | (refine JO.ld (Ld.lit0R (Nat.le_of_ble_eq_true rfl)) rfl (fun _ => ?_)) | (refine JO.ld (Ld.lit1R (Nat.le_of_ble_eq_true rfl) rfl rfl rfl rfl rfl) rfl (fun _ => ?_))) | (refine JO.lit0 rfl (Nat.le_of_ble_eq_true rfl) ?_; intro _) | (refine JO.lit1 rfl (Nat.le_of_ble_eq_true rfl) rfl rfl rfl rfl rfl ?_; intro _))
      | (refine K.nilCheck ?_; refine JO.q rfl rfl (Nat.le_of_ble_eq_true rfl) (Qt.nilCheck rfl rfl) ?_)
      | (refine K.field ?_; refine JO.q rfl rfl (Nat.le_of_ble_eq_true rfl) (Qt.field rfl rfl (by kernel_rfl) rfl) ?_)
      | (refine K.convert ?_; refine JO.q rfl rfl (Nat.le_of_ble_eq_true rfl) (Qt.conv rfl rfl) ?_)
      | refine JO.nil ?_
      | refine J.seq ?_
      | refine J.region ?_
      | refine J.block ?_
      | refine J.inBlock ?_
      | refine J.skip ?_
      | refine J.exit rfl ?_
      | refine J.cond_t rfl ?_
      | refine J.cond_f rfl ?_
      | refine JO.no rfl rfl (Nat.le_of_ble_eq_true rfl) ?_)
  exact J.ret Tryd.func6 rfl (.cons (.tmp rfl) .nil) () (by first | exact .agg (by repeat (first | exact .nil | refine .cons .refl ?_ | refine .cons .nil ?_ | refine .cons .snoc ?_ | refine .cons .clone ?_)) | exact .refl | exact .c .nil | exact .tup (by repeat (first | exact .nil | refine .cons (.agg (by repeat (first | exact .nil | refine .cons .refl ?_ | refine .cons .nil ?_ | refine .cons .snoc ?_ | refine .cons .clone ?_))) ?_ | refine .cons .refl ?_ | refine .cons (.c .nil) ?_ | refine .cons (.c .snoc) ?_ | refine .cons (.c .clone) ?_))) [] .nil rfl rfl
set_option maxHeartbeats 2000000 in
theorem c_WordsTells (p : List (List Pn.Op)) (o : Pn.Op) (r : Md.Res) (h1 : p.length ≤ 9223372036854775807) (h2 : ∀ l ∈ p, l.length ≤ 9223372036854775807) (hr : isI r.code ∧ isI r.cs ∧ isI r.v ∧ isI r.n) :
    PureW Tb Tryd.prog 3 [.c (opsA p), .agg (eOp o), .agg (eRes r)] (.c (bI true)) := by
  have CA := t_wordsAlive
  have CG := t_great p h1 h2
  have C1 := c_wText p
  have C2 := t_rText p
  have C3 := c_wOp o
  have C4 := t_rOp o
  have C5 := c_wResult r hr
  have C6 := t_rResult r hr
  have e1 : (Wd.text p == Wd.text p) = true := by simp
  have e2 : (Wd.op o == Wd.op o) = true := by simp
  have e3 : (Wd.res r == Wd.res r) = true := by simp
  refine ConW.intro Tryd.func3 rfl rfl rfl (fun ok e hT => ?_)
  have hW : ∀ w, Keeps [] e w → Tb w := fun w k => hT.grows k
  repeat (first
      | (refine K.fieldAddr ?_; refine JO.q rfl rfl (Nat.le_of_ble_eq_true rfl) (Qt.fieldAddr rfl rfl) ?_)
      | (refine K.load ?_; first | refine JO.q rfl rfl (Nat.le_of_ble_eq_true rfl) (Qt.load1 rfl .el rfl) ?_ | refine JO.q rfl rfl (Nat.le_of_ble_eq_true rfl) (Qt.loadW rfl .el rfl) ?_ | refine JO.q rfl rfl (Nat.le_of_ble_eq_true rfl) (Qt.loadN rfl .el rfl rfl) ?_ | refine JO.q rfl rfl (Nat.le_of_ble_eq_true rfl) (Qt.load1b rfl (by exact rfl)) ?_ | refine JO.q rfl rfl (Nat.le_of_ble_eq_true rfl) (Qt.loadWb rfl (by exact rfl)) ?_ | refine JO.q rfl rfl (Nat.le_of_ble_eq_true rfl) (Qt.loadNb rfl (by exact rfl) (by exact rfl)) ?_)
      | (refine K.move ?_; refine JO.q rfl rfl (Nat.le_of_ble_eq_true rfl) (Qt.move rfl) ?_)
      | (refine K.store ?_; first | refine JO.ld (Ld.storeW rfl rfl rfl (by exact rfl) (by exact rfl)) rfl (fun _ => ?_) | refine JO.ld (Ld.store1 rfl rfl (by exact rfl)) rfl (fun _ => ?_) | refine JO.ld (Ld.storeN rfl rfl rfl (by exact rfl) (by exact rfl)) rfl (fun _ => ?_))
      | (refine K.assign ?_; refine JO.q rfl rfl (Nat.le_of_ble_eq_true rfl) (Qt.assign rfl) ?_)
      | (refine K.binOp ?_; first | refine JO.q rfl rfl (Nat.le_of_ble_eq_true rfl) (Qt.cmp rfl rfl rfl) ?_ | refine JO.q rfl rfl (Nat.le_of_ble_eq_true rfl) (Qt.eqB rfl rfl) ?_ | refine JO.q rfl rfl (Nat.le_of_ble_eq_true rfl) (Qt.neB rfl rfl) ?_)
      | (refine K.call ?_; first | (refine JO.ld (Ld.pureW hW (CA) (Nat.le_of_ble_eq_true rfl) rfl ?_) rfl (fun _ => ?_); focus ((repeat (first | exact LeDs.nil | refine LeDs.cons (LeD.agg (by repeat (first | exact .nil | refine .cons .refl ?_ | refine .cons .nil ?_ | refine .cons .snoc ?_ | refine .cons .clone ?_))) ?_ | refine LeDs.cons LeD.refl ?_ | refine LeDs.cons (LeD.c LeA.nil) ?_ | refine LeDs.cons (LeD.c LeA.snoc) ?_ | refine LeDs.cons (LeD.c LeA.clone) ?_)); done)))
      | (refine K.unOp ?_; refine JO.q rfl rfl (Nat.le_of_ble_eq_true rfl) (Qt.not rfl) ?_)
      | (refine K.bi ?_; first | refine JO.q rfl rfl (Nat.le_of_ble_eq_true rfl) (Qt.lenM rfl) ?_ | refine JO.q rfl rfl (Nat.le_of_ble_eq_true rfl) (Qt.lenR rfl) ?_ | refine JO.q rfl rfl (Nat.le_of_ble_eq_true rfl) (Qt.lenV rfl) ?_ | refine JO.q rfl rfl (Nat.le_of_ble_eq_true rfl) (Qt.lenO rfl) ?_)
      | (refine K.extract ?_; refine JO.q rfl rfl (Nat.le_of_ble_eq_true rfl) (Qt.extract rfl rfl) ?_)
      | (refine JO.alloc rfl (Nat.le_of_ble_eq_true rfl) ?_; intro _)
      | (refine JO.box rfl (Nat.le_of_ble_eq_true rfl) rfl rfl ?_; intro _)
      | (refine K.pick ?_; refine JO.q rfl rfl (Nat.le_of_ble_eq_true rfl) (Qt.pick rfl rfl) ?_)
      | (refine K.build ?_; refine JO.q rfl rfl (Nat.le_of_ble_eq_true rfl) (Qt.build rfl (by kernel_rfl)) ?_)
      | (refine K.lit ?_; first | (refine JO.lit0 rfl (Nat.le_of_ble_eq_true rfl) ?_; intro _) | (refine JO.lit1 rfl (Nat.le_of_ble_eq_true rfl) rfl rfl rfl rfl rfl ?_; intro _))
      | (refine K.nilCheck ?_; refine JO.q rfl rfl (Nat.le_of_ble_eq_true rfl) (Qt.nilCheck rfl rfl) ?_)
      | (refine K.field ?_; refine JO.q rfl rfl (Nat.le_of_ble_eq_true rfl) (Qt.field rfl rfl (by kernel_rfl) rfl) ?_)
      | (refine K.convert ?_; refine JO.q rfl rfl (Nat.le_of_ble_eq_true rfl) (Qt.conv rfl rfl) ?_)
      | refine JO.nil ?_
      | refine J.seq ?_
      | refine J.region ?_
      | refine J.block ?_
      | refine J.inBlock ?_
      | refine J.skip ?_
      | refine J.exit rfl ?_
      | refine J.cond_t rfl ?_
      | refine J.cond_f rfl ?_
      | refine JO.no rfl rfl (Nat.le_of_ble_eq_true rfl) ?_)
  refine K.call ?_
  refine JO.ld (Ld.call CG (Nat.le_of_ble_eq_true rfl) rfl (.cons .refl .nil) (Ll := []) (Lr := _) rfl) rfl (fun g => ?_)
  simp only [List.nil_append]
  cases g with
  | true =>
    repeat (first
        | (refine K.fieldAddr ?_; refine JO.q rfl rfl (Nat.le_of_ble_eq_true rfl) (Qt.fieldAddr rfl rfl) ?_)
        | (refine K.load ?_; first | refine JO.q rfl rfl (Nat.le_of_ble_eq_true rfl) (Qt.load1 rfl .el rfl) ?_ | refine JO.q rfl rfl (Nat.le_of_ble_eq_true rfl) (Qt.loadW rfl .el rfl) ?_ | refine JO.q rfl rfl (Nat.le_of_ble_eq_true rfl) (Qt.loadN rfl .el rfl rfl) ?_ | refine JO.q rfl rfl (Nat.le_of_ble_eq_true rfl) (Qt.load1b rfl (by exact rfl)) ?_ | refine JO.q rfl rfl (Nat.le_of_ble_eq_true rfl) (Qt.loadWb rfl (by exact rfl)) ?_ | refine JO.q rfl rfl (Nat.le_of_ble_eq_true rfl) (Qt.loadNb rfl (by exact rfl) (by exact rfl)) ?_)
        | (refine K.move ?_; refine JO.q rfl rfl (Nat.le_of_ble_eq_true rfl) (Qt.move rfl) ?_)
        | (refine K.store ?_; first | refine JO.ld (Ld.storeW rfl rfl rfl (by exact rfl) (by exact rfl)) rfl (fun _ => ?_) | refine JO.ld (Ld.store1 rfl rfl (by exact rfl)) rfl (fun _ => ?_) | refine JO.ld (Ld.storeN rfl rfl rfl (by exact rfl) (by exact rfl)) rfl (fun _ => ?_))
        | (refine K.assign ?_; refine JO.q rfl rfl (Nat.le_of_ble_eq_true rfl) (Qt.assign rfl) ?_)
        | (refine K.binOp ?_; first | refine JO.q rfl rfl (Nat.le_of_ble_eq_true rfl) (Qt.cmp rfl rfl rfl) ?_ | refine JO.q rfl rfl (Nat.le_of_ble_eq_true rfl) (Qt.eqB rfl rfl) ?_ | refine JO.q rfl rfl (Nat.le_of_ble_eq_true rfl) (Qt.neB rfl rfl) ?_)
        | (refine K.unOp ?_; refine JO.q rfl rfl (Nat.le_of_ble_eq_true rfl) (Qt.not rfl) ?_)
        | (refine K.bi ?_; first | refine JO.q rfl rfl (Nat.le_of_ble_eq_true rfl) (Qt.lenM rfl) ?_ | refine JO.q rfl rfl (Nat.le_of_ble_eq_true rfl) (Qt.lenR rfl) ?_ | refine JO.q rfl rfl (Nat.le_of_ble_eq_true rfl) (Qt.lenV rfl) ?_ | refine JO.q rfl rfl (Nat.le_of_ble_eq_true rfl) (Qt.lenO rfl) ?_)
        | (refine K.extract ?_; refine JO.q rfl rfl (Nat.le_of_ble_eq_true rfl) (Qt.extract rfl rfl) ?_)
        | (refine JO.alloc rfl (Nat.le_of_ble_eq_true rfl) ?_; intro _)
        | (refine JO.box rfl (Nat.le_of_ble_eq_true rfl) rfl rfl ?_; intro _)
        | (refine K.pick ?_; refine JO.q rfl rfl (Nat.le_of_ble_eq_true rfl) (Qt.pick rfl rfl) ?_)
        | (refine K.build ?_; refine JO.q rfl rfl (Nat.le_of_ble_eq_true rfl) (Qt.build rfl (by kernel_rfl)) ?_)
        | (refine K.lit ?_; first | (refine JO.lit0 rfl (Nat.le_of_ble_eq_true rfl) ?_; intro _) | (refine JO.lit1 rfl (Nat.le_of_ble_eq_true rfl) rfl rfl rfl rfl rfl ?_; intro _))
        | (refine K.nilCheck ?_; refine JO.q rfl rfl (Nat.le_of_ble_eq_true rfl) (Qt.nilCheck rfl rfl) ?_)
        | (refine K.field ?_; refine JO.q rfl rfl (Nat.le_of_ble_eq_true rfl) (Qt.field rfl rfl (by kernel_rfl) rfl) ?_)
        | (refine K.convert ?_; refine JO.q rfl rfl (Nat.le_of_ble_eq_true rfl) (Qt.conv rfl rfl) ?_)
        | refine JO.nil ?_
        | refine J.seq ?_
        | refine J.region ?_
        | refine J.block ?_
        | refine J.inBlock ?_
        | refine J.skip ?_
        | refine J.exit rfl ?_
        | refine J.cond_t rfl ?_
        | refine J.cond_f rfl ?_
        | refine JO.no rfl rfl (Nat.le_of_ble_eq_true rfl) ?_)
    exact J.ret Tryd.func3 rfl (.cons (.tmp rfl) .nil) () (by first | exact .agg (by repeat (first | exact .nil | refine .cons .refl ?_ | refine .cons .nil ?_ | refine .cons .snoc ?_ | refine .cons .clone ?_)) | exact .refl | exact .c .nil | exact .tup (by repeat (first | exact .nil | refine .cons (.agg (by repeat (first | exact .nil | refine .cons .refl ?_ | refine .cons .nil ?_ | refine .cons .snoc ?_ | refine .cons .clone ?_))) ?_ | refine .cons .refl ?_ | refine .cons (.c .nil) ?_ | refine .cons (.c .snoc) ?_ | refine .cons (.c .clone) ?_))) [] .nil rfl rfl
  | false =>
  cases c1 : decide ((o.cases.length : Int) > 100) with
  | true =>
    repeat (first
        | (refine K.fieldAddr ?_; refine JO.q rfl rfl (Nat.le_of_ble_eq_true rfl) (Qt.fieldAddr rfl rfl) ?_)
        | (refine K.load ?_; first | refine JO.q rfl rfl (Nat.le_of_ble_eq_true rfl) (Qt.load1 rfl .el rfl) ?_ | refine JO.q rfl rfl (Nat.le_of_ble_eq_true rfl) (Qt.loadW rfl .el rfl) ?_ | refine JO.q rfl rfl (Nat.le_of_ble_eq_true rfl) (Qt.loadN rfl .el rfl rfl) ?_ | refine JO.q rfl rfl (Nat.le_of_ble_eq_true rfl) (Qt.load1b rfl (by exact rfl)) ?_ | refine JO.q rfl rfl (Nat.le_of_ble_eq_true rfl) (Qt.loadWb rfl (by exact rfl)) ?_ | refine JO.q rfl rfl (Nat.le_of_ble_eq_true rfl) (Qt.loadNb rfl (by exact rfl) (by exact rfl)) ?_)
        | (refine K.move ?_; refine JO.q rfl rfl (Nat.le_of_ble_eq_true rfl) (Qt.move rfl) ?_)
        | (refine K.store ?_; first | refine JO.ld (Ld.storeW rfl rfl rfl (by exact rfl) (by exact rfl)) rfl (fun _ => ?_) | refine JO.ld (Ld.store1 rfl rfl (by exact rfl)) rfl (fun _ => ?_) | refine JO.ld (Ld.storeN rfl rfl rfl (by exact rfl) (by exact rfl)) rfl (fun _ => ?_))
        | (refine K.assign ?_; refine JO.q rfl rfl (Nat.le_of_ble_eq_true rfl) (Qt.assign rfl) ?_)
        | (refine K.binOp ?_; first | refine JO.q rfl rfl (Nat.le_of_ble_eq_true rfl) (Qt.cmp rfl rfl (congrArg some c1)) ?_ | refine JO.q rfl rfl (Nat.le_of_ble_eq_true rfl) (Qt.cmp rfl rfl rfl) ?_ | refine JO.q rfl rfl (Nat.le_of_ble_eq_true rfl) (Qt.eqB rfl rfl) ?_ | refine JO.q rfl rfl (Nat.le_of_ble_eq_true rfl) (Qt.neB rfl rfl) ?_)
        | (refine K.unOp ?_; refine JO.q rfl rfl (Nat.le_of_ble_eq_true rfl) (Qt.not rfl) ?_)
        | (refine K.bi ?_; first | refine JO.q rfl rfl (Nat.le_of_ble_eq_true rfl) (Qt.lenM rfl) ?_ | refine JO.q rfl rfl (Nat.le_of_ble_eq_true rfl) (Qt.lenR rfl) ?_ | refine JO.q rfl rfl (Nat.le_of_ble_eq_true rfl) (Qt.lenV rfl) ?_ | refine JO.q rfl rfl (Nat.le_of_ble_eq_true rfl) (Qt.lenO rfl) ?_)
        | (refine K.extract ?_; refine JO.q rfl rfl (Nat.le_of_ble_eq_true rfl) (Qt.extract rfl rfl) ?_)
        | (refine JO.alloc rfl (Nat.le_of_ble_eq_true rfl) ?_; intro _)
        | (refine JO.box rfl (Nat.le_of_ble_eq_true rfl) rfl rfl ?_; intro _)
        | (refine K.pick ?_; refine JO.q rfl rfl (Nat.le_of_ble_eq_true rfl) (Qt.pick rfl rfl) ?_)
        | (refine K.build ?_; refine JO.q rfl rfl (Nat.le_of_ble_eq_true rfl) (Qt.build rfl (by kernel_rfl)) ?_)
        | (refine K.lit ?_; first | (refine JO.lit0 rfl (Nat.le_of_ble_eq_true rfl) ?_; intro _) | (refine JO.lit1 rfl (Nat.le_of_ble_eq_true rfl) rfl rfl rfl rfl rfl ?_; intro _))
        | (refine K.nilCheck ?_; refine JO.q rfl rfl (Nat.le_of_ble_eq_true rfl) (Qt.nilCheck rfl rfl) ?_)
        | (refine K.field ?_; refine JO.q rfl rfl (Nat.le_of_ble_eq_true rfl) (Qt.field rfl rfl (by kernel_rfl) rfl) ?_)
        | (refine K.convert ?_; refine JO.q rfl rfl (Nat.le_of_ble_eq_true rfl) (Qt.conv rfl rfl) ?_)
        | refine JO.nil ?_
        | refine J.seq ?_
        | refine J.region ?_
        | refine J.block ?_
        | refine J.inBlock ?_
        | refine J.skip ?_
        | refine J.exit rfl ?_
        | refine J.cond_t rfl ?_
        | refine J.cond_f rfl ?_
        | refine JO.no rfl rfl (Nat.le_of_ble_eq_true rfl) ?_)
    exact J.ret Tryd.func3 rfl (.cons (.tmp rfl) .nil) () (by first | exact .agg (by repeat (first | exact .nil | refine .cons .refl ?_ | refine .cons .nil ?_ | refine .cons .snoc ?_ | refine .cons .clone ?_)) | exact .refl | exact .c .nil | exact .tup (by repeat (first | exact .nil | refine .cons (.agg (by repeat (first | exact .nil | refine .cons .refl ?_ | refine .cons .nil ?_ | refine .cons .snoc ?_ | refine .cons .clone ?_))) ?_ | refine .cons .refl ?_ | refine .cons (.c .nil) ?_ | refine .cons (.c .snoc) ?_ | refine .cons (.c .clone) ?_))) [] .nil rfl rfl
  | false =>
  repeat (first
      | (refine K.fieldAddr ?_; refine JO.q rfl rfl (Nat.le_of_ble_eq_true rfl) (Qt.fieldAddr rfl rfl) ?_)
      | (refine K.load ?_; first | refine JO.q rfl rfl (Nat.le_of_ble_eq_true rfl) (Qt.load1 rfl .el rfl) ?_ | refine JO.q rfl rfl (Nat.le_of_ble_eq_true rfl) (Qt.loadW rfl .el rfl) ?_ | refine JO.q rfl rfl (Nat.le_of_ble_eq_true rfl) (Qt.loadN rfl .el rfl rfl) ?_ | refine JO.q rfl rfl (Nat.le_of_ble_eq_true rfl) (Qt.load1b rfl (by exact rfl)) ?_ | refine JO.q rfl rfl (Nat.le_of_ble_eq_true rfl) (Qt.loadWb rfl (by exact rfl)) ?_ | refine JO.q rfl rfl (Nat.le_of_ble_eq_true rfl) (Qt.loadNb rfl (by exact rfl) (by exact rfl)) ?_)
      | (refine K.move ?_; refine JO.q rfl rfl (Nat.le_of_ble_eq_true rfl) (Qt.move rfl) ?_)
      | (refine K.store ?_; first | refine JO.ld (Ld.storeW rfl rfl rfl (by exact rfl) (by exact rfl)) rfl (fun _ => ?_) | refine JO.ld (Ld.store1 rfl rfl (by exact rfl)) rfl (fun _ => ?_) | refine JO.ld (Ld.storeN rfl rfl rfl (by exact rfl) (by exact rfl)) rfl (fun _ => ?_))
      | (refine K.assign ?_; refine JO.q rfl rfl (Nat.le_of_ble_eq_true rfl) (Qt.assign rfl) ?_)
      | (refine K.binOp ?_; first | refine JO.q rfl rfl (Nat.le_of_ble_eq_true rfl) (Qt.cmp rfl rfl (congrArg some c1)) ?_ | refine JO.q rfl rfl (Nat.le_of_ble_eq_true rfl) (Qt.cmp rfl rfl rfl) ?_ | refine JO.q rfl rfl (Nat.le_of_ble_eq_true rfl) (Qt.eqB rfl rfl) ?_ | refine JO.q rfl rfl (Nat.le_of_ble_eq_true rfl) (Qt.neB rfl rfl) ?_)
      | (refine K.unOp ?_; refine JO.q rfl rfl (Nat.le_of_ble_eq_true rfl) (Qt.not rfl) ?_)
      | (refine K.bi ?_; first | refine JO.q rfl rfl (Nat.le_of_ble_eq_true rfl) (Qt.lenM rfl) ?_ | refine JO.q rfl rfl (Nat.le_of_ble_eq_true rfl) (Qt.lenR rfl) ?_ | refine JO.q rfl rfl (Nat.le_of_ble_eq_true rfl) (Qt.lenV rfl) ?_ | refine JO.q rfl rfl (Nat.le_of_ble_eq_true rfl) (Qt.lenO rfl) ?_)
      | (refine K.extract ?_; refine JO.q rfl rfl (Nat.le_of_ble_eq_true rfl) (Qt.extract rfl rfl) ?_)
      | (refine JO.alloc rfl (Nat.le_of_ble_eq_true rfl) ?_; intro _)
      | (refine JO.box rfl (Nat.le_of_ble_eq_true rfl) rfl rfl ?_; intro _)
      | (refine K.pick ?_; refine JO.q rfl rfl (Nat.le_of_ble_eq_true rfl) (Qt.pick rfl rfl) ?_)
      | (refine K.build ?_; refine JO.q rfl rfl (Nat.le_of_ble_eq_true rfl) (Qt.build rfl (by kernel_rfl)) ?_)
      | (refine K.lit ?_; first | (refine JO.lit0 rfl (Nat.le_of_ble_eq_true rfl) ?_; intro _) | (refine JO.lit1 rfl (Nat.le_of_ble_eq_true rfl) rfl rfl rfl rfl rfl ?_; intro _))
      | (refine K.nilCheck ?_; refine JO.q rfl rfl (Nat.le_of_ble_eq_true rfl) (Qt.nilCheck rfl rfl) ?_)
      | (refine K.field ?_; refine JO.q rfl rfl (Nat.le_of_ble_eq_true rfl) (Qt.field rfl rfl (by kernel_rfl) rfl) ?_)
      | (refine K.convert ?_; refine JO.q rfl rfl (Nat.le_of_ble_eq_true rfl) (Qt.conv rfl rfl) ?_)
      | refine JO.nil ?_
      | refine J.seq ?_
      | refine J.region ?_
      | refine J.block ?_
      | refine J.inBlock ?_
      | refine J.skip ?_
      | refine J.exit rfl ?_
      | refine J.cond_t rfl ?_
      | refine J.cond_f rfl ?_
      | refine JO.no rfl rfl (Nat.le_of_ble_eq_true rfl) ?_)
  refine J.draw (by kernel_rfl) rfl ?_
  refine JW.base none ?_
  refine JD.take 0 rfl rfl (by kernel_rfl) rfl (Nat.le_of_ble_eq_true rfl) (Qt.move rfl) rfl ?_
  refine JD.take 2 rfl rfl (by kernel_rfl) rfl (Nat.le_of_ble_eq_true rfl) (Qt.move rfl) rfl ?_
  refine JD.each1 (i := 1) (by kernel_rfl) ?_
  refine JS.loud rfl rfl rfl (Nat.le_of_ble_eq_true rfl) (Ld.pureW hW (C1) (Nat.le_of_ble_eq_true rfl) rfl (by repeat (first | exact LeDs.nil | refine LeDs.cons (LeD.agg (by repeat (first | exact .nil | refine .cons .refl ?_ | refine .cons .nil ?_ | refine .cons .snoc ?_ | refine .cons .clone ?_))) ?_ | refine LeDs.cons LeD.refl ?_ | refine LeDs.cons (LeD.c LeA.nil) ?_ | refine LeDs.cons (LeD.c LeA.snoc) ?_ | refine LeDs.cons (LeD.c LeA.clone) ?_))) (by first | exact .none | exact .nil | exact .tbox rfl | exact .trow rfl | exact .tres rfl | exact .row (by repeat (first | exact .refl | refine .cons ?_)) | exact .box (by repeat (first | exact .refl | refine .cons ?_))) (fun _ => ?_)
  refine JD.each1 (i := 3) (by kernel_rfl) ?_
  refine JS.loud rfl rfl rfl (Nat.le_of_ble_eq_true rfl) (Ld.pure (C2) (Nat.le_of_ble_eq_true rfl) rfl (by repeat (first | exact LeDs.nil | refine LeDs.cons (LeD.agg (by repeat (first | exact .nil | refine .cons .refl ?_ | refine .cons .nil ?_ | refine .cons .snoc ?_ | refine .cons .clone ?_))) ?_ | refine LeDs.cons LeD.refl ?_ | refine LeDs.cons (LeD.c LeA.nil) ?_ | refine LeDs.cons (LeD.c LeA.snoc) ?_ | refine LeDs.cons (LeD.c LeA.clone) ?_))) (by first | exact .none | exact .nil | exact .tbox rfl | exact .trow rfl | exact .tres rfl | exact .row (by repeat (first | exact .refl | refine .cons ?_)) | exact .box (by repeat (first | exact .refl | refine .cons ?_))) (fun _ => ?_)
  refine JD.each1 (i := 4) (by kernel_rfl) ?_
  refine JS.q rfl rfl rfl (Nat.le_of_ble_eq_true rfl) ((Qt.strE rfl rfl).eq (congrArg (fun z => D.c (.v (.bool z))) e1)) ?_
  refine JD.each1 (i := 5) (by kernel_rfl) ?_
  refine JS.q rfl rfl rfl (Nat.le_of_ble_eq_true rfl) (Qt.move rfl) ?_
  refine JD.rebase ?_
  first
    | refine JD.take 6 rfl rfl (by kernel_rfl) rfl (Nat.le_of_ble_eq_true rfl) (Qt.load1 rfl .el rfl) rfl ?_
    | refine JD.take 6 rfl rfl (by kernel_rfl) rfl (Nat.le_of_ble_eq_true rfl) (Qt.loadW rfl .el rfl) rfl ?_
    | refine JD.take 6 rfl rfl (by kernel_rfl) rfl (Nat.le_of_ble_eq_true rfl) (Qt.loadN rfl .el rfl rfl) rfl ?_
    | refine JD.take 6 rfl rfl (by kernel_rfl) rfl (Nat.le_of_ble_eq_true rfl) (Qt.load1b rfl (by exact rfl)) rfl ?_
    | refine JD.take 6 rfl rfl (by kernel_rfl) rfl (Nat.le_of_ble_eq_true rfl) (Qt.loadWb rfl (by exact rfl)) rfl ?_
    | refine JD.take 6 rfl rfl (by kernel_rfl) rfl (Nat.le_of_ble_eq_true rfl) (Qt.loadNb rfl (by exact rfl) (by exact rfl)) rfl ?_
    | refine JD.skip 6 rfl rfl (by kernel_rfl) rfl (Nat.le_of_ble_eq_true rfl) ?_
  first
    | refine JD.take 8 rfl rfl (by kernel_rfl) rfl (Nat.le_of_ble_eq_true rfl) (Qt.load1 rfl .el rfl) rfl ?_
    | refine JD.take 8 rfl rfl (by kernel_rfl) rfl (Nat.le_of_ble_eq_true rfl) (Qt.loadW rfl .el rfl) rfl ?_
    | refine JD.take 8 rfl rfl (by kernel_rfl) rfl (Nat.le_of_ble_eq_true rfl) (Qt.loadN rfl .el rfl rfl) rfl ?_
    | refine JD.take 8 rfl rfl (by kernel_rfl) rfl (Nat.le_of_ble_eq_true rfl) (Qt.load1b rfl (by exact rfl)) rfl ?_
    | refine JD.take 8 rfl rfl (by kernel_rfl) rfl (Nat.le_of_ble_eq_true rfl) (Qt.loadWb rfl (by exact rfl)) rfl ?_
    | refine JD.take 8 rfl rfl (by kernel_rfl) rfl (Nat.le_of_ble_eq_true rfl) (Qt.loadNb rfl (by exact rfl) (by exact rfl)) rfl ?_
    | refine JD.skip 8 rfl rfl (by kernel_rfl) rfl (Nat.le_of_ble_eq_true rfl) ?_
  refine JD.each1 (i := 7) (by kernel_rfl) ?_
  refine JS.loud rfl rfl rfl (Nat.le_of_ble_eq_true rfl) (Ld.pureW hW (C3) (Nat.le_of_ble_eq_true rfl) rfl (by repeat (first | exact LeDs.nil | refine LeDs.cons (LeD.agg (by repeat (first | exact .nil | refine .cons .refl ?_ | refine .cons .nil ?_ | refine .cons .snoc ?_ | refine .cons .clone ?_))) ?_ | refine LeDs.cons LeD.refl ?_ | refine LeDs.cons (LeD.c LeA.nil) ?_ | refine LeDs.cons (LeD.c LeA.snoc) ?_ | refine LeDs.cons (LeD.c LeA.clone) ?_))) (by first | exact .none | exact .nil | exact .tbox rfl | exact .trow rfl | exact .tres rfl | exact .row (by repeat (first | exact .refl | refine .cons ?_)) | exact .box (by repeat (first | exact .refl | refine .cons ?_))) (fun _ => ?_)
  refine JD.each1 (i := 9) (by kernel_rfl) ?_
  refine JS.loud rfl rfl rfl (Nat.le_of_ble_eq_true rfl) (Ld.pure (C4) (Nat.le_of_ble_eq_true rfl) rfl (by repeat (first | exact LeDs.nil | refine LeDs.cons (LeD.agg (by repeat (first | exact .nil | refine .cons .refl ?_ | refine .cons .nil ?_ | refine .cons .snoc ?_ | refine .cons .clone ?_))) ?_ | refine LeDs.cons LeD.refl ?_ | refine LeDs.cons (LeD.c LeA.nil) ?_ | refine LeDs.cons (LeD.c LeA.snoc) ?_ | refine LeDs.cons (LeD.c LeA.clone) ?_))) (by first | exact .none | exact .nil | exact .tbox rfl | exact .trow rfl | exact .tres rfl | exact .row (by repeat (first | exact .refl | refine .cons ?_)) | exact .box (by repeat (first | exact .refl | refine .cons ?_))) (fun _ => ?_)
  first
    | refine JD.take 10 rfl rfl (by kernel_rfl) rfl (Nat.le_of_ble_eq_true rfl) ((Qt.strE rfl rfl).eq (congrArg (fun z => D.c (.v (.bool z))) e2)) rfl ?_
    | refine JD.skip 10 rfl rfl (by kernel_rfl) rfl (Nat.le_of_ble_eq_true rfl) ?_
  refine JD.each1 (i := 11) (by kernel_rfl) ?_
  refine JS.q rfl rfl rfl (Nat.le_of_ble_eq_true rfl) (Qt.pick rfl rfl) ?_
  refine JD.each1 (i := 12) (by kernel_rfl) ?_
  refine JS.q rfl rfl rfl (Nat.le_of_ble_eq_true rfl) (Qt.move rfl) ?_
  refine JD.rebase ?_
  first
    | refine JD.take 13 rfl rfl (by kernel_rfl) rfl (Nat.le_of_ble_eq_true rfl) (Qt.load1 rfl .el rfl) rfl ?_
    | refine JD.take 13 rfl rfl (by kernel_rfl) rfl (Nat.le_of_ble_eq_true rfl) (Qt.loadW rfl .el rfl) rfl ?_
    | refine JD.take 13 rfl rfl (by kernel_rfl) rfl (Nat.le_of_ble_eq_true rfl) (Qt.loadN rfl .el rfl rfl) rfl ?_
    | refine JD.take 13 rfl rfl (by kernel_rfl) rfl (Nat.le_of_ble_eq_true rfl) (Qt.load1b rfl (by exact rfl)) rfl ?_
    | refine JD.take 13 rfl rfl (by kernel_rfl) rfl (Nat.le_of_ble_eq_true rfl) (Qt.loadWb rfl (by exact rfl)) rfl ?_
    | refine JD.take 13 rfl rfl (by kernel_rfl) rfl (Nat.le_of_ble_eq_true rfl) (Qt.loadNb rfl (by exact rfl) (by exact rfl)) rfl ?_
    | refine JD.skip 13 rfl rfl (by kernel_rfl) rfl (Nat.le_of_ble_eq_true rfl) ?_
  first
    | refine JD.take 15 rfl rfl (by kernel_rfl) rfl (Nat.le_of_ble_eq_true rfl) (Qt.load1 rfl .el rfl) rfl ?_
    | refine JD.take 15 rfl rfl (by kernel_rfl) rfl (Nat.le_of_ble_eq_true rfl) (Qt.loadW rfl .el rfl) rfl ?_
    | refine JD.take 15 rfl rfl (by kernel_rfl) rfl (Nat.le_of_ble_eq_true rfl) (Qt.loadN rfl .el rfl rfl) rfl ?_
    | refine JD.take 15 rfl rfl (by kernel_rfl) rfl (Nat.le_of_ble_eq_true rfl) (Qt.load1b rfl (by exact rfl)) rfl ?_
    | refine JD.take 15 rfl rfl (by kernel_rfl) rfl (Nat.le_of_ble_eq_true rfl) (Qt.loadWb rfl (by exact rfl)) rfl ?_
    | refine JD.take 15 rfl rfl (by kernel_rfl) rfl (Nat.le_of_ble_eq_true rfl) (Qt.loadNb rfl (by exact rfl) (by exact rfl)) rfl ?_
    | refine JD.skip 15 rfl rfl (by kernel_rfl) rfl (Nat.le_of_ble_eq_true rfl) ?_
  refine JD.each1 (i := 14) (by kernel_rfl) ?_
  refine JS.loud rfl rfl rfl (Nat.le_of_ble_eq_true rfl) (Ld.pureW hW (C5) (Nat.le_of_ble_eq_true rfl) rfl (by repeat (first | exact LeDs.nil | refine LeDs.cons (LeD.agg (by repeat (first | exact .nil | refine .cons .refl ?_ | refine .cons .nil ?_ | refine .cons .snoc ?_ | refine .cons .clone ?_))) ?_ | refine LeDs.cons LeD.refl ?_ | refine LeDs.cons (LeD.c LeA.nil) ?_ | refine LeDs.cons (LeD.c LeA.snoc) ?_ | refine LeDs.cons (LeD.c LeA.clone) ?_))) (by first | exact .none | exact .nil | exact .tbox rfl | exact .trow rfl | exact .tres rfl | exact .row (by repeat (first | exact .refl | refine .cons ?_)) | exact .box (by repeat (first | exact .refl | refine .cons ?_))) (fun _ => ?_)
  refine JD.each1 (i := 16) (by kernel_rfl) ?_
  refine JS.loud rfl rfl rfl (Nat.le_of_ble_eq_true rfl) (Ld.pure (C6) (Nat.le_of_ble_eq_true rfl) rfl (by repeat (first | exact LeDs.nil | refine LeDs.cons (LeD.agg (by repeat (first | exact .nil | refine .cons .refl ?_ | refine .cons .nil ?_ | refine .cons .snoc ?_ | refine .cons .clone ?_))) ?_ | refine LeDs.cons LeD.refl ?_ | refine LeDs.cons (LeD.c LeA.nil) ?_ | refine LeDs.cons (LeD.c LeA.snoc) ?_ | refine LeDs.cons (LeD.c LeA.clone) ?_))) (by first | exact .none | exact .nil | exact .tbox rfl | exact .trow rfl | exact .tres rfl | exact .row (by repeat (first | exact .refl | refine .cons ?_)) | exact .box (by repeat (first | exact .refl | refine .cons ?_))) (fun _ => ?_)
  first
    | refine JD.take 17 rfl rfl (by kernel_rfl) rfl (Nat.le_of_ble_eq_true rfl) ((Qt.strE rfl rfl).eq (congrArg (fun z => D.c (.v (.bool z))) e3)) rfl ?_
    | refine JD.skip 17 rfl rfl (by kernel_rfl) rfl (Nat.le_of_ble_eq_true rfl) ?_
  refine JD.each1 (i := 18) (by kernel_rfl) ?_
  refine JS.q rfl rfl rfl (Nat.le_of_ble_eq_true rfl) (Qt.pick rfl rfl) ?_
  refine JD.each1 (i := 19) (by kernel_rfl) ?_
  refine JS.q rfl rfl rfl (Nat.le_of_ble_eq_true rfl) (Qt.assign rfl) ?_
  refine JD.done (by kernel_rfl) ?_
  all_goals
    exact J.ret Tryd.func3 rfl (.cons (.tmp rfl) .nil) () (by first | exact .agg (by repeat (first | exact .nil | refine .cons .refl ?_ | refine .cons .nil ?_ | refine .cons .snoc ?_ | refine .cons .clone ?_)) | exact .refl | exact .c .nil | exact .tup (by repeat (first | exact .nil | refine .cons (.agg (by repeat (first | exact .nil | refine .cons .refl ?_ | refine .cons .nil ?_ | refine .cons .snoc ?_ | refine .cons .clone ?_))) ?_ | refine .cons .refl ?_ | refine .cons (.c .nil) ?_ | refine .cons (.c .snoc) ?_ | refine .cons (.c .clone) ?_))) [] .nil rfl rfl
end Fl
end Go.Proofs.YtgjpdogjekmemaaDoor
