/-
  sortBy at events and points; the reference's put and set.
  Conditions: none.
-/
import Derived.Test.YtgjpdogjekmemaaTalA
import Derived.Test.YtgjpdogjekmemaaPooB
namespace Go.Proofs.Ytgjpdogjekmemaa
open Go.RowKit
set_option linter.unusedVariables false
set_option linter.unusedSimpArgs false
set_option linter.unnecessarySimpa false
namespace Fl
set_option maxRecDepth 100000
theorem t_sortEv (v : Value) (l : List Ta.Ev) (hs : l.length ≤ 100000) : Con Try.prog 24 [.c (.v v), .c (.v (.func (.func 25) #[] #[]))] [.row v 35 9 (l.map eEv)] (fun _ : Unit => (.tup [], [.row v 35 9 ((Ss.srt (fun e : Ta.Ev => e.step) l).map eEv)])) := by
  refine Con.intro Try.func24 rfl rfl rfl (fun ok e => ?_)
  repeat (first
      | (refine K.move ?_; refine JO.q rfl rfl (Nat.le_of_ble_eq_true rfl) (Qt.move rfl) ?_)
      | (refine JO.box rfl (Nat.le_of_ble_eq_true rfl) rfl rfl ?_; intro _)
      | refine JO.nil ?_
      | refine J.seq ?_
      | refine J.region ?_)
  rename_i b
  refine JO.q rfl rfl (Nat.le_of_ble_eq_true rfl) (Qt.mkFun rfl) ?_
  have CS := s_sortEv (CmpFn.box (t_cmpEv b)) (fun _ => rfl) v l hs
  repeat (first
      | (refine K.call ?_; (refine JO.ld (Ld.callF [] (fun _ => [.box b 72 (vs [.func (.func 25) #[] #[]]), .row v 35 9 ((Ss.srt (fun e : Ta.Ev => e.step) l).map eEv)]) CS (List.Perm.swap _ _ _) (fun _ => List.Perm.swap _ _ _) (Nat.le_of_ble_eq_true rfl) rfl (.cons .refl (.cons .refl .nil))) rfl (fun _ => ?_)))
      | refine JO.nil ?_)
  (exact J.finE [_] rfl Try.func24 rfl .nil () (by (exact .refl)) rfl)
theorem t_putEv (l : List Ta.Ev) (e : Ta.Ev) (hs : l.length ≤ 1000) : Pure Try.prog 26 [.c (.r 9 (l.map eEv)), .agg (eEv e)] (.c (.r 9 ((Ss.ins (fun e : Ta.Ev => e.step) l e).map eEv))) := by
  refine Con.intro Try.func26 rfl rfl rfl (fun ok e0 => ?_)
  repeat (first
      | (refine K.move ?_; refine JO.q rfl rfl (Nat.le_of_ble_eq_true rfl) (Qt.move rfl) ?_)
      | (refine K.assign ?_; refine JO.q rfl rfl (Nat.le_of_ble_eq_true rfl) (Qt.assign rfl) ?_)
      | (refine K.bi ?_; (refine JO.q rfl rfl (Nat.le_of_ble_eq_true rfl) (Qt.lenM rfl) ?_))
      | (refine JO.box rfl (Nat.le_of_ble_eq_true rfl) rfl rfl ?_; intro _)
      | refine JO.nil ?_
      | refine J.seq ?_
      | refine J.region ?_
      | refine J.block ?_)
  rename_i b
  refine J.joinS2 (ι := { q : List Ta.Ev × List Ta.Ev // l = q.1 ++ q.2 ∧ (∀ y ∈ q.2, e.step < y.step) ∧ (q.1 = [] ∨ ∃ A' a, q.1 = A' ++ [a] ∧ a.step ≤ e.step) }) (fun q => [(5, .c (nI q.1.1.length)), (0, .c (.r 9 (l.map eEv))), (3, .c (.v (.pointer (some ⟨b, 0, none⟩))))]) (fun q => [.box b 36 (eEv e)]) (fun q => ?_) (fun KK rest => ?_)
  · obtain ⟨⟨A1, B1⟩, e1, e2, e3⟩ := q
    simp only at e1 e2 e3 ⊢
    have ei := Ss.ins_app (key := fun e : Ta.Ev => e.step) e A1 B1 e2 e3
    rw [← e1] at ei
    have ll : l.length = A1.length + B1.length := by rw [e1]; simp
    have lm : (l.map eEv).length = l.length := List.length_map ..
    have h1 : ((l.map eEv).take ((A1.length : Int)).toNat).drop (0 : Int).toNat = A1.map eEv := by rw [Int.toNat_natCast, e1]; simp
    have h2 : ((l.map eEv).take (((l.map eEv).length : Int)).toNat).drop ((A1.length : Int)).toNat = B1.map eEv := by rw [Int.toNat_natCast, Int.toNat_natCast, List.take_length, e1]; simp
    rw [ei]
    have la : (A1.map eEv).length = A1.length := List.length_map ..
    have lb : (B1.map eEv).length = B1.length := List.length_map ..
    repeat ((refine J.seq ?_))
    refine J.draw (by kernel_rfl) rfl ?_
    refine JW.base none ?_
    refine JD.take 1 rfl rfl (by kernel_rfl) rfl (Nat.le_of_ble_eq_true rfl) (Qt.move rfl) rfl ?_
    refine JD.take 2 rfl rfl (by kernel_rfl) rfl (Nat.le_of_ble_eq_true rfl) (Qt.move rfl) rfl ?_
    refine JD.take 3 rfl rfl (by kernel_rfl) rfl (Nat.le_of_ble_eq_true rfl) ((Qt.sliceR rfl rfl rfl (by omega) (by omega) (by omega)).eq (congrArg (fun z => D.c (A.r 9 z)) h1)) rfl ?_
    (refine JD.take 5 rfl rfl (by kernel_rfl) rfl (Nat.le_of_ble_eq_true rfl) (Qt.loadWb rfl (by exact rfl)) rfl ?_)
    refine JD.each2 (i := 0) (j := 6) (by kernel_rfl) ?_ ?_
    refine JS.loud rfl rfl rfl (Nat.le_of_ble_eq_true rfl) (Ld.lit0 (Nat.le_of_ble_eq_true rfl)) (by (exact .none)) (fun _ => ?_)
    refine JD.each2 (i := 4) (j := 6) (by kernel_rfl) ?_ ?_
    refine JS.loud rfl rfl rfl (Nat.le_of_ble_eq_true rfl) (Ld.appOw (Nat.le_of_ble_eq_true rfl) rfl rfl .read (by (simp; omega))) (by (exact .row (by repeat ((exact .refl))))) (fun _ => ?_)
    refine JD.each1 (i := 6) (by kernel_rfl) ?_
    refine JS.loud rfl rfl rfl (Nat.le_of_ble_eq_true rfl) (Ld.lit1 (Nat.le_of_ble_eq_true rfl) rfl rfl rfl rfl rfl) (by (exact .none)) (fun _ => ?_)
    refine JD.each1 (i := 7) (by kernel_rfl) ?_
    refine JS.loud rfl rfl rfl (Nat.le_of_ble_eq_true rfl) (Ld.appOw (Nat.le_of_ble_eq_true rfl) rfl rfl .ownC (by (simp; omega))) (by (exact .row (by repeat (first | exact .refl | refine .cons ?_)))) (fun _ => ?_)
    refine JD.each1 (i := 8) (by kernel_rfl) ?_
    refine JS.q rfl rfl rfl (Nat.le_of_ble_eq_true rfl) (Qt.assign rfl) ?_
    refine JD.done (by kernel_rfl) ?_
    rotate_left
    refine JS.loud rfl rfl rfl (Nat.le_of_ble_eq_true rfl) (Ld.lit1 (Nat.le_of_ble_eq_true rfl) rfl rfl rfl rfl rfl) (by (exact .none)) (fun _ => ?_)
    refine JD.each1 (i := 4) (by kernel_rfl) ?_
    refine JS.loud rfl rfl rfl (Nat.le_of_ble_eq_true rfl) (Ld.appOw (Nat.le_of_ble_eq_true rfl) rfl rfl .read (by (simp; omega))) (by (exact .row (by repeat (first | exact .refl | refine .cons ?_)))) (fun _ => ?_)
    refine JD.each1 (i := 7) (by kernel_rfl) ?_
    refine JS.loud rfl rfl rfl (Nat.le_of_ble_eq_true rfl) (Ld.appOw (Nat.le_of_ble_eq_true rfl) rfl rfl .ownC (by (simp; omega))) (by (exact .row (by repeat (first | exact .refl | refine .cons ?_)))) (fun _ => ?_)
    refine JD.each1 (i := 8) (by kernel_rfl) ?_
    refine JS.q rfl rfl rfl (Nat.le_of_ble_eq_true rfl) (Qt.assign rfl) ?_
    refine JD.done (by kernel_rfl) ?_
    rotate_left
    refine JS.loud rfl rfl rfl (Nat.le_of_ble_eq_true rfl) (Ld.lit1 (Nat.le_of_ble_eq_true rfl) rfl rfl rfl rfl rfl) (by (exact .none)) (fun _ => ?_)
    refine JD.each1 (i := 0) (by kernel_rfl) ?_
    refine JS.loud rfl rfl rfl (Nat.le_of_ble_eq_true rfl) (Ld.lit0 (Nat.le_of_ble_eq_true rfl)) (by (exact .none)) (fun _ => ?_)
    refine JD.each1 (i := 4) (by kernel_rfl) ?_
    refine JS.loud rfl rfl rfl (Nat.le_of_ble_eq_true rfl) (Ld.appOw (Nat.le_of_ble_eq_true rfl) rfl rfl .read (by (simp; omega))) (by (exact .row (by repeat (first | exact .refl | refine .cons ?_)))) (fun _ => ?_)
    refine JD.each1 (i := 7) (by kernel_rfl) ?_
    refine JS.loud rfl rfl rfl (Nat.le_of_ble_eq_true rfl) (Ld.appOw (Nat.le_of_ble_eq_true rfl) rfl rfl .ownC (by (simp; omega))) (by (exact .row (by repeat (first | exact .refl | refine .cons ?_)))) (fun _ => ?_)
    refine JD.each1 (i := 8) (by kernel_rfl) ?_
    refine JS.q rfl rfl rfl (Nat.le_of_ble_eq_true rfl) (Qt.assign rfl) ?_
    refine JD.done (by kernel_rfl) ?_
    rotate_left
    all_goals
      repeat (first
          | (refine K.move ?_; refine JO.q rfl rfl (Nat.le_of_ble_eq_true rfl) (Qt.move rfl) ?_)
          | (refine K.assign ?_; refine JO.q rfl rfl (Nat.le_of_ble_eq_true rfl) (Qt.assign rfl) ?_)
          | (refine K.slice ?_; refine JO.q rfl rfl (Nat.le_of_ble_eq_true rfl) ((Qt.sliceR rfl rfl rfl (by omega) (by omega) (by omega)).eq (congrArg (fun z => D.c (A.r 9 z)) h2)) ?_)
          | (refine K.bi ?_; ((refine JO.ld (Ld.appRw (Nat.le_of_ble_eq_true rfl) rfl rfl .read (by (simp; omega))) rfl (fun _ => ?_))))
          | refine JO.nil ?_
          | refine J.seq ?_
          | refine J.region ?_)
      refine J.ret Try.func26 rfl (.cons (.tmp rfl) .nil) () (.of_eq ?_) [] .nil rfl rfl
      simp
      rfl
  · refine J.loop (ι := { q : List Ta.Ev × List Ta.Ev // l = q.1 ++ q.2 ∧ ∀ y ∈ q.2, e.step < y.step }) (fun q => [(5, .c (nI q.1.1.length)), (0, .c (.r 9 (l.map eEv))), (3, .c (.v (.pointer (some ⟨b, 0, none⟩))))]) (fun q => [.box b 36 (eEv e)]) (fun q => q.1.1.length) ⟨(l, []), by simp, by simp⟩ (fun X h => h.weak ⟨rfl, rfl, rfl, trivial⟩) (fun q ih => ?_)
    obtain ⟨⟨S1, S2⟩, qS, qx⟩ := q
    simp only at qS qx ih ⊢
    rcases List.eq_nil_or_concat S1 with h | ⟨S1', z, h⟩
    · have t2 : decide ((S1.length : Int) > 0) = false := decide_eq_false (by rw [h]; simp)
      repeat ((refine J.seq ?_))
      refine J.draw (by kernel_rfl) rfl ?_
      refine JW.base none ?_
      refine JD.take 0 rfl rfl (by kernel_rfl) rfl (Nat.le_of_ble_eq_true rfl) (Qt.move rfl) rfl ?_
      refine JD.take 1 rfl rfl (by kernel_rfl) rfl (Nat.le_of_ble_eq_true rfl) (Qt.cmp rfl rfl (congrArg some t2)) rfl ?_
      refine JD.take 2 rfl rfl (by kernel_rfl) rfl (Nat.le_of_ble_eq_true rfl) (Qt.move rfl) rfl ?_
      (refine JD.skip 3 rfl rfl (by kernel_rfl) rfl (Nat.le_of_ble_eq_true rfl) ?_)
      (refine JD.skip 4 rfl rfl (by kernel_rfl) rfl (Nat.le_of_ble_eq_true rfl) ?_)
      (refine JD.skip 5 rfl rfl (by kernel_rfl) rfl (Nat.le_of_ble_eq_true rfl) ?_)
      refine JD.skip 6 rfl rfl (by kernel_rfl) rfl (Nat.le_of_ble_eq_true rfl) ?_
      (refine JD.skip 7 rfl rfl (by kernel_rfl) rfl (Nat.le_of_ble_eq_true rfl) ?_)
      (refine JD.skip 8 rfl rfl (by kernel_rfl) rfl (Nat.le_of_ble_eq_true rfl) ?_)
      (refine JD.skip 9 rfl rfl (by kernel_rfl) rfl (Nat.le_of_ble_eq_true rfl) ?_)
      (refine JD.skip 10 rfl rfl (by kernel_rfl) rfl (Nat.le_of_ble_eq_true rfl) ?_)
      (refine JD.skip 11 rfl rfl (by kernel_rfl) rfl (Nat.le_of_ble_eq_true rfl) ?_)
      refine JD.take 12 rfl rfl (by kernel_rfl) rfl (Nat.le_of_ble_eq_true rfl) (Qt.pick rfl rfl) rfl ?_
      refine JD.done (by kernel_rfl) ?_
      repeat (first
          | refine J.exit rfl ?_
          | refine J.cond_f rfl ?_)
      exact (rest ⟨(S1, S2), qS, qx, .inl h⟩).weak ⟨rfl, rfl, rfl, trivial⟩
    · rw [List.concat_eq_append] at h
      subst h
      have l1 : (S1' ++ [z]).length = S1'.length + 1 := by simp
      rw [l1]
      have ll : l.length = S1'.length + 1 + S2.length := by rw [qS]; simp; omega
      have t2 : decide (((S1'.length + 1 : Nat) : Int) > 0) = true := decide_eq_true (by omega)
      have w2 : IntKind.i64.wrap (((S1'.length + 1 : Nat) : Int) - 1) = ((S1'.length : Nat) : Int) := by rw [w64 (by omega) (by omega)]; omega
      have a1 : l[S1'.length]? = some z := by rw [qS, show S1' ++ [z] ++ S2 = S1' ++ z :: S2 by simp]; exact Ss.at_app _ _ _
      have b1 := s_at (enc := eEv) a1
      have z1 : (0 : Int) ≤ ((S1'.length : Nat) : Int) := Int.natCast_nonneg _
      cases t3 : decide (z.step > e.step) with
      | true =>
        repeat ((refine J.seq ?_))
        refine J.draw (by kernel_rfl) rfl ?_
        refine JW.base none ?_
        refine JD.take 0 rfl rfl (by kernel_rfl) rfl (Nat.le_of_ble_eq_true rfl) (Qt.move rfl) rfl ?_
        refine JD.take 1 rfl rfl (by kernel_rfl) rfl (Nat.le_of_ble_eq_true rfl) (Qt.cmp rfl rfl (congrArg some t2)) rfl ?_
        refine JD.take 2 rfl rfl (by kernel_rfl) rfl (Nat.le_of_ble_eq_true rfl) (Qt.move rfl) rfl ?_
        (refine JD.take 3 rfl rfl (by kernel_rfl) rfl (Nat.le_of_ble_eq_true rfl) (Qt.move rfl) rfl ?_)
        (refine JD.take 4 rfl rfl (by kernel_rfl) rfl (Nat.le_of_ble_eq_true rfl) (Qt.move rfl) rfl ?_)
        (refine JD.take 5 rfl rfl (by kernel_rfl) rfl (Nat.le_of_ble_eq_true rfl) (Qt.ari rfl rfl rfl w2) rfl ?_)
        (refine JD.take 6 rfl rfl (by kernel_rfl) rfl (Nat.le_of_ble_eq_true rfl) (Qt.indexR rfl rfl z1 b1) rfl ?_)
        (refine JD.take 7 rfl rfl (by kernel_rfl) rfl (Nat.le_of_ble_eq_true rfl) (Qt.fieldAddr rfl rfl) rfl ?_)
        (refine JD.take 8 rfl rfl (by kernel_rfl) rfl (Nat.le_of_ble_eq_true rfl) (Qt.load1 rfl .el rfl) rfl ?_)
        (refine JD.take 9 rfl rfl (by kernel_rfl) rfl (Nat.le_of_ble_eq_true rfl) (Qt.fieldAddr rfl rfl) rfl ?_)
        (refine JD.take 10 rfl rfl (by kernel_rfl) rfl (Nat.le_of_ble_eq_true rfl) (Qt.load1b rfl (by exact rfl)) rfl ?_)
        (refine JD.take 11 rfl rfl (by kernel_rfl) rfl (Nat.le_of_ble_eq_true rfl) (Qt.cmp rfl rfl (congrArg some t3)) rfl ?_)
        refine JD.take 12 rfl rfl (by kernel_rfl) rfl (Nat.le_of_ble_eq_true rfl) (Qt.pick rfl rfl) rfl ?_
        refine JD.done (by kernel_rfl) ?_
        repeat (first
            | (refine K.move ?_; refine JO.q rfl rfl (Nat.le_of_ble_eq_true rfl) (Qt.move rfl) ?_)
            | (refine K.assign ?_; refine JO.q rfl rfl (Nat.le_of_ble_eq_true rfl) (Qt.assign rfl) ?_)
            | (refine K.binOp ?_; (refine JO.q rfl rfl (Nat.le_of_ble_eq_true rfl) ((Qt.ari rfl rfl rfl w2)) ?_))
            | refine JO.nil ?_
            | refine J.region ?_
            | refine J.block ?_
            | refine J.inBlock ?_
            | refine J.skip ?_
            | refine J.cond_t rfl ?_)
        exact (ih ⟨(S1', z :: S2), by rw [qS]; simp, by simp only [List.mem_cons]; rintro y (rfl | hy); exact of_decide_eq_true t3; exact qx y hy⟩ (by simp)).weak ⟨rfl, rfl, rfl, trivial⟩
      | false =>
        repeat ((refine J.seq ?_))
        refine J.draw (by kernel_rfl) rfl ?_
        refine JW.base none ?_
        refine JD.take 0 rfl rfl (by kernel_rfl) rfl (Nat.le_of_ble_eq_true rfl) (Qt.move rfl) rfl ?_
        refine JD.take 1 rfl rfl (by kernel_rfl) rfl (Nat.le_of_ble_eq_true rfl) (Qt.cmp rfl rfl (congrArg some t2)) rfl ?_
        refine JD.take 2 rfl rfl (by kernel_rfl) rfl (Nat.le_of_ble_eq_true rfl) (Qt.move rfl) rfl ?_
        (refine JD.take 3 rfl rfl (by kernel_rfl) rfl (Nat.le_of_ble_eq_true rfl) (Qt.move rfl) rfl ?_)
        (refine JD.take 4 rfl rfl (by kernel_rfl) rfl (Nat.le_of_ble_eq_true rfl) (Qt.move rfl) rfl ?_)
        (refine JD.take 5 rfl rfl (by kernel_rfl) rfl (Nat.le_of_ble_eq_true rfl) (Qt.ari rfl rfl rfl w2) rfl ?_)
        (refine JD.take 6 rfl rfl (by kernel_rfl) rfl (Nat.le_of_ble_eq_true rfl) (Qt.indexR rfl rfl z1 b1) rfl ?_)
        (refine JD.take 7 rfl rfl (by kernel_rfl) rfl (Nat.le_of_ble_eq_true rfl) (Qt.fieldAddr rfl rfl) rfl ?_)
        (refine JD.take 8 rfl rfl (by kernel_rfl) rfl (Nat.le_of_ble_eq_true rfl) (Qt.load1 rfl .el rfl) rfl ?_)
        (refine JD.take 9 rfl rfl (by kernel_rfl) rfl (Nat.le_of_ble_eq_true rfl) (Qt.fieldAddr rfl rfl) rfl ?_)
        (refine JD.take 10 rfl rfl (by kernel_rfl) rfl (Nat.le_of_ble_eq_true rfl) (Qt.load1b rfl (by exact rfl)) rfl ?_)
        (refine JD.take 11 rfl rfl (by kernel_rfl) rfl (Nat.le_of_ble_eq_true rfl) (Qt.cmp rfl rfl (congrArg some t3)) rfl ?_)
        refine JD.take 12 rfl rfl (by kernel_rfl) rfl (Nat.le_of_ble_eq_true rfl) (Qt.pick rfl rfl) rfl ?_
        refine JD.done (by kernel_rfl) ?_
        repeat (first
            | refine J.exit rfl ?_
            | refine J.cond_f rfl ?_)
        exact (rest ⟨(S1' ++ [z], S2), qS, qx, .inr ⟨S1', z, rfl, by have := of_decide_eq_false t3; omega⟩⟩).weak ⟨by rw [l1]; rfl, rfl, rfl, trivial⟩
theorem t_sortPt (v : Value) (l : List Ta.Pt) (hs : l.length ≤ 100000) : Con Try.prog 27 [.c (.v v), .c (.v (.func (.func 28) #[] #[]))] [.row v 38 3 (l.map ePt)] (fun _ : Unit => (.tup [], [.row v 38 3 ((Ss.srt (fun e : Ta.Pt => e.step) l).map ePt)])) := by
  refine Con.intro Try.func27 rfl rfl rfl (fun ok e => ?_)
  repeat (first
      | (refine K.move ?_; refine JO.q rfl rfl (Nat.le_of_ble_eq_true rfl) (Qt.move rfl) ?_)
      | (refine JO.box rfl (Nat.le_of_ble_eq_true rfl) rfl rfl ?_; intro _)
      | refine JO.nil ?_
      | refine J.seq ?_
      | refine J.region ?_)
  rename_i b
  refine JO.q rfl rfl (Nat.le_of_ble_eq_true rfl) (Qt.mkFun rfl) ?_
  have CS := s_sortPt (CmpFn.box (t_cmpPt b)) (fun _ => rfl) v l hs
  repeat (first
      | (refine K.call ?_; (refine JO.ld (Ld.callF [] (fun _ => [.box b 76 (vs [.func (.func 28) #[] #[]]), .row v 38 3 ((Ss.srt (fun e : Ta.Pt => e.step) l).map ePt)]) CS (List.Perm.swap _ _ _) (fun _ => List.Perm.swap _ _ _) (Nat.le_of_ble_eq_true rfl) rfl (.cons .refl (.cons .refl .nil))) rfl (fun _ => ?_)))
      | refine JO.nil ?_)
  (exact J.finE [_] rfl Try.func27 rfl .nil () (by (exact .refl)) rfl)
theorem t_putPt (l : List Ta.Pt) (e : Ta.Pt) (hs : l.length ≤ 1000) : Pure Try.prog 29 [.c (.r 3 (l.map ePt)), .agg (ePt e)] (.c (.r 3 ((Ss.ins (fun e : Ta.Pt => e.step) l e).map ePt))) := by
  refine Con.intro Try.func29 rfl rfl rfl (fun ok e0 => ?_)
  repeat (first
      | (refine K.move ?_; refine JO.q rfl rfl (Nat.le_of_ble_eq_true rfl) (Qt.move rfl) ?_)
      | (refine K.assign ?_; refine JO.q rfl rfl (Nat.le_of_ble_eq_true rfl) (Qt.assign rfl) ?_)
      | (refine K.bi ?_; (refine JO.q rfl rfl (Nat.le_of_ble_eq_true rfl) (Qt.lenM rfl) ?_))
      | (refine JO.box rfl (Nat.le_of_ble_eq_true rfl) rfl rfl ?_; intro _)
      | refine JO.nil ?_
      | refine J.seq ?_
      | refine J.region ?_
      | refine J.block ?_)
  rename_i b
  refine J.joinS2 (ι := { q : List Ta.Pt × List Ta.Pt // l = q.1 ++ q.2 ∧ (∀ y ∈ q.2, e.step < y.step) ∧ (q.1 = [] ∨ ∃ A' a, q.1 = A' ++ [a] ∧ a.step ≤ e.step) }) (fun q => [(5, .c (nI q.1.1.length)), (0, .c (.r 3 (l.map ePt))), (3, .c (.v (.pointer (some ⟨b, 0, none⟩))))]) (fun q => [.box b 39 (ePt e)]) (fun q => ?_) (fun KK rest => ?_)
  · obtain ⟨⟨A1, B1⟩, e1, e2, e3⟩ := q
    simp only at e1 e2 e3 ⊢
    have ei := Ss.ins_app (key := fun e : Ta.Pt => e.step) e A1 B1 e2 e3
    rw [← e1] at ei
    have ll : l.length = A1.length + B1.length := by rw [e1]; simp
    have lm : (l.map ePt).length = l.length := List.length_map ..
    have h1 : ((l.map ePt).take ((A1.length : Int)).toNat).drop (0 : Int).toNat = A1.map ePt := by rw [Int.toNat_natCast, e1]; simp
    have h2 : ((l.map ePt).take (((l.map ePt).length : Int)).toNat).drop ((A1.length : Int)).toNat = B1.map ePt := by rw [Int.toNat_natCast, Int.toNat_natCast, List.take_length, e1]; simp
    rw [ei]
    have la : (A1.map ePt).length = A1.length := List.length_map ..
    have lb : (B1.map ePt).length = B1.length := List.length_map ..
    repeat ((refine J.seq ?_))
    refine J.draw (by kernel_rfl) rfl ?_
    refine JW.base none ?_
    refine JD.take 1 rfl rfl (by kernel_rfl) rfl (Nat.le_of_ble_eq_true rfl) (Qt.move rfl) rfl ?_
    refine JD.take 2 rfl rfl (by kernel_rfl) rfl (Nat.le_of_ble_eq_true rfl) (Qt.move rfl) rfl ?_
    refine JD.take 3 rfl rfl (by kernel_rfl) rfl (Nat.le_of_ble_eq_true rfl) ((Qt.sliceR rfl rfl rfl (by omega) (by omega) (by omega)).eq (congrArg (fun z => D.c (A.r 3 z)) h1)) rfl ?_
    (refine JD.take 5 rfl rfl (by kernel_rfl) rfl (Nat.le_of_ble_eq_true rfl) (Qt.loadWb rfl (by exact rfl)) rfl ?_)
    refine JD.each2 (i := 0) (j := 6) (by kernel_rfl) ?_ ?_
    refine JS.loud rfl rfl rfl (Nat.le_of_ble_eq_true rfl) (Ld.lit0 (Nat.le_of_ble_eq_true rfl)) (by (exact .none)) (fun _ => ?_)
    refine JD.each2 (i := 4) (j := 6) (by kernel_rfl) ?_ ?_
    refine JS.loud rfl rfl rfl (Nat.le_of_ble_eq_true rfl) (Ld.appOw (Nat.le_of_ble_eq_true rfl) rfl rfl .read (by (simp; omega))) (by (exact .row (by repeat ((exact .refl))))) (fun _ => ?_)
    refine JD.each1 (i := 6) (by kernel_rfl) ?_
    refine JS.loud rfl rfl rfl (Nat.le_of_ble_eq_true rfl) (Ld.lit1 (Nat.le_of_ble_eq_true rfl) rfl rfl rfl rfl rfl) (by (exact .none)) (fun _ => ?_)
    refine JD.each1 (i := 7) (by kernel_rfl) ?_
    refine JS.loud rfl rfl rfl (Nat.le_of_ble_eq_true rfl) (Ld.appOw (Nat.le_of_ble_eq_true rfl) rfl rfl .ownC (by (simp; omega))) (by (exact .row (by repeat (first | exact .refl | refine .cons ?_)))) (fun _ => ?_)
    refine JD.each1 (i := 8) (by kernel_rfl) ?_
    refine JS.q rfl rfl rfl (Nat.le_of_ble_eq_true rfl) (Qt.assign rfl) ?_
    refine JD.done (by kernel_rfl) ?_
    rotate_left
    refine JS.loud rfl rfl rfl (Nat.le_of_ble_eq_true rfl) (Ld.lit1 (Nat.le_of_ble_eq_true rfl) rfl rfl rfl rfl rfl) (by (exact .none)) (fun _ => ?_)
    refine JD.each1 (i := 4) (by kernel_rfl) ?_
    refine JS.loud rfl rfl rfl (Nat.le_of_ble_eq_true rfl) (Ld.appOw (Nat.le_of_ble_eq_true rfl) rfl rfl .read (by (simp; omega))) (by (exact .row (by repeat (first | exact .refl | refine .cons ?_)))) (fun _ => ?_)
    refine JD.each1 (i := 7) (by kernel_rfl) ?_
    refine JS.loud rfl rfl rfl (Nat.le_of_ble_eq_true rfl) (Ld.appOw (Nat.le_of_ble_eq_true rfl) rfl rfl .ownC (by (simp; omega))) (by (exact .row (by repeat (first | exact .refl | refine .cons ?_)))) (fun _ => ?_)
    refine JD.each1 (i := 8) (by kernel_rfl) ?_
    refine JS.q rfl rfl rfl (Nat.le_of_ble_eq_true rfl) (Qt.assign rfl) ?_
    refine JD.done (by kernel_rfl) ?_
    rotate_left
    refine JS.loud rfl rfl rfl (Nat.le_of_ble_eq_true rfl) (Ld.lit1 (Nat.le_of_ble_eq_true rfl) rfl rfl rfl rfl rfl) (by (exact .none)) (fun _ => ?_)
    refine JD.each1 (i := 0) (by kernel_rfl) ?_
    refine JS.loud rfl rfl rfl (Nat.le_of_ble_eq_true rfl) (Ld.lit0 (Nat.le_of_ble_eq_true rfl)) (by (exact .none)) (fun _ => ?_)
    refine JD.each1 (i := 4) (by kernel_rfl) ?_
    refine JS.loud rfl rfl rfl (Nat.le_of_ble_eq_true rfl) (Ld.appOw (Nat.le_of_ble_eq_true rfl) rfl rfl .read (by (simp; omega))) (by (exact .row (by repeat (first | exact .refl | refine .cons ?_)))) (fun _ => ?_)
    refine JD.each1 (i := 7) (by kernel_rfl) ?_
    refine JS.loud rfl rfl rfl (Nat.le_of_ble_eq_true rfl) (Ld.appOw (Nat.le_of_ble_eq_true rfl) rfl rfl .ownC (by (simp; omega))) (by (exact .row (by repeat (first | exact .refl | refine .cons ?_)))) (fun _ => ?_)
    refine JD.each1 (i := 8) (by kernel_rfl) ?_
    refine JS.q rfl rfl rfl (Nat.le_of_ble_eq_true rfl) (Qt.assign rfl) ?_
    refine JD.done (by kernel_rfl) ?_
    rotate_left
    all_goals
      repeat (first
          | (refine K.move ?_; refine JO.q rfl rfl (Nat.le_of_ble_eq_true rfl) (Qt.move rfl) ?_)
          | (refine K.assign ?_; refine JO.q rfl rfl (Nat.le_of_ble_eq_true rfl) (Qt.assign rfl) ?_)
          | (refine K.slice ?_; refine JO.q rfl rfl (Nat.le_of_ble_eq_true rfl) ((Qt.sliceR rfl rfl rfl (by omega) (by omega) (by omega)).eq (congrArg (fun z => D.c (A.r 3 z)) h2)) ?_)
          | (refine K.bi ?_; ((refine JO.ld (Ld.appRw (Nat.le_of_ble_eq_true rfl) rfl rfl .read (by (simp; omega))) rfl (fun _ => ?_))))
          | refine JO.nil ?_
          | refine J.seq ?_
          | refine J.region ?_)
      refine J.ret Try.func29 rfl (.cons (.tmp rfl) .nil) () (.of_eq ?_) [] .nil rfl rfl
      simp
      rfl
  · refine J.loop (ι := { q : List Ta.Pt × List Ta.Pt // l = q.1 ++ q.2 ∧ ∀ y ∈ q.2, e.step < y.step }) (fun q => [(5, .c (nI q.1.1.length)), (0, .c (.r 3 (l.map ePt))), (3, .c (.v (.pointer (some ⟨b, 0, none⟩))))]) (fun q => [.box b 39 (ePt e)]) (fun q => q.1.1.length) ⟨(l, []), by simp, by simp⟩ (fun X h => h.weak ⟨rfl, rfl, rfl, trivial⟩) (fun q ih => ?_)
    obtain ⟨⟨S1, S2⟩, qS, qx⟩ := q
    simp only at qS qx ih ⊢
    rcases List.eq_nil_or_concat S1 with h | ⟨S1', z, h⟩
    · have t2 : decide ((S1.length : Int) > 0) = false := decide_eq_false (by rw [h]; simp)
      repeat ((refine J.seq ?_))
      refine J.draw (by kernel_rfl) rfl ?_
      refine JW.base none ?_
      refine JD.take 0 rfl rfl (by kernel_rfl) rfl (Nat.le_of_ble_eq_true rfl) (Qt.move rfl) rfl ?_
      refine JD.take 1 rfl rfl (by kernel_rfl) rfl (Nat.le_of_ble_eq_true rfl) (Qt.cmp rfl rfl (congrArg some t2)) rfl ?_
      refine JD.take 2 rfl rfl (by kernel_rfl) rfl (Nat.le_of_ble_eq_true rfl) (Qt.move rfl) rfl ?_
      (refine JD.skip 3 rfl rfl (by kernel_rfl) rfl (Nat.le_of_ble_eq_true rfl) ?_)
      (refine JD.skip 4 rfl rfl (by kernel_rfl) rfl (Nat.le_of_ble_eq_true rfl) ?_)
      (refine JD.skip 5 rfl rfl (by kernel_rfl) rfl (Nat.le_of_ble_eq_true rfl) ?_)
      refine JD.skip 6 rfl rfl (by kernel_rfl) rfl (Nat.le_of_ble_eq_true rfl) ?_
      (refine JD.skip 7 rfl rfl (by kernel_rfl) rfl (Nat.le_of_ble_eq_true rfl) ?_)
      (refine JD.skip 8 rfl rfl (by kernel_rfl) rfl (Nat.le_of_ble_eq_true rfl) ?_)
      (refine JD.skip 9 rfl rfl (by kernel_rfl) rfl (Nat.le_of_ble_eq_true rfl) ?_)
      (refine JD.skip 10 rfl rfl (by kernel_rfl) rfl (Nat.le_of_ble_eq_true rfl) ?_)
      (refine JD.skip 11 rfl rfl (by kernel_rfl) rfl (Nat.le_of_ble_eq_true rfl) ?_)
      refine JD.take 12 rfl rfl (by kernel_rfl) rfl (Nat.le_of_ble_eq_true rfl) (Qt.pick rfl rfl) rfl ?_
      refine JD.done (by kernel_rfl) ?_
      repeat (first
          | refine J.exit rfl ?_
          | refine J.cond_f rfl ?_)
      exact (rest ⟨(S1, S2), qS, qx, .inl h⟩).weak ⟨rfl, rfl, rfl, trivial⟩
    · rw [List.concat_eq_append] at h
      subst h
      have l1 : (S1' ++ [z]).length = S1'.length + 1 := by simp
      rw [l1]
      have ll : l.length = S1'.length + 1 + S2.length := by rw [qS]; simp; omega
      have t2 : decide (((S1'.length + 1 : Nat) : Int) > 0) = true := decide_eq_true (by omega)
      have w2 : IntKind.i64.wrap (((S1'.length + 1 : Nat) : Int) - 1) = ((S1'.length : Nat) : Int) := by rw [w64 (by omega) (by omega)]; omega
      have a1 : l[S1'.length]? = some z := by rw [qS, show S1' ++ [z] ++ S2 = S1' ++ z :: S2 by simp]; exact Ss.at_app _ _ _
      have b1 := s_at (enc := ePt) a1
      have z1 : (0 : Int) ≤ ((S1'.length : Nat) : Int) := Int.natCast_nonneg _
      cases t3 : decide (z.step > e.step) with
      | true =>
        repeat ((refine J.seq ?_))
        refine J.draw (by kernel_rfl) rfl ?_
        refine JW.base none ?_
        refine JD.take 0 rfl rfl (by kernel_rfl) rfl (Nat.le_of_ble_eq_true rfl) (Qt.move rfl) rfl ?_
        refine JD.take 1 rfl rfl (by kernel_rfl) rfl (Nat.le_of_ble_eq_true rfl) (Qt.cmp rfl rfl (congrArg some t2)) rfl ?_
        refine JD.take 2 rfl rfl (by kernel_rfl) rfl (Nat.le_of_ble_eq_true rfl) (Qt.move rfl) rfl ?_
        (refine JD.take 3 rfl rfl (by kernel_rfl) rfl (Nat.le_of_ble_eq_true rfl) (Qt.move rfl) rfl ?_)
        (refine JD.take 4 rfl rfl (by kernel_rfl) rfl (Nat.le_of_ble_eq_true rfl) (Qt.move rfl) rfl ?_)
        (refine JD.take 5 rfl rfl (by kernel_rfl) rfl (Nat.le_of_ble_eq_true rfl) (Qt.ari rfl rfl rfl w2) rfl ?_)
        (refine JD.take 6 rfl rfl (by kernel_rfl) rfl (Nat.le_of_ble_eq_true rfl) (Qt.indexR rfl rfl z1 b1) rfl ?_)
        (refine JD.take 7 rfl rfl (by kernel_rfl) rfl (Nat.le_of_ble_eq_true rfl) (Qt.fieldAddr rfl rfl) rfl ?_)
        (refine JD.take 8 rfl rfl (by kernel_rfl) rfl (Nat.le_of_ble_eq_true rfl) (Qt.load1 rfl .el rfl) rfl ?_)
        (refine JD.take 9 rfl rfl (by kernel_rfl) rfl (Nat.le_of_ble_eq_true rfl) (Qt.fieldAddr rfl rfl) rfl ?_)
        (refine JD.take 10 rfl rfl (by kernel_rfl) rfl (Nat.le_of_ble_eq_true rfl) (Qt.load1b rfl (by exact rfl)) rfl ?_)
        (refine JD.take 11 rfl rfl (by kernel_rfl) rfl (Nat.le_of_ble_eq_true rfl) (Qt.cmp rfl rfl (congrArg some t3)) rfl ?_)
        refine JD.take 12 rfl rfl (by kernel_rfl) rfl (Nat.le_of_ble_eq_true rfl) (Qt.pick rfl rfl) rfl ?_
        refine JD.done (by kernel_rfl) ?_
        repeat (first
            | (refine K.move ?_; refine JO.q rfl rfl (Nat.le_of_ble_eq_true rfl) (Qt.move rfl) ?_)
            | (refine K.assign ?_; refine JO.q rfl rfl (Nat.le_of_ble_eq_true rfl) (Qt.assign rfl) ?_)
            | (refine K.binOp ?_; (refine JO.q rfl rfl (Nat.le_of_ble_eq_true rfl) ((Qt.ari rfl rfl rfl w2)) ?_))
            | refine JO.nil ?_
            | refine J.region ?_
            | refine J.block ?_
            | refine J.inBlock ?_
            | refine J.skip ?_
            | refine J.cond_t rfl ?_)
        exact (ih ⟨(S1', z :: S2), by rw [qS]; simp, by simp only [List.mem_cons]; rintro y (rfl | hy); exact of_decide_eq_true t3; exact qx y hy⟩ (by simp)).weak ⟨rfl, rfl, rfl, trivial⟩
      | false =>
        repeat ((refine J.seq ?_))
        refine J.draw (by kernel_rfl) rfl ?_
        refine JW.base none ?_
        refine JD.take 0 rfl rfl (by kernel_rfl) rfl (Nat.le_of_ble_eq_true rfl) (Qt.move rfl) rfl ?_
        refine JD.take 1 rfl rfl (by kernel_rfl) rfl (Nat.le_of_ble_eq_true rfl) (Qt.cmp rfl rfl (congrArg some t2)) rfl ?_
        refine JD.take 2 rfl rfl (by kernel_rfl) rfl (Nat.le_of_ble_eq_true rfl) (Qt.move rfl) rfl ?_
        (refine JD.take 3 rfl rfl (by kernel_rfl) rfl (Nat.le_of_ble_eq_true rfl) (Qt.move rfl) rfl ?_)
        (refine JD.take 4 rfl rfl (by kernel_rfl) rfl (Nat.le_of_ble_eq_true rfl) (Qt.move rfl) rfl ?_)
        (refine JD.take 5 rfl rfl (by kernel_rfl) rfl (Nat.le_of_ble_eq_true rfl) (Qt.ari rfl rfl rfl w2) rfl ?_)
        (refine JD.take 6 rfl rfl (by kernel_rfl) rfl (Nat.le_of_ble_eq_true rfl) (Qt.indexR rfl rfl z1 b1) rfl ?_)
        (refine JD.take 7 rfl rfl (by kernel_rfl) rfl (Nat.le_of_ble_eq_true rfl) (Qt.fieldAddr rfl rfl) rfl ?_)
        (refine JD.take 8 rfl rfl (by kernel_rfl) rfl (Nat.le_of_ble_eq_true rfl) (Qt.load1 rfl .el rfl) rfl ?_)
        (refine JD.take 9 rfl rfl (by kernel_rfl) rfl (Nat.le_of_ble_eq_true rfl) (Qt.fieldAddr rfl rfl) rfl ?_)
        (refine JD.take 10 rfl rfl (by kernel_rfl) rfl (Nat.le_of_ble_eq_true rfl) (Qt.load1b rfl (by exact rfl)) rfl ?_)
        (refine JD.take 11 rfl rfl (by kernel_rfl) rfl (Nat.le_of_ble_eq_true rfl) (Qt.cmp rfl rfl (congrArg some t3)) rfl ?_)
        refine JD.take 12 rfl rfl (by kernel_rfl) rfl (Nat.le_of_ble_eq_true rfl) (Qt.pick rfl rfl) rfl ?_
        refine JD.done (by kernel_rfl) ?_
        repeat (first
            | refine J.exit rfl ?_
            | refine J.cond_f rfl ?_)
        exact (rest ⟨(S1' ++ [z], S2), qS, qx, .inr ⟨S1', z, rfl, by have := of_decide_eq_false t3; omega⟩⟩).weak ⟨by rw [l1]; rfl, rfl, rfl, trivial⟩
end Fl
end Go.Proofs.Ytgjpdogjekmemaa
