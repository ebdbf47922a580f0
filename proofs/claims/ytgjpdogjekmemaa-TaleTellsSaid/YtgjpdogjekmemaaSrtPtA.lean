/-
  slices.SortStableFunc at elements of type handoff/tale.Point: it is the stable sort.
  Conditions: none.
-/
import Derived.Test.YtgjpdogjekmemaaSrtB
namespace Go.Proofs.Ytgjpdogjekmemaa
open Go.RowKit
set_option linter.unusedVariables false
set_option linter.unusedSimpArgs false
set_option linter.unnecessarySimpa false
namespace Fl
set_option maxRecDepth 100000
set_option maxHeartbeats 4000000
section
variable {α : Type} {enc : α → List A} {key : α → Int} {fv : Value} {C : List Res}
theorem s_insPt (CF : CmpFn Try.prog fv C enc key) (hz : ∀ x, (enc x).length = 3) (v : Value) (X A0 Y : List α) (hs : X.length + A0.length + Y.length ≤ 1000000) :
    Con Try.prog 92 [.c (.v v), .c (nI X.length), .c (nI (X.length + A0.length : Nat)), .c (.v fv)] (.row v 38 3 ((X ++ A0 ++ Y).map enc) :: C) (fun _ : Unit => (.tup [], .row v 38 3 ((X ++ Ss.srt key A0 ++ Y).map enc) :: C)) := by
  refine Con.intro Try.func92 rfl rfl rfl (fun ok e => ?_)
  have w0 : IntKind.i64.wrap ((X.length : Int) + 1) = ((X.length + 1 : Nat) : Int) := by rw [w64 (by omega) (by omega)]; omega
  repeat (first
      | (refine K.move ?_; refine JO.q rfl rfl (Nat.le_of_ble_eq_true rfl) (Qt.move rfl) ?_)
      | (refine K.assign ?_; refine JO.q rfl rfl (Nat.le_of_ble_eq_true rfl) (Qt.assign rfl) ?_)
      | (refine K.binOp ?_; (refine JO.q rfl rfl (Nat.le_of_ble_eq_true rfl) ((Qt.ari rfl rfl rfl w0)) ?_))
      | refine JO.nil ?_
      | refine J.seq ?_
      | refine J.region ?_
      | refine J.block ?_)
  have e0 : A0 = Ss.srt key (A0.take 1) ++ A0.drop 1 := by cases A0 <;> rfl
  refine J.congL (L' := .row v 38 3 ((X ++ (Ss.srt key (A0.take 1) ++ A0.drop 1) ++ Y).map enc) :: C) (by rw [← e0]) ?_
  refine J.loop (ι := { k : Nat // 1 ≤ k ∧ k ≤ A0.length + 1 }) (fun q => [(8, .c (nI (X.length + q.1 : Nat))), (0, .c (.v v)), (1, .c (nI X.length)), (2, .c (nI (X.length + A0.length : Nat))), (3, .c (.v fv))]) (fun q => .row v 38 3 ((X ++ (Ss.srt key (A0.take q.1) ++ A0.drop q.1) ++ Y).map enc) :: C) (fun q => A0.length - q.1) ⟨1, Nat.le_refl _, by omega⟩ (fun X h => h.weak ⟨rfl, rfl, rfl, rfl, rfl, trivial⟩) (fun q ih => ?_)
  obtain ⟨k, k1, k2⟩ := q
  simp only at k1 k2 ih ⊢
  by_cases hk : k < A0.length
  · have t1 : decide (((X.length + k : Nat) : Int) < ((X.length + A0.length : Nat) : Int)) = true := decide_eq_true (by omega)
    obtain ⟨x, hx⟩ : ∃ x, A0[k]? = some x := ⟨_, List.getElem?_eq_getElem hk⟩
    have hd : A0.drop k = x :: A0.drop (k + 1) := by rw [List.drop_eq_getElem_cons hk]; rw [List.getElem?_eq_getElem hk] at hx; cases hx; rfl
    have ht : A0.take (k + 1) = A0.take k ++ [x] := by rw [List.take_add_one, hx]; rfl
    have ih1 := ih ⟨k + 1, by omega, by omega⟩ (by simp only; omega)
    clear ih
    simp only at ih1
    rw [ht, Ss.srt_snoc] at ih1
    have lS : (Ss.srt key (A0.take k)).length = k := by rw [Ss.srt_len, List.length_take]; omega
    rw [hd]
    have lD : (A0.drop (k + 1)).length = A0.length - (k + 1) := List.length_drop
    generalize A0.drop (k + 1) = D at ih1 lD ⊢
    generalize Ss.srt key (A0.take k) = S at ih1 lS ⊢
    repeat (first
        | (refine K.move ?_; refine JO.q rfl rfl (Nat.le_of_ble_eq_true rfl) (Qt.move rfl) ?_)
        | (refine K.assign ?_; refine JO.q rfl rfl (Nat.le_of_ble_eq_true rfl) (Qt.assign rfl) ?_)
        | (refine K.binOp ?_; (refine JO.q rfl rfl (Nat.le_of_ble_eq_true rfl) (Qt.cmp rfl rfl (congrArg some t1)) ?_))
        | refine JO.nil ?_
        | refine J.seq ?_
        | refine J.region ?_
        | refine J.block ?_
        | refine J.skip ?_
        | refine J.cond_t rfl ?_)
    refine J.congL (L' := .row v 38 3 ((X ++ (S ++ x :: [] ++ D) ++ Y).map enc) :: C) (by simp) ?_
    refine J.loop (ι := { q : List α × List α // S = q.1 ++ q.2 ∧ ∀ y ∈ q.2, key x < key y }) (fun q => [(9, .c (nI (X.length + q.1.1.length : Nat))), (8, .c (nI (X.length + k : Nat))), (0, .c (.v v)), (1, .c (nI X.length)), (2, .c (nI (X.length + A0.length : Nat))), (3, .c (.v fv))]) (fun q => .row v 38 3 ((X ++ (q.1.1 ++ x :: q.1.2 ++ D) ++ Y).map enc) :: C) (fun q => q.1.1.length) ⟨(S, []), by simp, by simp⟩ (fun X h => h.weak ⟨by rw [lS]; rfl, rfl, rfl, rfl, rfl, rfl, trivial⟩) (fun q ih2 => ?_)
    obtain ⟨⟨S1, S2⟩, qS, qx⟩ := q
    simp only at qS qx ih2 ⊢
    have w1 : IntKind.i64.wrap (((X.length + k : Nat) : Int) + 1) = ((X.length + (k + 1) : Nat) : Int) := by rw [w64 (by omega) (by omega)]; omega
    have out : (S1 = [] ∨ ∃ A' a, S1 = A' ++ [a] ∧ key a ≤ key x) → Ss.ins key S x = S1 ++ x :: S2 := fun h => by rw [qS]; exact Ss.ins_app x S1 S2 qx h
    rcases List.eq_nil_or_concat S1 with h | ⟨S1', z, h⟩
    · have t2 : decide (((X.length + S1.length : Nat) : Int) > (X.length : Int)) = false := decide_eq_false (by rw [h]; simp)
      have ho := out (.inl h)
      repeat ((refine J.seq ?_))
      refine J.draw (by kernel_rfl) rfl ?_
      refine JW.base none ?_
      refine JD.take 0 rfl rfl (by kernel_rfl) rfl (Nat.le_of_ble_eq_true rfl) (Qt.move rfl) rfl ?_
      refine JD.take 1 rfl rfl (by kernel_rfl) rfl (Nat.le_of_ble_eq_true rfl) (Qt.move rfl) rfl ?_
      refine JD.take 2 rfl rfl (by kernel_rfl) rfl (Nat.le_of_ble_eq_true rfl) (Qt.cmp rfl rfl (congrArg some t2)) rfl ?_
      refine JD.take 3 rfl rfl (by kernel_rfl) rfl (Nat.le_of_ble_eq_true rfl) (Qt.move rfl) rfl ?_
      (refine JD.skip 4 rfl rfl (by kernel_rfl) rfl (Nat.le_of_ble_eq_true rfl) ?_)
      (refine JD.skip 5 rfl rfl (by kernel_rfl) rfl (Nat.le_of_ble_eq_true rfl) ?_)
      (refine JD.skip 6 rfl rfl (by kernel_rfl) rfl (Nat.le_of_ble_eq_true rfl) ?_)
      refine JD.skip 7 rfl rfl (by kernel_rfl) rfl (Nat.le_of_ble_eq_true rfl) ?_
      (refine JD.skip 8 rfl rfl (by kernel_rfl) rfl (Nat.le_of_ble_eq_true rfl) ?_)
      (refine JD.skip 9 rfl rfl (by kernel_rfl) rfl (Nat.le_of_ble_eq_true rfl) ?_)
      (refine JD.skip 10 rfl rfl (by kernel_rfl) rfl (Nat.le_of_ble_eq_true rfl) ?_)
      (refine JD.skip 11 rfl rfl (by kernel_rfl) rfl (Nat.le_of_ble_eq_true rfl) ?_)
      refine JD.skip 12 rfl rfl (by kernel_rfl) rfl (Nat.le_of_ble_eq_true rfl) ?_
      (refine JD.skip 13 rfl rfl (by kernel_rfl) rfl (Nat.le_of_ble_eq_true rfl) ?_)
      (refine JD.skip 14 rfl rfl (by kernel_rfl) rfl (Nat.le_of_ble_eq_true rfl) ?_)
      (refine JD.skip 15 rfl rfl (by kernel_rfl) rfl (Nat.le_of_ble_eq_true rfl) ?_)
      refine JD.take 16 rfl rfl (by kernel_rfl) rfl (Nat.le_of_ble_eq_true rfl) (Qt.pick rfl rfl) rfl ?_
      refine JD.done (by kernel_rfl) ?_
      repeat (first
          | (refine K.move ?_; refine JO.q rfl rfl (Nat.le_of_ble_eq_true rfl) (Qt.move rfl) ?_)
          | (refine K.assign ?_; refine JO.q rfl rfl (Nat.le_of_ble_eq_true rfl) (Qt.assign rfl) ?_)
          | (refine K.binOp ?_; (refine JO.q rfl rfl (Nat.le_of_ble_eq_true rfl) ((Qt.ari rfl rfl rfl w1)) ?_))
          | refine JO.nil ?_
          | refine J.region ?_
          | refine J.inBlock ?_
          | refine J.exit rfl ?_
          | refine J.cond_f rfl ?_)
      refine J.congL ?_ (ih1.weak ⟨rfl, rfl, rfl, rfl, rfl, trivial⟩)
      rw [ho]
    · rw [List.concat_eq_append] at h
      subst h
      have l1 : (S1' ++ [z]).length = S1'.length + 1 := by simp
      have lq : k = S1'.length + 1 + S2.length := by rw [← lS, qS]; simp; omega
      rw [l1]
      have t2 : decide (((X.length + (S1'.length + 1) : Nat) : Int) > (X.length : Int)) = true := decide_eq_true (by omega)
      have w2 : IntKind.i64.wrap (((X.length + (S1'.length + 1) : Nat) : Int) - 1) = ((X.length + S1'.length : Nat) : Int) := by rw [w64 (by omega) (by omega)]; omega
      have er : X ++ (S1' ++ [z] ++ x :: S2 ++ D) ++ Y = (X ++ S1') ++ z :: x :: (S2 ++ D ++ Y) := by simp
      rw [er]
      have a1 : ((X ++ S1') ++ z :: x :: (S2 ++ D ++ Y))[X.length + S1'.length]? = some z := by rw [show X.length + S1'.length = (X ++ S1').length by simp]; exact Ss.at_app _ _ _
      have a2 : ((X ++ S1') ++ z :: x :: (S2 ++ D ++ Y))[X.length + (S1'.length + 1)]? = some x := by rw [show X.length + (S1'.length + 1) = ((X ++ S1') ++ [z]).length by simp only [List.length_append, List.length_singleton]; omega, show (X ++ S1') ++ z :: x :: (S2 ++ D ++ Y) = ((X ++ S1') ++ [z]) ++ x :: (S2 ++ D ++ Y) by simp]; exact Ss.at_app _ _ _
      have b1 := s_at (enc := enc) a1
      have b2 := s_at (enc := enc) a2
      have c1 := s_lt' (enc := enc) a1
      have c2 := s_lt' (enc := enc) a2
      have z1 : (0 : Int) ≤ ((X.length + S1'.length : Nat) : Int) := Int.natCast_nonneg _
      have z2 : (0 : Int) ≤ ((X.length + (S1'.length + 1) : Nat) : Int) := Int.natCast_nonneg _
      have sw := s_sw (enc := enc) a2 a1
      rw [Ss.sw_comm, Ss.sw_adj (X ++ S1') z x (S2 ++ D ++ Y) _ _ (by simp) (by simp; omega)] at sw
      generalize hR : (X ++ S1') ++ z :: x :: (S2 ++ D ++ Y) = R at er b1 b2 c1 c2 sw ⊢
      cases t3 : decide (key x < key z) with
      | false =>
        have ho := out (.inr ⟨S1', z, rfl, by have := of_decide_eq_false t3; omega⟩)
        repeat ((refine J.seq ?_))
        refine J.draw (by kernel_rfl) rfl ?_
        refine JW.base none ?_
        refine JD.take 0 rfl rfl (by kernel_rfl) rfl (Nat.le_of_ble_eq_true rfl) (Qt.move rfl) rfl ?_
        refine JD.take 1 rfl rfl (by kernel_rfl) rfl (Nat.le_of_ble_eq_true rfl) (Qt.move rfl) rfl ?_
        refine JD.take 2 rfl rfl (by kernel_rfl) rfl (Nat.le_of_ble_eq_true rfl) (Qt.cmp rfl rfl (congrArg some t2)) rfl ?_
        refine JD.take 3 rfl rfl (by kernel_rfl) rfl (Nat.le_of_ble_eq_true rfl) (Qt.move rfl) rfl ?_
        (refine JD.take 4 rfl rfl (by kernel_rfl) rfl (Nat.le_of_ble_eq_true rfl) (Qt.move rfl) rfl ?_)
        (refine JD.take 5 rfl rfl (by kernel_rfl) rfl (Nat.le_of_ble_eq_true rfl) (Qt.move rfl) rfl ?_)
        (refine JD.take 6 rfl rfl (by kernel_rfl) rfl (Nat.le_of_ble_eq_true rfl) (Qt.move rfl) rfl ?_)
        (refine JD.take 7 rfl rfl (by kernel_rfl) rfl (Nat.le_of_ble_eq_true rfl) (Qt.indexO rfl rfl z2 c2) rfl ?_)
        (refine JD.take 8 rfl rfl (by kernel_rfl) rfl (Nat.le_of_ble_eq_true rfl) (Qt.loadWo rfl b2 (hz _)) rfl ?_)
        (refine JD.take 9 rfl rfl (by kernel_rfl) rfl (Nat.le_of_ble_eq_true rfl) (Qt.move rfl) rfl ?_)
        (refine JD.take 10 rfl rfl (by kernel_rfl) rfl (Nat.le_of_ble_eq_true rfl) (Qt.move rfl) rfl ?_)
        (refine JD.take 11 rfl rfl (by kernel_rfl) rfl (Nat.le_of_ble_eq_true rfl) (Qt.ari rfl rfl rfl w2) rfl ?_)
        (refine JD.take 12 rfl rfl (by kernel_rfl) rfl (Nat.le_of_ble_eq_true rfl) (Qt.indexO rfl rfl z1 c1) rfl ?_)
        (refine JD.take 13 rfl rfl (by kernel_rfl) rfl (Nat.le_of_ble_eq_true rfl) (Qt.loadWo rfl b1 (hz _)) rfl ?_)
        refine JD.each1 (i := 14) (by kernel_rfl) ?_
        refine JS.loud rfl rfl rfl (Nat.le_of_ble_eq_true rfl) (Ld.cmpV CF x z ⟨[_], rfl⟩ (Nat.le_of_ble_eq_true rfl) rfl rfl rfl) (by (exact .none)) (fun _ => ?_)
        (refine JD.take 15 rfl rfl (by kernel_rfl) rfl (Nat.le_of_ble_eq_true rfl) (Qt.cmp rfl rfl (congrArg some (cq_lt t3))) rfl ?_)
        refine JD.each1 (i := 16) (by kernel_rfl) ?_
        refine JS.q rfl rfl rfl (Nat.le_of_ble_eq_true rfl) (Qt.pick rfl rfl) ?_
        refine JD.done (by kernel_rfl) ?_
        repeat (first
            | (refine K.move ?_; refine JO.q rfl rfl (Nat.le_of_ble_eq_true rfl) (Qt.move rfl) ?_)
            | (refine K.assign ?_; refine JO.q rfl rfl (Nat.le_of_ble_eq_true rfl) (Qt.assign rfl) ?_)
            | (refine K.binOp ?_; (refine JO.q rfl rfl (Nat.le_of_ble_eq_true rfl) ((Qt.ari rfl rfl rfl w1)) ?_))
            | refine JO.nil ?_
            | refine J.region ?_
            | refine J.inBlock ?_
            | refine J.exit rfl ?_
            | refine J.cond_f rfl ?_)
        refine J.congL ?_ (ih1.weak ⟨rfl, rfl, rfl, rfl, rfl, trivial⟩)
        rw [ho, er]
      | true =>
        have sz := hz
        have b3 : (R.map enc).set ((X.length + (S1'.length + 1) : Nat) : Int).toNat (enc z) = ((R.map enc).set ((X.length + (S1'.length + 1) : Nat) : Int).toNat (enc z)) := rfl
        have lt1 : ((X.length + (S1'.length + 1) : Nat) : Int).toNat < (R.map enc).length := by omega
        have lt2 : ((X.length + S1'.length : Nat) : Int).toNat < ((R.map enc).set ((X.length + (S1'.length + 1) : Nat) : Int).toNat (enc z)).length := by rw [List.length_set]; omega
        repeat ((refine J.seq ?_))
        refine J.draw (by kernel_rfl) rfl ?_
        refine JW.base none ?_
        refine JD.take 0 rfl rfl (by kernel_rfl) rfl (Nat.le_of_ble_eq_true rfl) (Qt.move rfl) rfl ?_
        refine JD.take 1 rfl rfl (by kernel_rfl) rfl (Nat.le_of_ble_eq_true rfl) (Qt.move rfl) rfl ?_
        refine JD.take 2 rfl rfl (by kernel_rfl) rfl (Nat.le_of_ble_eq_true rfl) (Qt.cmp rfl rfl (congrArg some t2)) rfl ?_
        refine JD.take 3 rfl rfl (by kernel_rfl) rfl (Nat.le_of_ble_eq_true rfl) (Qt.move rfl) rfl ?_
        (refine JD.take 4 rfl rfl (by kernel_rfl) rfl (Nat.le_of_ble_eq_true rfl) (Qt.move rfl) rfl ?_)
        (refine JD.take 5 rfl rfl (by kernel_rfl) rfl (Nat.le_of_ble_eq_true rfl) (Qt.move rfl) rfl ?_)
        (refine JD.take 6 rfl rfl (by kernel_rfl) rfl (Nat.le_of_ble_eq_true rfl) (Qt.move rfl) rfl ?_)
        (refine JD.take 7 rfl rfl (by kernel_rfl) rfl (Nat.le_of_ble_eq_true rfl) (Qt.indexO rfl rfl z2 c2) rfl ?_)
        (refine JD.take 8 rfl rfl (by kernel_rfl) rfl (Nat.le_of_ble_eq_true rfl) (Qt.loadWo rfl b2 (hz _)) rfl ?_)
        (refine JD.take 9 rfl rfl (by kernel_rfl) rfl (Nat.le_of_ble_eq_true rfl) (Qt.move rfl) rfl ?_)
        (refine JD.take 10 rfl rfl (by kernel_rfl) rfl (Nat.le_of_ble_eq_true rfl) (Qt.move rfl) rfl ?_)
        (refine JD.take 11 rfl rfl (by kernel_rfl) rfl (Nat.le_of_ble_eq_true rfl) (Qt.ari rfl rfl rfl w2) rfl ?_)
        (refine JD.take 12 rfl rfl (by kernel_rfl) rfl (Nat.le_of_ble_eq_true rfl) (Qt.indexO rfl rfl z1 c1) rfl ?_)
        (refine JD.take 13 rfl rfl (by kernel_rfl) rfl (Nat.le_of_ble_eq_true rfl) (Qt.loadWo rfl b1 (hz _)) rfl ?_)
        refine JD.each1 (i := 14) (by kernel_rfl) ?_
        refine JS.loud rfl rfl rfl (Nat.le_of_ble_eq_true rfl) (Ld.cmpV CF x z ⟨[_], rfl⟩ (Nat.le_of_ble_eq_true rfl) rfl rfl rfl) (by (exact .none)) (fun _ => ?_)
        (refine JD.take 15 rfl rfl (by kernel_rfl) rfl (Nat.le_of_ble_eq_true rfl) (Qt.cmp rfl rfl (congrArg some (cq_lt t3))) rfl ?_)
        refine JD.each1 (i := 16) (by kernel_rfl) ?_
        refine JS.q rfl rfl rfl (Nat.le_of_ble_eq_true rfl) (Qt.pick rfl rfl) ?_
        refine JD.done (by kernel_rfl) ?_
        repeat (first
            | refine J.seq ?_
            | refine J.block ?_
            | refine J.skip ?_
            | refine J.cond_t rfl ?_)
        refine J.draw (by kernel_rfl) rfl ?_
        refine JW.base1 none (.tmp 0) rfl ?_
        refine JD.take 0 rfl rfl (by kernel_rfl) rfl (Nat.le_of_ble_eq_true rfl) (Qt.move rfl) rfl ?_
        refine JD.take 1 rfl rfl (by kernel_rfl) rfl (Nat.le_of_ble_eq_true rfl) (Qt.move rfl) rfl ?_
        refine JD.take 2 rfl rfl (by kernel_rfl) rfl (Nat.le_of_ble_eq_true rfl) (Qt.move rfl) rfl ?_
        refine JD.take 3 rfl rfl (by kernel_rfl) rfl (Nat.le_of_ble_eq_true rfl) (Qt.move rfl) rfl ?_
        refine JD.take 4 rfl rfl (by kernel_rfl) rfl (Nat.le_of_ble_eq_true rfl) (Qt.ari rfl rfl rfl w2) rfl ?_
        refine JD.take 5 rfl rfl (by kernel_rfl) rfl (Nat.le_of_ble_eq_true rfl) (Qt.move rfl) rfl ?_
        refine JD.take 6 rfl rfl (by kernel_rfl) rfl (Nat.le_of_ble_eq_true rfl) (Qt.move rfl) rfl ?_
        refine JD.take 7 rfl rfl (by kernel_rfl) rfl (Nat.le_of_ble_eq_true rfl) (Qt.ari rfl rfl rfl w2) rfl ?_
        refine JD.take 8 rfl rfl (by kernel_rfl) rfl (Nat.le_of_ble_eq_true rfl) (Qt.indexO rfl rfl z1 c1) rfl ?_
        refine JD.take 10 rfl rfl (by kernel_rfl) rfl (Nat.le_of_ble_eq_true rfl) (Qt.move rfl) rfl ?_
        refine JD.take 11 rfl rfl (by kernel_rfl) rfl (Nat.le_of_ble_eq_true rfl) (Qt.move rfl) rfl ?_
        refine JD.take 12 rfl rfl (by kernel_rfl) rfl (Nat.le_of_ble_eq_true rfl) (Qt.indexO rfl rfl z2 c2) rfl ?_
        refine JD.each2 (i := 9) (j := 13) (by kernel_rfl) ?_ ?_
        refine JS.q rfl rfl rfl (Nat.le_of_ble_eq_true rfl) (Qt.loadWo rfl b1 (hz _)) ?_
        refine JD.each1 (i := 13) (by kernel_rfl) ?_
        refine JS.q rfl rfl rfl (Nat.le_of_ble_eq_true rfl) (Qt.loadWo rfl b2 (hz _)) ?_
        refine JD.take 14 rfl rfl (by kernel_rfl) rfl (Nat.le_of_ble_eq_true rfl) (Qt.indexO rfl rfl z2 c2) rfl ?_
        refine JD.each1 (i := 15) (by kernel_rfl) ?_
        refine JS.st rfl rfl rfl (Ld.storeOW rfl rfl rfl (hz _) lt1) (by (exact .trow rfl)) (fun _ => ?_)
        refine JD.take 16 rfl rfl (by kernel_rfl) rfl (Nat.le_of_ble_eq_true rfl) (Qt.indexO rfl rfl z1 c1) rfl ?_
        refine JD.each1 (i := 17) (by kernel_rfl) ?_
        refine JS.st rfl rfl rfl (Ld.storeOW rfl rfl rfl (hz _) lt2) (by (exact .trow rfl)) (fun _ => ?_)
        refine JD.done (by kernel_rfl) ?_
        rotate_left
        refine JS.q rfl rfl rfl (Nat.le_of_ble_eq_true rfl) (Qt.loadWo rfl b2 (hz _)) ?_
        refine JD.each1 (i := 9) (by kernel_rfl) ?_
        refine JS.q rfl rfl rfl (Nat.le_of_ble_eq_true rfl) (Qt.loadWo rfl b1 (hz _)) ?_
        refine JD.take 14 rfl rfl (by kernel_rfl) rfl (Nat.le_of_ble_eq_true rfl) (Qt.indexO rfl rfl z2 c2) rfl ?_
        refine JD.each1 (i := 15) (by kernel_rfl) ?_
        refine JS.st rfl rfl rfl (Ld.storeOW rfl rfl rfl (hz _) lt1) (by (exact .trow rfl)) (fun _ => ?_)
        refine JD.take 16 rfl rfl (by kernel_rfl) rfl (Nat.le_of_ble_eq_true rfl) (Qt.indexO rfl rfl z1 c1) rfl ?_
        refine JD.each1 (i := 17) (by kernel_rfl) ?_
        refine JS.st rfl rfl rfl (Ld.storeOW rfl rfl rfl (hz _) lt2) (by (exact .trow rfl)) (fun _ => ?_)
        refine JD.done (by kernel_rfl) ?_
        rotate_left
        all_goals
          repeat (first
              | (refine K.move ?_; refine JO.q rfl rfl (Nat.le_of_ble_eq_true rfl) (Qt.move rfl) ?_)
              | (refine K.assign ?_; refine JO.q rfl rfl (Nat.le_of_ble_eq_true rfl) (Qt.assign rfl) ?_)
              | (refine K.binOp ?_; (refine JO.q rfl rfl (Nat.le_of_ble_eq_true rfl) ((Qt.ari rfl rfl rfl w2)) ?_))
              | refine JO.nil ?_
              | refine J.region ?_
              | refine J.inBlock ?_)
          refine J.congL ?_ ((ih2 ⟨(S1', z :: S2), by simp [qS], by simp only [List.mem_cons]; rintro y (rfl | hy); exact of_decide_eq_true t3; exact qx y hy⟩ (by simp only; omega)).weak ⟨rfl, rfl, rfl, rfl, rfl, rfl, trivial⟩)
          simp only
          refine congrArg (fun r => Res.row v 38 3 r :: C) (Eq.trans ?_ sw.symm)
          simp
  · have t1 : decide (((X.length + k : Nat) : Int) < ((X.length + A0.length : Nat) : Int)) = false := decide_eq_false (by omega)
    rw [List.take_of_length_le (by omega), List.drop_of_length_le (by omega), List.append_nil]
    repeat (first
        | (refine K.move ?_; refine JO.q rfl rfl (Nat.le_of_ble_eq_true rfl) (Qt.move rfl) ?_)
        | (refine K.binOp ?_; (refine JO.q rfl rfl (Nat.le_of_ble_eq_true rfl) (Qt.cmp rfl rfl (congrArg some t1)) ?_))
        | refine JO.nil ?_
        | refine J.seq ?_
        | refine J.region ?_
        | refine J.exit rfl ?_
        | refine J.cond_f rfl ?_)
    (exact J.finA Try.func92 rfl .nil () (by (exact .refl)) rfl)
theorem s_insAPt (CF : CmpFn Try.prog fv C enc key) (hz : ∀ x, (enc x).length = 3) (v : Value) (l X A0 Y : List α) (a b : Nat) (hl : l = X ++ A0 ++ Y) (ha : a = X.length) (hb : b = a + A0.length) (hs : X.length + A0.length + Y.length ≤ 1000000) :
    Con Try.prog 92 [.c (.v v), .c (nI a), .c (nI b), .c (.v fv)] (.row v 38 3 (l.map enc) :: C) (fun _ : Unit => (.tup [], .row v 38 3 ((X ++ Ss.srt key A0 ++ Y).map enc) :: C)) := by
  subst hl ha hb
  exact s_insPt CF hz v X A0 Y hs
theorem s_swrPt (hz : ∀ x, (enc x).length = 3) (v : Value) (l : List α) (a b n : Nat) (ha : a + n ≤ l.length) (hb : b + n ≤ l.length) (hs : l.length ≤ 1000000) :
    Con Try.prog 103 [.c (.v v), .c (nI a), .c (nI b), .c (nI n), .c (.v fv)] [.row v 38 3 (l.map enc)] (fun _ : Unit => (.tup [], [.row v 38 3 ((Ss.swr l a b n).map enc)])) := by
  refine Con.intro Try.func103 rfl rfl rfl (fun ok e => ?_)
  repeat (first
      | (refine K.assign ?_; refine JO.q rfl rfl (Nat.le_of_ble_eq_true rfl) (Qt.assign rfl) ?_)
      | refine JO.nil ?_
      | refine J.seq ?_
      | refine J.region ?_
      | refine J.block ?_)
  refine J.loop (ι := { i : Nat // i ≤ n }) (fun q => [(10, .c (nI q.1)), (0, .c (.v v)), (1, .c (nI a)), (2, .c (nI b)), (3, .c (nI n)), (4, .c (.v fv))]) (fun q => [.row v 38 3 ((Ss.swr l a b q.1).map enc)]) (fun q => n - q.1) ⟨0, Nat.zero_le _⟩ (fun X h => h.weak ⟨rfl, rfl, rfl, rfl, rfl, rfl, trivial⟩) (fun q ih => ?_)
  obtain ⟨i, hi⟩ := q
  simp only at hi ih ⊢
  by_cases hk : i < n
  · have t1 : decide ((i : Int) < (n : Int)) = true := decide_eq_true (by omega)
    have lR := Ss.swr_len l a b i
    have ih1 := ih ⟨i + 1, by omega⟩ (by simp only; omega)
    clear ih
    simp only [Ss.swr] at ih1
    generalize Ss.swr l a b i = R at lR ih1 ⊢
    obtain ⟨x, a1⟩ : ∃ x, R[a + i]? = some x := ⟨_, List.getElem?_eq_getElem (by omega)⟩
    obtain ⟨y, a2⟩ : ∃ y, R[b + i]? = some y := ⟨_, List.getElem?_eq_getElem (by omega)⟩
    have w1 : IntKind.i64.wrap ((a : Int) + (i : Int)) = ((a + i : Nat) : Int) := s_half (by omega)
    have w2 : IntKind.i64.wrap ((b : Int) + (i : Int)) = ((b + i : Nat) : Int) := s_half (by omega)
    have w3 : IntKind.i64.wrap ((i : Int) + 1) = ((i + 1 : Nat) : Int) := by rw [w64 (by omega) (by omega)]; omega
    have b1 := s_at (enc := enc) a1
    have b2 := s_at (enc := enc) a2
    have c1 := s_lt' (enc := enc) a1
    have c2 := s_lt' (enc := enc) a2
    have z1 : (0 : Int) ≤ ((a + i : Nat) : Int) := Int.natCast_nonneg _
    have z2 : (0 : Int) ≤ ((b + i : Nat) : Int) := Int.natCast_nonneg _
    have sw := s_sw (enc := enc) a1 a2
    have lt1 : ((a + i : Nat) : Int).toNat < (R.map enc).length := by omega
    have lt2 : ((b + i : Nat) : Int).toNat < ((R.map enc).set ((a + i : Nat) : Int).toNat (enc y)).length := by rw [List.length_set]; omega
    repeat (first
        | (refine K.move ?_; refine JO.q rfl rfl (Nat.le_of_ble_eq_true rfl) (Qt.move rfl) ?_)
        | (refine K.binOp ?_; (refine JO.q rfl rfl (Nat.le_of_ble_eq_true rfl) (Qt.cmp rfl rfl (congrArg some t1)) ?_))
        | refine JO.nil ?_
        | refine J.seq ?_
        | refine J.region ?_
        | refine J.block ?_
        | refine J.skip ?_
        | refine J.cond_t rfl ?_)
    refine J.draw (by kernel_rfl) rfl ?_
    refine JW.base1 none (.tmp 0) rfl ?_
    refine JD.take 0 rfl rfl (by kernel_rfl) rfl (Nat.le_of_ble_eq_true rfl) (Qt.move rfl) rfl ?_
    refine JD.take 1 rfl rfl (by kernel_rfl) rfl (Nat.le_of_ble_eq_true rfl) (Qt.move rfl) rfl ?_
    refine JD.take 2 rfl rfl (by kernel_rfl) rfl (Nat.le_of_ble_eq_true rfl) (Qt.move rfl) rfl ?_
    refine JD.take 3 rfl rfl (by kernel_rfl) rfl (Nat.le_of_ble_eq_true rfl) (Qt.ari rfl rfl rfl w1) rfl ?_
    refine JD.take 4 rfl rfl (by kernel_rfl) rfl (Nat.le_of_ble_eq_true rfl) (Qt.move rfl) rfl ?_
    refine JD.take 5 rfl rfl (by kernel_rfl) rfl (Nat.le_of_ble_eq_true rfl) (Qt.move rfl) rfl ?_
    refine JD.take 6 rfl rfl (by kernel_rfl) rfl (Nat.le_of_ble_eq_true rfl) (Qt.move rfl) rfl ?_
    refine JD.take 7 rfl rfl (by kernel_rfl) rfl (Nat.le_of_ble_eq_true rfl) (Qt.ari rfl rfl rfl w2) rfl ?_
    refine JD.take 8 rfl rfl (by kernel_rfl) rfl (Nat.le_of_ble_eq_true rfl) (Qt.move rfl) rfl ?_
    refine JD.take 9 rfl rfl (by kernel_rfl) rfl (Nat.le_of_ble_eq_true rfl) (Qt.move rfl) rfl ?_
    refine JD.take 10 rfl rfl (by kernel_rfl) rfl (Nat.le_of_ble_eq_true rfl) (Qt.move rfl) rfl ?_
    refine JD.take 11 rfl rfl (by kernel_rfl) rfl (Nat.le_of_ble_eq_true rfl) (Qt.ari rfl rfl rfl w2) rfl ?_
    refine JD.take 12 rfl rfl (by kernel_rfl) rfl (Nat.le_of_ble_eq_true rfl) (Qt.indexO rfl rfl z2 c2) rfl ?_
    refine JD.take 14 rfl rfl (by kernel_rfl) rfl (Nat.le_of_ble_eq_true rfl) (Qt.move rfl) rfl ?_
    refine JD.take 15 rfl rfl (by kernel_rfl) rfl (Nat.le_of_ble_eq_true rfl) (Qt.move rfl) rfl ?_
    refine JD.take 16 rfl rfl (by kernel_rfl) rfl (Nat.le_of_ble_eq_true rfl) (Qt.move rfl) rfl ?_
    refine JD.take 17 rfl rfl (by kernel_rfl) rfl (Nat.le_of_ble_eq_true rfl) (Qt.ari rfl rfl rfl w1) rfl ?_
    refine JD.take 18 rfl rfl (by kernel_rfl) rfl (Nat.le_of_ble_eq_true rfl) (Qt.indexO rfl rfl z1 c1) rfl ?_
    refine JD.each2 (i := 13) (j := 19) (by kernel_rfl) ?_ ?_
    refine JS.q rfl rfl rfl (Nat.le_of_ble_eq_true rfl) (Qt.loadWo rfl b2 (hz _)) ?_
    refine JD.each1 (i := 19) (by kernel_rfl) ?_
    refine JS.q rfl rfl rfl (Nat.le_of_ble_eq_true rfl) (Qt.loadWo rfl b1 (hz _)) ?_
    refine JD.take 20 rfl rfl (by kernel_rfl) rfl (Nat.le_of_ble_eq_true rfl) (Qt.indexO rfl rfl z1 c1) rfl ?_
    refine JD.each1 (i := 21) (by kernel_rfl) ?_
    refine JS.st rfl rfl rfl (Ld.storeOW rfl rfl rfl (hz _) lt1) (by (exact .trow rfl)) (fun _ => ?_)
    refine JD.take 22 rfl rfl (by kernel_rfl) rfl (Nat.le_of_ble_eq_true rfl) (Qt.indexO rfl rfl z2 c2) rfl ?_
    refine JD.each1 (i := 23) (by kernel_rfl) ?_
    refine JS.st rfl rfl rfl (Ld.storeOW rfl rfl rfl (hz _) lt2) (by (exact .trow rfl)) (fun _ => ?_)
    refine JD.done (by kernel_rfl) ?_
    rotate_left
    refine JS.q rfl rfl rfl (Nat.le_of_ble_eq_true rfl) (Qt.loadWo rfl b1 (hz _)) ?_
    refine JD.each1 (i := 13) (by kernel_rfl) ?_
    refine JS.q rfl rfl rfl (Nat.le_of_ble_eq_true rfl) (Qt.loadWo rfl b2 (hz _)) ?_
    refine JD.take 20 rfl rfl (by kernel_rfl) rfl (Nat.le_of_ble_eq_true rfl) (Qt.indexO rfl rfl z1 c1) rfl ?_
    refine JD.each1 (i := 21) (by kernel_rfl) ?_
    refine JS.st rfl rfl rfl (Ld.storeOW rfl rfl rfl (hz _) lt1) (by (exact .trow rfl)) (fun _ => ?_)
    refine JD.take 22 rfl rfl (by kernel_rfl) rfl (Nat.le_of_ble_eq_true rfl) (Qt.indexO rfl rfl z2 c2) rfl ?_
    refine JD.each1 (i := 23) (by kernel_rfl) ?_
    refine JS.st rfl rfl rfl (Ld.storeOW rfl rfl rfl (hz _) lt2) (by (exact .trow rfl)) (fun _ => ?_)
    refine JD.done (by kernel_rfl) ?_
    rotate_left
    all_goals
      repeat (first
          | (refine K.move ?_; refine JO.q rfl rfl (Nat.le_of_ble_eq_true rfl) (Qt.move rfl) ?_)
          | (refine K.assign ?_; refine JO.q rfl rfl (Nat.le_of_ble_eq_true rfl) (Qt.assign rfl) ?_)
          | (refine K.binOp ?_; (refine JO.q rfl rfl (Nat.le_of_ble_eq_true rfl) ((Qt.ari rfl rfl rfl w3)) ?_))
          | refine JO.nil ?_
          | refine J.region ?_
          | refine J.inBlock ?_)
      refine J.congL ?_ (ih1.weak ⟨rfl, rfl, rfl, rfl, rfl, rfl, trivial⟩)
      exact congrArg (fun r => [Res.row v 38 3 r]) sw.symm
  · obtain rfl : i = n := by omega
    have t1 : decide ((i : Int) < (i : Int)) = false := decide_eq_false (by omega)
    repeat (first
        | (refine K.move ?_; refine JO.q rfl rfl (Nat.le_of_ble_eq_true rfl) (Qt.move rfl) ?_)
        | (refine K.binOp ?_; (refine JO.q rfl rfl (Nat.le_of_ble_eq_true rfl) (Qt.cmp rfl rfl (congrArg some t1)) ?_))
        | refine JO.nil ?_
        | refine J.seq ?_
        | refine J.region ?_
        | refine J.exit rfl ?_
        | refine J.cond_f rfl ?_)
    (exact J.finA Try.func103 rfl .nil () (by (exact .refl)) rfl)
theorem s_rotPt (hz : ∀ x, (enc x).length = 3) (v : Value) (l0 X U V Y : List α) (a m b : Nat) (hl : l0 = X ++ U ++ V ++ Y) (ha : a = X.length) (hm : m = a + U.length) (hb : b = m + V.length) (hu : U.length ≠ 0) (hv : V.length ≠ 0) (hs : l0.length ≤ 1000000) :
    Con Try.prog 99 [.c (.v v), .c (nI a), .c (nI m), .c (nI b), .c (.v fv)] [.row v 38 3 (l0.map enc)] (fun _ : Unit => (.tup [], [.row v 38 3 ((X ++ V ++ U ++ Y).map enc)])) := by
  have e0 := Ss.rot_app m _ X U V Y (Nat.le_refl _) hu hv (by omega)
  rw [← hl] at e0
  have len : m + V.length ≤ l0.length := by rw [hl]; simp; omega
  generalize X ++ V ++ U ++ Y = r at e0 ⊢
  have w0 : IntKind.i64.wrap ((m : Int) - (a : Int)) = (U.length : Int) := by rw [w64 (by omega) (by omega)]; omega
  have w1 : IntKind.i64.wrap ((b : Int) - (m : Int)) = (V.length : Int) := by rw [w64 (by omega) (by omega)]; omega
  refine Con.intro Try.func99 rfl rfl rfl (fun ok e => ?_)
  repeat (first
      | (refine K.move ?_; refine JO.q rfl rfl (Nat.le_of_ble_eq_true rfl) (Qt.move rfl) ?_)
      | (refine K.assign ?_; refine JO.q rfl rfl (Nat.le_of_ble_eq_true rfl) (Qt.assign rfl) ?_)
      | (refine K.binOp ?_; first | refine JO.q rfl rfl (Nat.le_of_ble_eq_true rfl) ((Qt.ari rfl rfl rfl w0)) ?_ | refine JO.q rfl rfl (Nat.le_of_ble_eq_true rfl) ((Qt.ari rfl rfl rfl w1)) ?_)
      | refine JO.nil ?_
      | refine J.seq ?_
      | refine J.region ?_
      | refine J.block ?_)
  refine J.loop (ι := { q : List α × Nat × Nat // q.1.length = l0.length ∧ 0 < q.2.1 ∧ q.2.1 ≤ m ∧ 0 < q.2.2 ∧ m + q.2.2 ≤ l0.length ∧ Ss.rot q.1 m q.2.1 q.2.2 = r }) (fun q => [(10, .c (nI q.1.2.1)), (11, .c (nI q.1.2.2)), (0, .c (.v v)), (2, .c (nI m)), (4, .c (.v fv))]) (fun q => [.row v 38 3 (q.1.1.map enc)]) (fun q => q.1.2.1 + q.1.2.2) ⟨(l0, U.length, V.length), rfl, by simp only; omega, by simp only; omega, by simp only; omega, len, e0⟩ (fun X h => h.weak ⟨rfl, rfl, rfl, rfl, rfl, trivial⟩) (fun q ih => ?_)
  obtain ⟨⟨l, i, j⟩, ql, qi, qm, qj, qn, qr⟩ := q
  simp only at ql qi qm qj qn qr ih ⊢
  have w2 : IntKind.i64.wrap ((m : Int) - (i : Int)) = ((m - i : Nat) : Int) := by rw [w64 (by omega) (by omega)]; omega
  rcases Nat.lt_trichotomy i j with h | h | h
  · have t1 : ((i : Int) != (j : Int)) = true := by simp; omega
    have t2 : decide ((i : Int) > (j : Int)) = false := decide_eq_false (by omega)
    have w3 : IntKind.i64.wrap ((j : Int) - (i : Int)) = ((j - i : Nat) : Int) := by rw [w64 (by omega) (by omega)]; omega
    have w4 : IntKind.i64.wrap ((m : Int) + (j : Int)) = ((m + j : Nat) : Int) := s_half (by omega)
    have w5 : IntKind.i64.wrap (((m + j : Nat) : Int) - (i : Int)) = ((m + j - i : Nat) : Int) := by rw [w64 (by omega) (by omega)]; omega
    have CS := s_swrPt (fv := fv) hz v l (m - i) (m + j - i) i (by omega) (by omega) (by omega)
    repeat (first
        | (refine K.move ?_; refine JO.q rfl rfl (Nat.le_of_ble_eq_true rfl) (Qt.move rfl) ?_)
        | (refine K.assign ?_; refine JO.q rfl rfl (Nat.le_of_ble_eq_true rfl) (Qt.assign rfl) ?_)
        | (refine K.binOp ?_; first | refine JO.q rfl rfl (Nat.le_of_ble_eq_true rfl) (Qt.cmp rfl rfl (congrArg some t1)) ?_ | refine JO.q rfl rfl (Nat.le_of_ble_eq_true rfl) (Qt.cmp rfl rfl (congrArg some t2)) ?_ | refine JO.q rfl rfl (Nat.le_of_ble_eq_true rfl) ((Qt.ari rfl rfl rfl w2)) ?_ | refine JO.q rfl rfl (Nat.le_of_ble_eq_true rfl) ((Qt.ari rfl rfl rfl w3)) ?_ | refine JO.q rfl rfl (Nat.le_of_ble_eq_true rfl) ((Qt.ari rfl rfl rfl w4)) ?_ | refine JO.q rfl rfl (Nat.le_of_ble_eq_true rfl) ((Qt.ari rfl rfl rfl w5)) ?_)
        | (refine K.call ?_; (refine JO.ld (Ld.callA (CS) (Nat.le_of_ble_eq_true rfl) rfl (.cons .refl (.cons .refl (.cons .refl (.cons .refl (.cons .refl .nil)))))) rfl (fun _ => ?_)))
        | refine JO.nil ?_
        | refine J.seq ?_
        | refine J.region ?_
        | refine J.block ?_
        | refine J.inBlock ?_
        | refine J.skip ?_
        | refine J.cond_t rfl ?_
        | refine J.cond_f rfl ?_)
    exact (ih ⟨(Ss.swr l (m - i) (m + j - i) i, i, j - i), by simp only [Ss.swr_len]; exact ql, qi, qm, by simp only; omega, by simp only; omega, by simp only; rw [← Ss.rot_lt l m i j h (by omega)]; exact qr⟩ (by simp only; omega)).weak ⟨rfl, rfl, rfl, rfl, rfl, trivial⟩
  · subst h
    rw [Ss.rot_eq] at qr
    have t1 : ((i : Int) != (i : Int)) = false := by simp
    have CS := s_swrPt (fv := fv) hz v l (m - i) m i (by omega) (by omega) (by omega)
    rw [qr] at CS
    repeat (first
        | (refine K.move ?_; refine JO.q rfl rfl (Nat.le_of_ble_eq_true rfl) (Qt.move rfl) ?_)
        | (refine K.binOp ?_; first | refine JO.q rfl rfl (Nat.le_of_ble_eq_true rfl) (Qt.cmp rfl rfl (congrArg some t1)) ?_ | refine JO.q rfl rfl (Nat.le_of_ble_eq_true rfl) ((Qt.ari rfl rfl rfl w2)) ?_)
        | (refine K.call ?_; (refine JO.ld (Ld.callA (CS) (Nat.le_of_ble_eq_true rfl) rfl (.cons .refl (.cons .refl (.cons .refl (.cons .refl (.cons .refl .nil)))))) rfl (fun _ => ?_)))
        | refine JO.nil ?_
        | refine J.seq ?_
        | refine J.region ?_
        | refine J.exit rfl ?_
        | refine J.cond_f rfl ?_)
    (exact J.finA Try.func99 rfl .nil () (by (exact .refl)) rfl)
  · have t1 : ((i : Int) != (j : Int)) = true := by simp; omega
    have t2 : decide ((i : Int) > (j : Int)) = true := decide_eq_true (by omega)
    have w3 : IntKind.i64.wrap ((i : Int) - (j : Int)) = ((i - j : Nat) : Int) := by rw [w64 (by omega) (by omega)]; omega
    have CS := s_swrPt (fv := fv) hz v l (m - i) m j (by omega) (by omega) (by omega)
    repeat (first
        | (refine K.move ?_; refine JO.q rfl rfl (Nat.le_of_ble_eq_true rfl) (Qt.move rfl) ?_)
        | (refine K.assign ?_; refine JO.q rfl rfl (Nat.le_of_ble_eq_true rfl) (Qt.assign rfl) ?_)
        | (refine K.binOp ?_; first | refine JO.q rfl rfl (Nat.le_of_ble_eq_true rfl) (Qt.cmp rfl rfl (congrArg some t1)) ?_ | refine JO.q rfl rfl (Nat.le_of_ble_eq_true rfl) (Qt.cmp rfl rfl (congrArg some t2)) ?_ | refine JO.q rfl rfl (Nat.le_of_ble_eq_true rfl) ((Qt.ari rfl rfl rfl w2)) ?_ | refine JO.q rfl rfl (Nat.le_of_ble_eq_true rfl) ((Qt.ari rfl rfl rfl w3)) ?_)
        | (refine K.call ?_; (refine JO.ld (Ld.callA (CS) (Nat.le_of_ble_eq_true rfl) rfl (.cons .refl (.cons .refl (.cons .refl (.cons .refl (.cons .refl .nil)))))) rfl (fun _ => ?_)))
        | refine JO.nil ?_
        | refine J.seq ?_
        | refine J.region ?_
        | refine J.block ?_
        | refine J.inBlock ?_
        | refine J.skip ?_
        | refine J.cond_t rfl ?_)
    exact (ih ⟨(Ss.swr l (m - i) m j, i - j, j), by simp only [Ss.swr_len]; exact ql, by simp only; omega, by simp only; omega, qj, qn, by simp only; rw [← Ss.rot_gt l m i j h (by omega)]; exact qr⟩ (by simp only; omega)).weak ⟨rfl, rfl, rfl, rfl, rfl, trivial⟩
end
end Fl
end Go.Proofs.Ytgjpdogjekmemaa
