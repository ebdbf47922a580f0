/-
  slices.SortStableFunc at elements of type handoff/tale.Event: it is the stable sort.
  Conditions: none.
-/
import Derived.Test.YtgjpdogjekmemaaSrtEvC
namespace Go.Proofs.Ytgjpdogjekmemaa
open Go.RowKit
set_option linter.unusedVariables false
set_option linter.unusedSimpArgs false
set_option linter.unnecessarySimpa false
namespace Fl
set_option maxRecDepth 100000
set_option maxHeartbeats 4000000
section
variable {α : Type} {enc : α → List A} {key : α → Int} {fv : Value} {C : List Res}
theorem s_stableEv (CF : CmpFn Try.prog fv C enc key) (hz : ∀ x, (enc x).length = 9) (v : Value) (l0 : List α) (N : Nat) (hN : N = l0.length) (hs : N ≤ 100000) :
    Con Try.prog 71 [.c (.v v), .c (nI N), .c (.v fv)] (.row v 35 9 (l0.map enc) :: C) (fun _ : Unit => (.tup [], .row v 35 9 ((Ss.srt key l0).map enc) :: C)) := by
  refine Con.intro Try.func71 rfl rfl rfl (fun ok e => ?_)
  repeat (first
      | (refine K.move ?_; refine JO.q rfl rfl (Nat.le_of_ble_eq_true rfl) (Qt.move rfl) ?_)
      | (refine K.assign ?_; refine JO.q rfl rfl (Nat.le_of_ble_eq_true rfl) (Qt.assign rfl) ?_)
      | refine JO.nil ?_
      | refine J.seq ?_
      | refine J.region ?_
      | refine J.block ?_)
  refine J.loop (ι := { q : List α × List α // q.1 ++ Ss.blk key 20 q.2 = Ss.blk key 20 l0 ∧ q.1.length + q.2.length = N }) (fun q => [(7, .c (nI q.1.1.length)), (8, .c (nI (q.1.1.length + 20 : Nat))), (6, .c (nI (20 : Nat))), (0, .c (.v v)), (1, .c (nI N)), (2, .c (.v fv))]) (fun q => .row v 35 9 ((q.1.1 ++ q.1.2).map enc) :: C) (fun q => q.1.2.length) ⟨([], l0), rfl, by simp [hN]⟩ (fun X h => h.weak ⟨rfl, rfl, rfl, rfl, rfl, rfl, trivial⟩) (fun q ih => ?_)
  obtain ⟨⟨Z, R⟩, qb, ql⟩ := q
  simp only at qb ql ih ⊢
  by_cases hk : Z.length + 20 ≤ N
  · have t1 : decide (((Z.length + 20 : Nat) : Int) ≤ (N : Int)) = true := decide_eq_true (by omega)
    have lt : (R.take 20).length = 20 := by rw [List.length_take]; omega
    have ld : (R.drop 20).length = R.length - 20 := List.length_drop
    have ls := Ss.srt_len (key := key) (R.take 20)
    have CI := s_insAEv CF hz v (Z ++ R) Z (R.take 20) (R.drop 20) Z.length (Z.length + 20) (by rw [List.append_assoc, List.take_append_drop]) rfl (by omega) (by omega)
    have w1 : IntKind.i64.wrap (((Z.length + 20 : Nat) : Int) + ((20 : Nat) : Int)) = ((Z.length + 20 + 20 : Nat) : Int) := s_half (by omega)
    rw [Ss.blk_ge (by omega) (by decide), ← List.append_assoc] at qb
    repeat (first
        | (refine K.move ?_; refine JO.q rfl rfl (Nat.le_of_ble_eq_true rfl) (Qt.move rfl) ?_)
        | (refine K.assign ?_; refine JO.q rfl rfl (Nat.le_of_ble_eq_true rfl) (Qt.assign rfl) ?_)
        | (refine K.binOp ?_; first | refine JO.q rfl rfl (Nat.le_of_ble_eq_true rfl) (Qt.cmp rfl rfl (congrArg some t1)) ?_ | refine JO.q rfl rfl (Nat.le_of_ble_eq_true rfl) ((Qt.ari rfl rfl rfl w1)) ?_)
        | (refine K.call ?_; (refine JO.ld (Ld.callA (CI) (Nat.le_of_ble_eq_true rfl) rfl (by (exact LeDs.cons .refl (.cons .refl (.cons .refl (.cons .refl .nil)))))) rfl ?_; intro _))
        | refine JO.nil ?_
        | refine J.seq ?_
        | refine J.region ?_
        | refine J.block ?_
        | refine J.inBlock ?_
        | refine J.skip ?_
        | refine J.cond_t rfl ?_)
    exact (ih ⟨(Z ++ Ss.srt key (R.take 20), R.drop 20), qb, by simp only [List.length_append]; omega⟩ (by simp only; omega)).weak ⟨by simp only [List.length_append, ls, lt]; rfl, by simp only [List.length_append, ls, lt]; rfl, rfl, rfl, rfl, rfl, trivial⟩
  · have t1 : decide (((Z.length + 20 : Nat) : Int) ≤ (N : Int)) = false := decide_eq_false (by omega)
    have CI := s_insAEv CF hz v (Z ++ R) Z R [] Z.length N (by simp) rfl (by omega) (by simp; omega)
    rw [Ss.blk_le (by omega)] at qb
    rw [List.append_nil, qb] at CI
    clear ih hk
    repeat (first
        | (refine K.move ?_; refine JO.q rfl rfl (Nat.le_of_ble_eq_true rfl) (Qt.move rfl) ?_)
        | (refine K.binOp ?_; (refine JO.q rfl rfl (Nat.le_of_ble_eq_true rfl) (Qt.cmp rfl rfl (congrArg some t1)) ?_))
        | (refine K.call ?_; (refine JO.ld (Ld.callA (CI) (Nat.le_of_ble_eq_true rfl) rfl (by (exact LeDs.cons .refl (.cons .refl (.cons .refl (.cons .refl .nil)))))) rfl ?_; intro _))
        | refine JO.nil ?_
        | refine J.seq ?_
        | refine J.region ?_
        | refine J.block ?_
        | refine J.exit rfl ?_
        | refine J.cond_f rfl ?_)
    clear t1 CI qb ql
    refine J.loop (ι := { k : Nat // 0 < k ∧ k ≤ 200020 }) (fun q => [(6, .c (nI q.1)), (0, .c (.v v)), (1, .c (nI N)), (2, .c (.v fv))]) (fun q => .row v 35 9 ((Ss.blk key q.1 l0).map enc) :: C) (fun q => N - q.1) ⟨20, by omega, by omega⟩ (fun X h => h.weak ⟨rfl, rfl, rfl, rfl, trivial⟩) (fun q ih => ?_)
    obtain ⟨k, k0, k1⟩ := q
    simp only at k0 k1 ih ⊢
    by_cases hk : k < N
    · have t1 : decide ((k : Int) < (N : Int)) = true := decide_eq_true (by omega)
      have w2 : IntKind.i64.wrap (2 * (k : Int)) = ((2 * k : Nat) : Int) := by rw [w64 (by omega) (by omega)]; omega
      have w3 : IntKind.i64.wrap ((k : Int) * 2) = ((2 * k : Nat) : Int) := by rw [w64 (by omega) (by omega)]; omega
      have ih1 := ih ⟨2 * k, by omega, by omega⟩ (by simp only; omega)
      clear ih
      simp only at ih1
      repeat (first
          | (refine K.move ?_; refine JO.q rfl rfl (Nat.le_of_ble_eq_true rfl) (Qt.move rfl) ?_)
          | (refine K.assign ?_; refine JO.q rfl rfl (Nat.le_of_ble_eq_true rfl) (Qt.assign rfl) ?_)
          | (refine K.binOp ?_; first | refine JO.q rfl rfl (Nat.le_of_ble_eq_true rfl) (Qt.cmp rfl rfl (congrArg some t1)) ?_ | refine JO.q rfl rfl (Nat.le_of_ble_eq_true rfl) ((Qt.ari rfl rfl rfl w2)) ?_)
          | refine JO.nil ?_
          | refine J.seq ?_
          | refine J.region ?_
          | refine J.block ?_
          | refine J.skip ?_
          | refine J.cond_t rfl ?_)
      refine J.loop (ι := { q : List α × List α // q.1 ++ Ss.blk key (2 * k) q.2 = Ss.blk key (2 * k) l0 ∧ q.1.length + q.2.length = N }) (fun q => [(7, .c (nI q.1.1.length)), (8, .c (nI (q.1.1.length + 2 * k : Nat))), (6, .c (nI k)), (0, .c (.v v)), (1, .c (nI N)), (2, .c (.v fv))]) (fun q => .row v 35 9 ((q.1.1 ++ Ss.blk key k q.1.2).map enc) :: C) (fun q => q.1.2.length) ⟨([], l0), rfl, by simp [hN]⟩ (fun X h => h.weak ⟨rfl, by rw [show ([] : List α).length + 2 * k = 2 * k by simp]; rfl, rfl, rfl, rfl, rfl, trivial⟩) (fun q ih => ?_)
      obtain ⟨⟨Z, R⟩, qb, ql⟩ := q
      simp only at qb ql ih ⊢
      have w4 : IntKind.i64.wrap ((Z.length : Int) + (k : Int)) = ((Z.length + k : Nat) : Int) := s_half (by omega)
      have lt : (R.take k).length = min k R.length := List.length_take
      have ld : (R.drop k).length = R.length - k := List.length_drop
      have ls := Ss.srt_len (key := key) (R.take k)
      by_cases hj : Z.length + 2 * k ≤ N
      · have t2 : decide (((Z.length + 2 * k : Nat) : Int) ≤ (N : Int)) = true := decide_eq_true (by omega)
        have lt2 : ((R.drop k).take k).length = k := by rw [List.length_take]; omega
        have ls2 := Ss.srt_len (key := key) ((R.drop k).take k)
        have ld2 : (R.drop (2 * k)).length = R.length - 2 * k := List.length_drop
        have lt3 : (R.take (2 * k)).length = 2 * k := by rw [List.length_take]; omega
        have ls3 := Ss.srt_len (key := key) (R.take (2 * k))
        have w5 : IntKind.i64.wrap (((Z.length + 2 * k : Nat) : Int) + ((2 * k : Nat) : Int)) = ((Z.length + 2 * k + 2 * k : Nat) : Int) := s_half (by omega)
        have e1 : Ss.blk key k R = Ss.srt key (R.take k) ++ (Ss.srt key ((R.drop k).take k) ++ Ss.blk key k (R.drop (2 * k))) := by
          rw [Ss.blk_ge (by omega) (by omega), Ss.blk_ge (l := R.drop k) (by omega) (by omega), List.drop_drop, show k + k = 2 * k by omega]
        have e2 : Ss.mg key (Ss.srt key (R.take k)) (Ss.srt key ((R.drop k).take k)) = Ss.srt key (R.take (2 * k)) := by
          rw [Ss.srt_merge, show 2 * k = k + k by omega, List.take_add]
        have lb := Ss.blk_len (key := key) (R.drop (2 * k)).length k (R.drop (2 * k)) (Nat.le_refl _)
        have CM := s_symEv CF hz v _ (Z ++ Ss.blk key k R) Z (Ss.srt key (R.take k)) (Ss.srt key ((R.drop k).take k)) (Ss.blk key k (R.drop (2 * k))) Z.length (Z.length + k) (Z.length + 2 * k) (Nat.le_refl _) (by rw [e1]; simp) rfl (by omega) (by omega) (by omega) (by omega) (Ss.srt_srt _) (Ss.srt_srt _) (by rw [e1]; simp only [List.length_append]; omega)
        rw [e2] at CM
        rw [Ss.blk_ge (by omega) (by omega), ← List.append_assoc] at qb
        repeat (first
            | (refine K.move ?_; refine JO.q rfl rfl (Nat.le_of_ble_eq_true rfl) (Qt.move rfl) ?_)
            | (refine K.assign ?_; refine JO.q rfl rfl (Nat.le_of_ble_eq_true rfl) (Qt.assign rfl) ?_)
            | (refine K.binOp ?_; first | refine JO.q rfl rfl (Nat.le_of_ble_eq_true rfl) (Qt.cmp rfl rfl (congrArg some t2)) ?_ | refine JO.q rfl rfl (Nat.le_of_ble_eq_true rfl) ((Qt.ari rfl rfl rfl w4)) ?_ | refine JO.q rfl rfl (Nat.le_of_ble_eq_true rfl) ((Qt.ari rfl rfl rfl w2)) ?_ | refine JO.q rfl rfl (Nat.le_of_ble_eq_true rfl) ((Qt.ari rfl rfl rfl w5)) ?_)
            | (refine K.call ?_; (refine JO.ld (Ld.callA (CM) (Nat.le_of_ble_eq_true rfl) rfl (.cons .refl (.cons .refl (.cons .refl (.cons .refl (.cons .refl .nil)))))) rfl (fun _ => ?_)))
            | refine JO.nil ?_
            | refine J.seq ?_
            | refine J.region ?_
            | refine J.block ?_
            | refine J.inBlock ?_
            | refine J.skip ?_
            | refine J.cond_t rfl ?_)
        exact (ih ⟨(Z ++ Ss.srt key (R.take (2 * k)), R.drop (2 * k)), qb, by simp only [List.length_append]; omega⟩ (by simp only; omega)).weak ⟨by simp only [List.length_append, ls3, lt3]; rfl, by simp only [List.length_append, ls3, lt3]; rfl, rfl, rfl, rfl, rfl, trivial⟩
      · have t2 : decide (((Z.length + 2 * k : Nat) : Int) ≤ (N : Int)) = false := decide_eq_false (by omega)
        clear ih
        rw [Ss.blk_le (by omega)] at qb
        by_cases hm : Z.length + k < N
        · have t3 : decide (((Z.length + k : Nat) : Int) < (N : Int)) = true := decide_eq_true (by omega)
          have ls2 := Ss.srt_len (key := key) (R.drop k)
          have e1 : Ss.blk key k R = Ss.srt key (R.take k) ++ Ss.srt key (R.drop k) := by
            rw [Ss.blk_ge (by omega) (by omega), Ss.blk_le (l := R.drop k) (by omega)]
          have e2 : Ss.mg key (Ss.srt key (R.take k)) (Ss.srt key (R.drop k)) = Ss.srt key R := by
            rw [Ss.srt_merge, List.take_append_drop]
          have CM := s_symEv CF hz v _ (Z ++ Ss.blk key k R) Z (Ss.srt key (R.take k)) (Ss.srt key (R.drop k)) [] Z.length (Z.length + k) N (Nat.le_refl _) (by rw [e1]; simp) rfl (by omega) (by omega) (by omega) (by omega) (Ss.srt_srt _) (Ss.srt_srt _) (by rw [e1]; simp only [List.length_append]; omega)
          rw [e2, List.append_nil, qb] at CM
          repeat (first
              | (refine K.move ?_; refine JO.q rfl rfl (Nat.le_of_ble_eq_true rfl) (Qt.move rfl) ?_)
              | (refine K.assign ?_; refine JO.q rfl rfl (Nat.le_of_ble_eq_true rfl) (Qt.assign rfl) ?_)
              | (refine K.binOp ?_; first | refine JO.q rfl rfl (Nat.le_of_ble_eq_true rfl) (Qt.cmp rfl rfl (congrArg some t2)) ?_ | refine JO.q rfl rfl (Nat.le_of_ble_eq_true rfl) (Qt.cmp rfl rfl (congrArg some t3)) ?_ | refine JO.q rfl rfl (Nat.le_of_ble_eq_true rfl) ((Qt.ari rfl rfl rfl w4)) ?_ | refine JO.q rfl rfl (Nat.le_of_ble_eq_true rfl) ((Qt.ari rfl rfl rfl w3)) ?_)
              | (refine K.call ?_; (refine JO.ld (Ld.callA (CM) (Nat.le_of_ble_eq_true rfl) rfl (.cons .refl (.cons .refl (.cons .refl (.cons .refl (.cons .refl .nil)))))) rfl (fun _ => ?_)))
              | refine JO.nil ?_
              | refine J.seq ?_
              | refine J.region ?_
              | refine J.inBlock ?_
              | refine J.exit rfl ?_
              | refine J.cond_t rfl ?_
              | refine J.cond_f rfl ?_)
          exact ih1.weak ⟨rfl, rfl, rfl, rfl, trivial⟩
        · have t3 : decide (((Z.length + k : Nat) : Int) < (N : Int)) = false := decide_eq_false (by omega)
          rw [Ss.blk_le (l := R) (by omega), qb]
          repeat (first
              | (refine K.move ?_; refine JO.q rfl rfl (Nat.le_of_ble_eq_true rfl) (Qt.move rfl) ?_)
              | (refine K.assign ?_; refine JO.q rfl rfl (Nat.le_of_ble_eq_true rfl) (Qt.assign rfl) ?_)
              | (refine K.binOp ?_; first | refine JO.q rfl rfl (Nat.le_of_ble_eq_true rfl) (Qt.cmp rfl rfl (congrArg some t2)) ?_ | refine JO.q rfl rfl (Nat.le_of_ble_eq_true rfl) (Qt.cmp rfl rfl (congrArg some t3)) ?_ | refine JO.q rfl rfl (Nat.le_of_ble_eq_true rfl) ((Qt.ari rfl rfl rfl w4)) ?_ | refine JO.q rfl rfl (Nat.le_of_ble_eq_true rfl) ((Qt.ari rfl rfl rfl w3)) ?_)
              | refine JO.nil ?_
              | refine J.seq ?_
              | refine J.region ?_
              | refine J.inBlock ?_
              | refine J.skip ?_
              | refine J.exit rfl ?_
              | refine J.cond_f rfl ?_)
          exact ih1.weak ⟨rfl, rfl, rfl, rfl, trivial⟩
    · have t1 : decide ((k : Int) < (N : Int)) = false := decide_eq_false (by omega)
      rw [Ss.blk_le (by omega)]
      repeat (first
          | (refine K.move ?_; refine JO.q rfl rfl (Nat.le_of_ble_eq_true rfl) (Qt.move rfl) ?_)
          | (refine K.binOp ?_; (refine JO.q rfl rfl (Nat.le_of_ble_eq_true rfl) (Qt.cmp rfl rfl (congrArg some t1)) ?_))
          | refine JO.nil ?_
          | refine J.seq ?_
          | refine J.region ?_
          | refine J.exit rfl ?_
          | refine J.cond_f rfl ?_)
      (exact J.finA Try.func71 rfl .nil () (by (exact .refl)) rfl)
theorem s_sortEv (CF : CmpFn Try.prog fv C enc key) (hz : ∀ x, (enc x).length = 9) (v : Value) (l0 : List α) (hs : l0.length ≤ 100000) :
    Con Try.prog 46 [.c (.v v), .c (.v fv)] (.row v 35 9 (l0.map enc) :: C) (fun _ : Unit => (.tup [], .row v 35 9 ((Ss.srt key l0).map enc) :: C)) := by
  have CS := s_stableEv CF hz v l0 (l0.map enc).length (by simp) (by simp; omega)
  refine Con.intro Try.func46 rfl rfl rfl (fun ok e => ?_)
  repeat (first
      | (refine K.move ?_; refine JO.q rfl rfl (Nat.le_of_ble_eq_true rfl) (Qt.move rfl) ?_)
      | (refine K.call ?_; (refine JO.ld (Ld.callA (CS) (Nat.le_of_ble_eq_true rfl) rfl (by (exact LeDs.cons .refl (.cons .refl (.cons .refl .nil))))) rfl ?_; intro _))
      | (refine K.bi ?_; (refine JO.q rfl rfl (Nat.le_of_ble_eq_true rfl) (Qt.lenO rfl) ?_))
      | refine JO.nil ?_
      | refine J.region ?_)
  (exact J.finA Try.func46 rfl .nil () (by (exact .refl)) rfl)
end
end Fl
end Go.Proofs.Ytgjpdogjekmemaa
