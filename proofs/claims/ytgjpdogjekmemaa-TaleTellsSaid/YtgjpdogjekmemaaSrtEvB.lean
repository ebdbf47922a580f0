/-
  slices.SortStableFunc at elements of type handoff/tale.Event: it is the stable sort.
  Conditions: none.
-/
import Derived.Test.YtgjpdogjekmemaaSrtEvA
namespace Go.Proofs.Ytgjpdogjekmemaa
open Go.RowKit
set_option linter.unusedVariables false
set_option linter.unusedSimpArgs false
set_option linter.unnecessarySimpa false
namespace Fl
set_option maxRecDepth 100000
set_option maxHeartbeats 4000000
section
variable {α : Type} {enc : α → List A} {key : α → Int} {fv : Value} {C : List Res}
theorem s_symAEv (CF : CmpFn Try.prog fv C enc key) (hz : ∀ x, (enc x).length = 9) (v : Value) (l X A0 B0 Y : List α) (a m b : Nat) (hl : l = X ++ A0 ++ B0 ++ Y) (ha : a = X.length) (hm : m = a + A0.length) (hb : b = m + B0.length) (nA : A0.length ≠ 0) (nB : B0.length ≠ 0) (sA : Ss.Srt key A0) (sB : Ss.Srt key B0) (hn : l.length ≤ 1000000) (h1 : A0.length = 1) :
    Con Try.prog 91 [.c (.v v), .c (nI a), .c (nI m), .c (nI b), .c (.v fv)] (.row v 35 9 (l.map enc) :: C) (fun _ : Unit => (.tup [], .row v 35 9 ((X ++ Ss.mg key A0 B0 ++ Y).map enc) :: C)) := by
  have len : l.length = b + Y.length := by rw [hl]; simp; omega
  have w0 : IntKind.i64.wrap ((m : Int) - (a : Int)) = (A0.length : Int) := by rw [w64 (by omega) (by omega)]; omega
  have w1 : IntKind.i64.wrap ((b : Int) - (m : Int)) = (B0.length : Int) := by rw [w64 (by omega) (by omega)]; omega
  refine Con.intro Try.func91 rfl rfl rfl (fun ok e => ?_)
  have t0 : ((A0.length : Int) == 1) = true := by rw [h1]; rfl
  obtain ⟨x, rfl⟩ := List.length_eq_one_iff.1 h1
  obtain ⟨B1, B2, rfl, hr, k1, k2⟩ := Ss.searchL (key x) (X ++ [x]) B0 Y m b (by simp; omega) hb sB
  rw [Ss.mg_one k1 k2]
  rw [← hl] at hr
  have ax : l[a]? = some x := by rw [hl, ha, show X ++ [x] ++ (B1 ++ B2) ++ Y = X ++ x :: (B1 ++ B2 ++ Y) by simp]; exact Ss.at_app _ _ _
  generalize hp : (fun h => decide (Ss.ky key l h < key x)) = p at hr
  have hl' : (B1 ++ B2).length = B1.length + B2.length := List.length_append
  have bx := s_at (enc := enc) ax
  have cx := s_lt' (enc := enc) ax
  have zx : (0 : Int) ≤ (a : Int) := Int.natCast_nonneg _
  repeat (first
      | (refine K.move ?_; refine JO.q rfl rfl (Nat.le_of_ble_eq_true rfl) (Qt.move rfl) ?_)
      | (refine K.assign ?_; refine JO.q rfl rfl (Nat.le_of_ble_eq_true rfl) (Qt.assign rfl) ?_)
      | (refine K.binOp ?_; first | refine JO.q rfl rfl (Nat.le_of_ble_eq_true rfl) ((Qt.ari rfl rfl rfl w0)) ?_ | refine JO.q rfl rfl (Nat.le_of_ble_eq_true rfl) (Qt.cmp rfl rfl (congrArg some t0)) ?_)
      | refine JO.nil ?_
      | refine J.seq ?_
      | refine J.region ?_
      | refine J.block ?_
      | refine J.cond_t rfl ?_)
  refine J.loop (ι := { q : Nat × Nat // m ≤ q.1 ∧ q.1 ≤ q.2 ∧ q.2 ≤ b ∧ Ss.bs p q.1 q.2 = m + B1.length }) (fun q => [(10, .c (nI q.1.1)), (11, .c (nI q.1.2)), (0, .c (.v v)), (1, .c (nI a)), (2, .c (nI m)), (3, .c (nI b)), (4, .c (.v fv))]) (fun q => .row v 35 9 (l.map enc) :: C) (fun q => q.1.2 - q.1.1) ⟨(m, b), Nat.le_refl _, by simp only; omega, Nat.le_refl _, hr⟩ (fun X h => h.weak ⟨rfl, rfl, rfl, rfl, rfl, rfl, rfl, trivial⟩) (fun q ih => ?_)
  obtain ⟨⟨i, j⟩, q1, q2, q3, q4⟩ := q
  simp only at q1 q2 q3 q4 ih ⊢
  by_cases hk : i < j
  · have t1 : decide ((i : Int) < (j : Int)) = true := decide_eq_true (by omega)
    obtain ⟨y, ay⟩ : ∃ y, l[(i + j) / 2]? = some y := ⟨_, List.getElem?_eq_getElem (by omega)⟩
    have by' := s_at (enc := enc) ay
    have cy := s_lt' (enc := enc) ay
    have zy : (0 : Int) ≤ (((i + j) / 2 : Nat) : Int) := Int.natCast_nonneg _
    have py : p ((i + j) / 2) = decide (key y < key x) := by rw [← hp]; simp only; rw [Ss.ky_some ay]
    have w2 : IntKind.i64.wrap ((i : Int) + (j : Int)) = ((i + j : Nat) : Int) := s_half (by omega)
    have w3 : IntKind.u64.wrap ((i + j : Nat) : Int) = ((i + j : Nat) : Int) := s_u64 (by omega)
    have w4 : IntKind.i64.wrap (((i + j) / 2 : Nat) : Int) = (((i + j) / 2 : Nat) : Int) := w64 (by omega) (by omega)
    have w5 : IntKind.i64.wrap ((((i + j) / 2 : Nat) : Int) + 1) = (((i + j) / 2 + 1 : Nat) : Int) := by rw [w64 (by omega) (by omega)]; omega
    have hh : i + j ≤ 4000000 := by omega
    repeat (first
        | (refine K.move ?_; refine JO.q rfl rfl (Nat.le_of_ble_eq_true rfl) (Qt.move rfl) ?_)
        | (refine K.assign ?_; refine JO.q rfl rfl (Nat.le_of_ble_eq_true rfl) (Qt.assign rfl) ?_)
        | (refine K.binOp ?_; first | refine JO.q rfl rfl (Nat.le_of_ble_eq_true rfl) (Qt.cmp rfl rfl (congrArg some t1)) ?_ | refine JO.q rfl rfl (Nat.le_of_ble_eq_true rfl) ((Qt.ari rfl rfl rfl w2)) ?_ | refine JO.q rfl rfl (Nat.le_of_ble_eq_true rfl) (Qt.bin rfl rfl (fun w => s_shr hh)) ?_)
        | (refine K.convert ?_; first | refine JO.q rfl rfl (Nat.le_of_ble_eq_true rfl) (Qt.conv rfl w3) ?_ | refine JO.q rfl rfl (Nat.le_of_ble_eq_true rfl) (Qt.conv rfl w4) ?_)
        | refine JO.nil ?_
        | refine J.seq ?_
        | refine J.region ?_
        | refine J.block ?_
        | refine J.skip ?_
        | refine J.cond_t rfl ?_)
    cases t3 : decide (key y < key x) with
    | true =>
      rw [t3] at py
      refine J.draw (by kernel_rfl) rfl ?_
      refine JW.base none ?_
      refine JD.take 0 rfl rfl (by kernel_rfl) rfl (Nat.le_of_ble_eq_true rfl) (Qt.move rfl) rfl ?_
      refine JD.take 1 rfl rfl (by kernel_rfl) rfl (Nat.le_of_ble_eq_true rfl) (Qt.move rfl) rfl ?_
      refine JD.take 2 rfl rfl (by kernel_rfl) rfl (Nat.le_of_ble_eq_true rfl) (Qt.move rfl) rfl ?_
      refine JD.take 3 rfl rfl (by kernel_rfl) rfl (Nat.le_of_ble_eq_true rfl) (Qt.indexO rfl rfl zy cy) rfl ?_
      refine JD.take 4 rfl rfl (by kernel_rfl) rfl (Nat.le_of_ble_eq_true rfl) (Qt.loadWo rfl by' (hz _)) rfl ?_
      refine JD.take 5 rfl rfl (by kernel_rfl) rfl (Nat.le_of_ble_eq_true rfl) (Qt.move rfl) rfl ?_
      refine JD.take 6 rfl rfl (by kernel_rfl) rfl (Nat.le_of_ble_eq_true rfl) (Qt.move rfl) rfl ?_
      refine JD.take 7 rfl rfl (by kernel_rfl) rfl (Nat.le_of_ble_eq_true rfl) (Qt.indexO rfl rfl zx cx) rfl ?_
      refine JD.take 8 rfl rfl (by kernel_rfl) rfl (Nat.le_of_ble_eq_true rfl) (Qt.loadWo rfl bx (hz _)) rfl ?_
      refine JD.each1 (i := 9) (by kernel_rfl) ?_
      refine JS.loud rfl rfl rfl (Nat.le_of_ble_eq_true rfl) (Ld.cmpV CF y x ⟨[_], rfl⟩ (Nat.le_of_ble_eq_true rfl) rfl rfl rfl) (by (exact .none)) (fun _ => ?_)
      refine JD.each1 (i := 10) (by kernel_rfl) ?_
      refine JS.q rfl rfl rfl (Nat.le_of_ble_eq_true rfl) (Qt.cmp rfl rfl (congrArg some (cq_lt t3))) ?_
      refine JD.done (by kernel_rfl) ?_
      repeat (first
          | (refine K.move ?_; refine JO.q rfl rfl (Nat.le_of_ble_eq_true rfl) (Qt.move rfl) ?_)
          | (refine K.assign ?_; refine JO.q rfl rfl (Nat.le_of_ble_eq_true rfl) (Qt.assign rfl) ?_)
          | (refine K.binOp ?_; (refine JO.q rfl rfl (Nat.le_of_ble_eq_true rfl) ((Qt.ari rfl rfl rfl w5)) ?_))
          | refine JO.nil ?_
          | refine J.region ?_
          | refine J.inBlock ?_
          | refine J.cond_t rfl ?_)
      exact (ih ⟨((i + j) / 2 + 1, j), by simp only; omega, by simp only; omega, q3, by simp only; rw [← Ss.bs_t hk py]; exact q4⟩ (by simp only; omega)).weak ⟨rfl, rfl, rfl, rfl, rfl, rfl, rfl, trivial⟩
    | false =>
      rw [t3] at py
      refine J.draw (by kernel_rfl) rfl ?_
      refine JW.base none ?_
      refine JD.take 0 rfl rfl (by kernel_rfl) rfl (Nat.le_of_ble_eq_true rfl) (Qt.move rfl) rfl ?_
      refine JD.take 1 rfl rfl (by kernel_rfl) rfl (Nat.le_of_ble_eq_true rfl) (Qt.move rfl) rfl ?_
      refine JD.take 2 rfl rfl (by kernel_rfl) rfl (Nat.le_of_ble_eq_true rfl) (Qt.move rfl) rfl ?_
      refine JD.take 3 rfl rfl (by kernel_rfl) rfl (Nat.le_of_ble_eq_true rfl) (Qt.indexO rfl rfl zy cy) rfl ?_
      refine JD.take 4 rfl rfl (by kernel_rfl) rfl (Nat.le_of_ble_eq_true rfl) (Qt.loadWo rfl by' (hz _)) rfl ?_
      refine JD.take 5 rfl rfl (by kernel_rfl) rfl (Nat.le_of_ble_eq_true rfl) (Qt.move rfl) rfl ?_
      refine JD.take 6 rfl rfl (by kernel_rfl) rfl (Nat.le_of_ble_eq_true rfl) (Qt.move rfl) rfl ?_
      refine JD.take 7 rfl rfl (by kernel_rfl) rfl (Nat.le_of_ble_eq_true rfl) (Qt.indexO rfl rfl zx cx) rfl ?_
      refine JD.take 8 rfl rfl (by kernel_rfl) rfl (Nat.le_of_ble_eq_true rfl) (Qt.loadWo rfl bx (hz _)) rfl ?_
      refine JD.each1 (i := 9) (by kernel_rfl) ?_
      refine JS.loud rfl rfl rfl (Nat.le_of_ble_eq_true rfl) (Ld.cmpV CF y x ⟨[_], rfl⟩ (Nat.le_of_ble_eq_true rfl) rfl rfl rfl) (by (exact .none)) (fun _ => ?_)
      refine JD.each1 (i := 10) (by kernel_rfl) ?_
      refine JS.q rfl rfl rfl (Nat.le_of_ble_eq_true rfl) (Qt.cmp rfl rfl (congrArg some (cq_lt t3))) ?_
      refine JD.done (by kernel_rfl) ?_
      repeat (first
          | (refine K.move ?_; refine JO.q rfl rfl (Nat.le_of_ble_eq_true rfl) (Qt.move rfl) ?_)
          | (refine K.assign ?_; refine JO.q rfl rfl (Nat.le_of_ble_eq_true rfl) (Qt.assign rfl) ?_)
          | refine JO.nil ?_
          | refine J.region ?_
          | refine J.inBlock ?_
          | refine J.cond_f rfl ?_)
      exact (ih ⟨(i, (i + j) / 2), q1, by simp only; omega, by simp only; omega, by simp only; rw [← Ss.bs_f hk py]; exact q4⟩ (by simp only; omega)).weak ⟨rfl, rfl, rfl, rfl, rfl, rfl, rfl, trivial⟩
  · have t1 : decide ((i : Int) < (j : Int)) = false := decide_eq_false (by omega)
    rw [Ss.bs_e hk] at q4
    clear ih q1 q2 q3 hp hr bx cx
    subst q4
    rw [hl]
    clear hl ax
    repeat (first
        | (refine K.move ?_; refine JO.q rfl rfl (Nat.le_of_ble_eq_true rfl) (Qt.move rfl) ?_)
        | (refine K.assign ?_; refine JO.q rfl rfl (Nat.le_of_ble_eq_true rfl) (Qt.assign rfl) ?_)
        | (refine K.binOp ?_; (refine JO.q rfl rfl (Nat.le_of_ble_eq_true rfl) (Qt.cmp rfl rfl (congrArg some t1)) ?_))
        | refine JO.nil ?_
        | refine J.seq ?_
        | refine J.region ?_
        | refine J.block ?_
        | refine J.exit rfl ?_
        | refine J.cond_f rfl ?_)
    refine J.congL (L' := .row v 35 9 ((X ++ ([] ++ x :: B1 ++ B2) ++ Y).map enc) :: C) (by simp) ?_
    refine J.loop (ι := { q : List α × List α // B1 = q.1 ++ q.2 }) (fun q => [(13, .c (nI (a + q.1.1.length : Nat))), (10, .c (nI (m + B1.length : Nat))), (0, .c (.v v)), (1, .c (nI a)), (4, .c (.v fv))]) (fun q => .row v 35 9 ((X ++ (q.1.1 ++ x :: q.1.2 ++ B2) ++ Y).map enc) :: C) (fun q => q.1.2.length) ⟨([], B1), rfl⟩ (fun X h => h.weak ⟨rfl, rfl, rfl, rfl, rfl, trivial⟩) (fun q ih => ?_)
    obtain ⟨⟨S1, S2⟩, qS⟩ := q
    simp only at qS ih ⊢
    have lB : B1.length = S1.length + S2.length := by rw [qS]; simp
    have w2 : IntKind.i64.wrap (((m + B1.length : Nat) : Int) - 1) = ((m + B1.length - 1 : Nat) : Int) := by rw [w64 (by omega) (by omega)]; omega
    cases S2 with
    | nil =>
      have t2 : decide (((a + S1.length : Nat) : Int) < ((m + B1.length - 1 : Nat) : Int)) = false := decide_eq_false (by simp at lB h1 hm; omega)
      rw [List.append_nil] at qS
      subst qS
      repeat (first
          | (refine K.move ?_; refine JO.q rfl rfl (Nat.le_of_ble_eq_true rfl) (Qt.move rfl) ?_)
          | (refine K.binOp ?_; first | refine JO.q rfl rfl (Nat.le_of_ble_eq_true rfl) ((Qt.ari rfl rfl rfl w2)) ?_ | refine JO.q rfl rfl (Nat.le_of_ble_eq_true rfl) (Qt.cmp rfl rfl (congrArg some t2)) ?_)
          | refine JO.nil ?_
          | refine J.seq ?_
          | refine J.region ?_
          | refine J.exit rfl ?_
          | refine J.cond_f rfl ?_)
      refine J.congL (L' := .row v 35 9 ((X ++ (B1 ++ x :: B2) ++ Y).map enc) :: C) (by simp) ?_
      (exact J.retA Try.func91 rfl .nil () (by (exact .refl)) rfl)
    | cons z S2 =>
      have t2 : decide (((a + S1.length : Nat) : Int) < ((m + B1.length - 1 : Nat) : Int)) = true := decide_eq_true (by simp only [List.length_cons, List.length_nil] at lB hm; omega)
      have w3 : IntKind.i64.wrap (((a + S1.length : Nat) : Int) + 1) = ((a + (S1.length + 1) : Nat) : Int) := by simp only [List.length_cons, List.length_nil] at lB hm; rw [w64 (by omega) (by omega)]; omega
      have er : X ++ (S1 ++ x :: z :: S2 ++ B2) ++ Y = (X ++ S1) ++ x :: z :: (S2 ++ B2 ++ Y) := by simp
      rw [er]
      have a1 : ((X ++ S1) ++ x :: z :: (S2 ++ B2 ++ Y))[a + S1.length]? = some x := by rw [show a + S1.length = (X ++ S1).length by simp; omega]; exact Ss.at_app _ _ _
      have a2 : ((X ++ S1) ++ x :: z :: (S2 ++ B2 ++ Y))[a + (S1.length + 1)]? = some z := by rw [show a + (S1.length + 1) = ((X ++ S1) ++ [x]).length by simp only [List.length_append, List.length_singleton]; omega, show (X ++ S1) ++ x :: z :: (S2 ++ B2 ++ Y) = ((X ++ S1) ++ [x]) ++ z :: (S2 ++ B2 ++ Y) by simp]; exact Ss.at_app _ _ _
      have b1 := s_at (enc := enc) a1
      have b2 := s_at (enc := enc) a2
      have c1 := s_lt' (enc := enc) a1
      have c2 := s_lt' (enc := enc) a2
      have z1 : (0 : Int) ≤ ((a + S1.length : Nat) : Int) := Int.natCast_nonneg _
      have z2 : (0 : Int) ≤ ((a + (S1.length + 1) : Nat) : Int) := Int.natCast_nonneg _
      have sw := s_sw (enc := enc) a1 a2
      rw [Ss.sw_adj (X ++ S1) x z (S2 ++ B2 ++ Y) _ _ (by simp; omega) (by simp; omega)] at sw
      generalize hR : (X ++ S1) ++ x :: z :: (S2 ++ B2 ++ Y) = R at er b1 b2 c1 c2 sw ⊢
      have lt1 : ((a + S1.length : Nat) : Int).toNat < (R.map enc).length := by omega
      have lt2 : ((a + (S1.length + 1) : Nat) : Int).toNat < ((R.map enc).set ((a + S1.length : Nat) : Int).toNat (enc z)).length := by rw [List.length_set]; omega
      repeat (first
          | (refine K.move ?_; refine JO.q rfl rfl (Nat.le_of_ble_eq_true rfl) (Qt.move rfl) ?_)
          | (refine K.binOp ?_; first | refine JO.q rfl rfl (Nat.le_of_ble_eq_true rfl) ((Qt.ari rfl rfl rfl w2)) ?_ | refine JO.q rfl rfl (Nat.le_of_ble_eq_true rfl) (Qt.cmp rfl rfl (congrArg some t2)) ?_)
          | refine JO.nil ?_
          | refine J.seq ?_
          | refine J.region ?_
          | refine J.block ?_
          | refine J.skip ?_
          | refine J.cond_t rfl ?_)
      refine J.draw (by kernel_rfl) rfl ?_
      refine JW.base1 none (.tmp 0) rfl ?_
      refine JD.take 0 rfl rfl (by kernel_rfl) rfl (Nat.le_of_ble_eq_true rfl) (Qt.move rfl) rfl ?_
      refine JD.take 1 rfl rfl (by kernel_rfl) rfl (Nat.le_of_ble_eq_true rfl) (Qt.move rfl) rfl ?_
      refine JD.take 2 rfl rfl (by kernel_rfl) rfl (Nat.le_of_ble_eq_true rfl) (Qt.move rfl) rfl ?_
      refine JD.take 3 rfl rfl (by kernel_rfl) rfl (Nat.le_of_ble_eq_true rfl) (Qt.move rfl) rfl ?_
      refine JD.take 4 rfl rfl (by kernel_rfl) rfl (Nat.le_of_ble_eq_true rfl) (Qt.ari rfl rfl rfl w3) rfl ?_
      refine JD.take 5 rfl rfl (by kernel_rfl) rfl (Nat.le_of_ble_eq_true rfl) (Qt.move rfl) rfl ?_
      refine JD.take 6 rfl rfl (by kernel_rfl) rfl (Nat.le_of_ble_eq_true rfl) (Qt.move rfl) rfl ?_
      refine JD.take 7 rfl rfl (by kernel_rfl) rfl (Nat.le_of_ble_eq_true rfl) (Qt.ari rfl rfl rfl w3) rfl ?_
      refine JD.take 8 rfl rfl (by kernel_rfl) rfl (Nat.le_of_ble_eq_true rfl) (Qt.indexO rfl rfl z2 c2) rfl ?_
      refine JD.take 10 rfl rfl (by kernel_rfl) rfl (Nat.le_of_ble_eq_true rfl) (Qt.move rfl) rfl ?_
      refine JD.take 11 rfl rfl (by kernel_rfl) rfl (Nat.le_of_ble_eq_true rfl) (Qt.move rfl) rfl ?_
      refine JD.take 12 rfl rfl (by kernel_rfl) rfl (Nat.le_of_ble_eq_true rfl) (Qt.indexO rfl rfl z1 c1) rfl ?_
      refine JD.each2 (i := 9) (j := 13) (by kernel_rfl) ?_ ?_
      refine JS.q rfl rfl rfl (Nat.le_of_ble_eq_true rfl) (Qt.loadWo rfl b2 (hz _)) ?_
      refine JD.each1 (i := 13) (by kernel_rfl) ?_
      refine JS.q rfl rfl rfl (Nat.le_of_ble_eq_true rfl) (Qt.loadWo rfl b1 (hz _)) ?_
      refine JD.take 14 rfl rfl (by kernel_rfl) rfl (Nat.le_of_ble_eq_true rfl) (Qt.indexO rfl rfl z1 c1) rfl ?_
      refine JD.each1 (i := 15) (by kernel_rfl) ?_
      refine JS.st rfl rfl rfl (Ld.storeOW rfl rfl rfl (hz _) lt1) (by (exact .trow rfl)) (fun _ => ?_)
      refine JD.take 16 rfl rfl (by kernel_rfl) rfl (Nat.le_of_ble_eq_true rfl) (Qt.indexO rfl rfl z2 c2) rfl ?_
      refine JD.each1 (i := 17) (by kernel_rfl) ?_
      refine JS.st rfl rfl rfl (Ld.storeOW rfl rfl rfl (hz _) lt2) (by (exact .trow rfl)) (fun _ => ?_)
      refine JD.done (by kernel_rfl) ?_
      rotate_left
      refine JS.q rfl rfl rfl (Nat.le_of_ble_eq_true rfl) (Qt.loadWo rfl b1 (hz _)) ?_
      refine JD.each1 (i := 9) (by kernel_rfl) ?_
      refine JS.q rfl rfl rfl (Nat.le_of_ble_eq_true rfl) (Qt.loadWo rfl b2 (hz _)) ?_
      refine JD.take 14 rfl rfl (by kernel_rfl) rfl (Nat.le_of_ble_eq_true rfl) (Qt.indexO rfl rfl z1 c1) rfl ?_
      refine JD.each1 (i := 15) (by kernel_rfl) ?_
      refine JS.st rfl rfl rfl (Ld.storeOW rfl rfl rfl (hz _) lt1) (by (exact .trow rfl)) (fun _ => ?_)
      refine JD.take 16 rfl rfl (by kernel_rfl) rfl (Nat.le_of_ble_eq_true rfl) (Qt.indexO rfl rfl z2 c2) rfl ?_
      refine JD.each1 (i := 17) (by kernel_rfl) ?_
      refine JS.st rfl rfl rfl (Ld.storeOW rfl rfl rfl (hz _) lt2) (by (exact .trow rfl)) (fun _ => ?_)
      refine JD.done (by kernel_rfl) ?_
      rotate_left
      all_goals
        repeat (first
            | (refine K.move ?_; refine JO.q rfl rfl (Nat.le_of_ble_eq_true rfl) (Qt.move rfl) ?_)
            | (refine K.assign ?_; refine JO.q rfl rfl (Nat.le_of_ble_eq_true rfl) (Qt.assign rfl) ?_)
            | (refine K.binOp ?_; (refine JO.q rfl rfl (Nat.le_of_ble_eq_true rfl) ((Qt.ari rfl rfl rfl w3)) ?_))
            | refine JO.nil ?_
            | refine J.region ?_
            | refine J.inBlock ?_)
        refine J.congL ?_ ((ih ⟨(S1 ++ [z], S2), by simp [qS]⟩ (by simp)).weak ⟨by simp only [List.length_append, List.length_singleton]; rfl, rfl, rfl, rfl, rfl, trivial⟩)
        simp only
        refine congrArg (fun r => Res.row v 35 9 r :: C) (Eq.trans ?_ sw.symm)
        simp
theorem s_symBEv (CF : CmpFn Try.prog fv C enc key) (hz : ∀ x, (enc x).length = 9) (v : Value) (l X A0 B0 Y : List α) (a m b : Nat) (hl : l = X ++ A0 ++ B0 ++ Y) (ha : a = X.length) (hm : m = a + A0.length) (hb : b = m + B0.length) (nA : A0.length ≠ 0) (nB : B0.length ≠ 0) (sA : Ss.Srt key A0) (sB : Ss.Srt key B0) (hn : l.length ≤ 1000000) (h1 : A0.length ≠ 1) (h2 : B0.length = 1) :
    Con Try.prog 91 [.c (.v v), .c (nI a), .c (nI m), .c (nI b), .c (.v fv)] (.row v 35 9 (l.map enc) :: C) (fun _ : Unit => (.tup [], .row v 35 9 ((X ++ Ss.mg key A0 B0 ++ Y).map enc) :: C)) := by
  have len : l.length = b + Y.length := by rw [hl]; simp; omega
  have w0 : IntKind.i64.wrap ((m : Int) - (a : Int)) = (A0.length : Int) := by rw [w64 (by omega) (by omega)]; omega
  have w1 : IntKind.i64.wrap ((b : Int) - (m : Int)) = (B0.length : Int) := by rw [w64 (by omega) (by omega)]; omega
  refine Con.intro Try.func91 rfl rfl rfl (fun ok e => ?_)
  have t0 : ((A0.length : Int) == 1) = false := by simp; omega
  have t9 : ((B0.length : Int) == 1) = true := by rw [h2]; rfl
  obtain ⟨y, rfl⟩ := List.length_eq_one_iff.1 h2
  obtain ⟨A1, A2, rfl, hr, k1, k2⟩ := Ss.searchG (key y) X A0 ([y] ++ Y) a m ha hm sA
  rw [Ss.mg_last k1 k2]
  rw [show X ++ (A1 ++ A2) ++ ([y] ++ Y) = l by rw [hl]; simp] at hr
  have ay : l[m]? = some y := by rw [hl, show X ++ (A1 ++ A2) ++ [y] ++ Y = (X ++ (A1 ++ A2)) ++ y :: Y by simp, show m = (X ++ (A1 ++ A2)).length by rw [List.length_append]; omega]; exact Ss.at_app _ _ _
  generalize hp : (fun h => !decide (key y < Ss.ky key l h)) = p at hr
  have hl' : (A1 ++ A2).length = A1.length + A2.length := List.length_append
  have by' := s_at (enc := enc) ay
  have cy := s_lt' (enc := enc) ay
  have zy : (0 : Int) ≤ (m : Int) := Int.natCast_nonneg _
  repeat (first
      | (refine K.move ?_; refine JO.q rfl rfl (Nat.le_of_ble_eq_true rfl) (Qt.move rfl) ?_)
      | (refine K.assign ?_; refine JO.q rfl rfl (Nat.le_of_ble_eq_true rfl) (Qt.assign rfl) ?_)
      | (refine K.binOp ?_; first | refine JO.q rfl rfl (Nat.le_of_ble_eq_true rfl) ((Qt.ari rfl rfl rfl w0)) ?_ | refine JO.q rfl rfl (Nat.le_of_ble_eq_true rfl) ((Qt.ari rfl rfl rfl w1)) ?_ | refine JO.q rfl rfl (Nat.le_of_ble_eq_true rfl) (Qt.cmp rfl rfl (congrArg some t0)) ?_ | refine JO.q rfl rfl (Nat.le_of_ble_eq_true rfl) (Qt.cmp rfl rfl (congrArg some t9)) ?_)
      | refine JO.nil ?_
      | refine J.seq ?_
      | refine J.region ?_
      | refine J.block ?_
      | refine J.skip ?_
      | refine J.cond_t rfl ?_
      | refine J.cond_f rfl ?_)
  refine J.loop (ι := { q : Nat × Nat // a ≤ q.1 ∧ q.1 ≤ q.2 ∧ q.2 ≤ m ∧ Ss.bs p q.1 q.2 = a + A1.length }) (fun q => [(14, .c (nI q.1.1)), (15, .c (nI q.1.2)), (0, .c (.v v)), (2, .c (nI m)), (4, .c (.v fv))]) (fun q => .row v 35 9 (l.map enc) :: C) (fun q => q.1.2 - q.1.1) ⟨(a, m), Nat.le_refl _, by simp only; omega, Nat.le_refl _, hr⟩ (fun X h => h.weak ⟨rfl, rfl, rfl, rfl, rfl, trivial⟩) (fun q ih => ?_)
  obtain ⟨⟨i, j⟩, q1, q2, q3, q4⟩ := q
  simp only at q1 q2 q3 q4 ih ⊢
  by_cases hk : i < j
  · have t1 : decide ((i : Int) < (j : Int)) = true := decide_eq_true (by omega)
    obtain ⟨x, ax⟩ : ∃ x, l[(i + j) / 2]? = some x := ⟨_, List.getElem?_eq_getElem (by omega)⟩
    have bx := s_at (enc := enc) ax
    have cx := s_lt' (enc := enc) ax
    have zx : (0 : Int) ≤ (((i + j) / 2 : Nat) : Int) := Int.natCast_nonneg _
    have py : p ((i + j) / 2) = !decide (key y < key x) := by rw [← hp]; simp only; rw [Ss.ky_some ax]
    have w2 : IntKind.i64.wrap ((i : Int) + (j : Int)) = ((i + j : Nat) : Int) := s_half (by omega)
    have w3 : IntKind.u64.wrap ((i + j : Nat) : Int) = ((i + j : Nat) : Int) := s_u64 (by omega)
    have w4 : IntKind.i64.wrap (((i + j) / 2 : Nat) : Int) = (((i + j) / 2 : Nat) : Int) := w64 (by omega) (by omega)
    have w5 : IntKind.i64.wrap ((((i + j) / 2 : Nat) : Int) + 1) = (((i + j) / 2 + 1 : Nat) : Int) := by rw [w64 (by omega) (by omega)]; omega
    have hh : i + j ≤ 4000000 := by omega
    repeat (first
        | (refine K.move ?_; refine JO.q rfl rfl (Nat.le_of_ble_eq_true rfl) (Qt.move rfl) ?_)
        | (refine K.assign ?_; refine JO.q rfl rfl (Nat.le_of_ble_eq_true rfl) (Qt.assign rfl) ?_)
        | (refine K.binOp ?_; first | refine JO.q rfl rfl (Nat.le_of_ble_eq_true rfl) (Qt.cmp rfl rfl (congrArg some t1)) ?_ | refine JO.q rfl rfl (Nat.le_of_ble_eq_true rfl) ((Qt.ari rfl rfl rfl w2)) ?_ | refine JO.q rfl rfl (Nat.le_of_ble_eq_true rfl) (Qt.bin rfl rfl (fun w => s_shr hh)) ?_)
        | (refine K.convert ?_; first | refine JO.q rfl rfl (Nat.le_of_ble_eq_true rfl) (Qt.conv rfl w3) ?_ | refine JO.q rfl rfl (Nat.le_of_ble_eq_true rfl) (Qt.conv rfl w4) ?_)
        | refine JO.nil ?_
        | refine J.seq ?_
        | refine J.region ?_
        | refine J.block ?_
        | refine J.skip ?_
        | refine J.cond_t rfl ?_)
    cases t3 : decide (key y < key x) with
    | true =>
      rw [t3] at py
      refine J.draw (by kernel_rfl) rfl ?_
      refine JW.base none ?_
      refine JD.take 0 rfl rfl (by kernel_rfl) rfl (Nat.le_of_ble_eq_true rfl) (Qt.move rfl) rfl ?_
      refine JD.take 1 rfl rfl (by kernel_rfl) rfl (Nat.le_of_ble_eq_true rfl) (Qt.move rfl) rfl ?_
      refine JD.take 2 rfl rfl (by kernel_rfl) rfl (Nat.le_of_ble_eq_true rfl) (Qt.move rfl) rfl ?_
      refine JD.take 3 rfl rfl (by kernel_rfl) rfl (Nat.le_of_ble_eq_true rfl) (Qt.indexO rfl rfl zy cy) rfl ?_
      refine JD.take 4 rfl rfl (by kernel_rfl) rfl (Nat.le_of_ble_eq_true rfl) (Qt.loadWo rfl by' (hz _)) rfl ?_
      refine JD.take 5 rfl rfl (by kernel_rfl) rfl (Nat.le_of_ble_eq_true rfl) (Qt.move rfl) rfl ?_
      refine JD.take 6 rfl rfl (by kernel_rfl) rfl (Nat.le_of_ble_eq_true rfl) (Qt.move rfl) rfl ?_
      refine JD.take 7 rfl rfl (by kernel_rfl) rfl (Nat.le_of_ble_eq_true rfl) (Qt.indexO rfl rfl zx cx) rfl ?_
      refine JD.take 8 rfl rfl (by kernel_rfl) rfl (Nat.le_of_ble_eq_true rfl) (Qt.loadWo rfl bx (hz _)) rfl ?_
      refine JD.each1 (i := 9) (by kernel_rfl) ?_
      refine JS.loud rfl rfl rfl (Nat.le_of_ble_eq_true rfl) (Ld.cmpV CF y x ⟨[_], rfl⟩ (Nat.le_of_ble_eq_true rfl) rfl rfl rfl) (by (exact .none)) (fun _ => ?_)
      refine JD.each1 (i := 10) (by kernel_rfl) ?_
      refine JS.q rfl rfl rfl (Nat.le_of_ble_eq_true rfl) (Qt.cmp rfl rfl (congrArg some (cq_lt t3))) ?_
      refine JD.each1 (i := 11) (by kernel_rfl) ?_
      refine JS.q rfl rfl rfl (Nat.le_of_ble_eq_true rfl) (Qt.not rfl) ?_
      refine JD.done (by kernel_rfl) ?_
      repeat (first
          | (refine K.move ?_; refine JO.q rfl rfl (Nat.le_of_ble_eq_true rfl) (Qt.move rfl) ?_)
          | (refine K.assign ?_; refine JO.q rfl rfl (Nat.le_of_ble_eq_true rfl) (Qt.assign rfl) ?_)
          | refine JO.nil ?_
          | refine J.region ?_
          | refine J.inBlock ?_
          | refine J.cond_f rfl ?_)
      exact (ih ⟨(i, (i + j) / 2), q1, by simp only; omega, by simp only; omega, by simp only; rw [← Ss.bs_f hk py]; exact q4⟩ (by simp only; omega)).weak ⟨rfl, rfl, rfl, rfl, rfl, trivial⟩
    | false =>
      rw [t3] at py
      refine J.draw (by kernel_rfl) rfl ?_
      refine JW.base none ?_
      refine JD.take 0 rfl rfl (by kernel_rfl) rfl (Nat.le_of_ble_eq_true rfl) (Qt.move rfl) rfl ?_
      refine JD.take 1 rfl rfl (by kernel_rfl) rfl (Nat.le_of_ble_eq_true rfl) (Qt.move rfl) rfl ?_
      refine JD.take 2 rfl rfl (by kernel_rfl) rfl (Nat.le_of_ble_eq_true rfl) (Qt.move rfl) rfl ?_
      refine JD.take 3 rfl rfl (by kernel_rfl) rfl (Nat.le_of_ble_eq_true rfl) (Qt.indexO rfl rfl zy cy) rfl ?_
      refine JD.take 4 rfl rfl (by kernel_rfl) rfl (Nat.le_of_ble_eq_true rfl) (Qt.loadWo rfl by' (hz _)) rfl ?_
      refine JD.take 5 rfl rfl (by kernel_rfl) rfl (Nat.le_of_ble_eq_true rfl) (Qt.move rfl) rfl ?_
      refine JD.take 6 rfl rfl (by kernel_rfl) rfl (Nat.le_of_ble_eq_true rfl) (Qt.move rfl) rfl ?_
      refine JD.take 7 rfl rfl (by kernel_rfl) rfl (Nat.le_of_ble_eq_true rfl) (Qt.indexO rfl rfl zx cx) rfl ?_
      refine JD.take 8 rfl rfl (by kernel_rfl) rfl (Nat.le_of_ble_eq_true rfl) (Qt.loadWo rfl bx (hz _)) rfl ?_
      refine JD.each1 (i := 9) (by kernel_rfl) ?_
      refine JS.loud rfl rfl rfl (Nat.le_of_ble_eq_true rfl) (Ld.cmpV CF y x ⟨[_], rfl⟩ (Nat.le_of_ble_eq_true rfl) rfl rfl rfl) (by (exact .none)) (fun _ => ?_)
      refine JD.each1 (i := 10) (by kernel_rfl) ?_
      refine JS.q rfl rfl rfl (Nat.le_of_ble_eq_true rfl) (Qt.cmp rfl rfl (congrArg some (cq_lt t3))) ?_
      refine JD.each1 (i := 11) (by kernel_rfl) ?_
      refine JS.q rfl rfl rfl (Nat.le_of_ble_eq_true rfl) (Qt.not rfl) ?_
      refine JD.done (by kernel_rfl) ?_
      repeat (first
          | (refine K.move ?_; refine JO.q rfl rfl (Nat.le_of_ble_eq_true rfl) (Qt.move rfl) ?_)
          | (refine K.assign ?_; refine JO.q rfl rfl (Nat.le_of_ble_eq_true rfl) (Qt.assign rfl) ?_)
          | (refine K.binOp ?_; (refine JO.q rfl rfl (Nat.le_of_ble_eq_true rfl) ((Qt.ari rfl rfl rfl w5)) ?_))
          | refine JO.nil ?_
          | refine J.region ?_
          | refine J.inBlock ?_
          | refine J.cond_t rfl ?_)
      exact (ih ⟨((i + j) / 2 + 1, j), by simp only; omega, by simp only; omega, q3, by simp only; rw [← Ss.bs_t hk py]; exact q4⟩ (by simp only; omega)).weak ⟨rfl, rfl, rfl, rfl, rfl, trivial⟩
  · have t1 : decide ((i : Int) < (j : Int)) = false := decide_eq_false (by omega)
    rw [Ss.bs_e hk] at q4
    clear ih q1 q2 q3 hp hr by' cy
    subst q4
    rw [hl]
    clear hl ay
    repeat (first
        | (refine K.move ?_; refine JO.q rfl rfl (Nat.le_of_ble_eq_true rfl) (Qt.move rfl) ?_)
        | (refine K.assign ?_; refine JO.q rfl rfl (Nat.le_of_ble_eq_true rfl) (Qt.assign rfl) ?_)
        | (refine K.binOp ?_; (refine JO.q rfl rfl (Nat.le_of_ble_eq_true rfl) (Qt.cmp rfl rfl (congrArg some t1)) ?_))
        | refine JO.nil ?_
        | refine J.seq ?_
        | refine J.region ?_
        | refine J.block ?_
        | refine J.exit rfl ?_
        | refine J.cond_f rfl ?_)
    refine J.congL (L' := .row v 35 9 ((X ++ (A1 ++ A2 ++ y :: []) ++ Y).map enc) :: C) (by simp) ?_
    refine J.loop (ι := { q : List α × List α // A2 = q.1 ++ q.2 }) (fun q => [(17, .c (nI (a + A1.length + q.1.1.length : Nat))), (14, .c (nI (a + A1.length : Nat))), (0, .c (.v v)), (4, .c (.v fv))]) (fun q => .row v 35 9 ((X ++ (A1 ++ q.1.1 ++ y :: q.1.2) ++ Y).map enc) :: C) (fun q => q.1.1.length) ⟨(A2, []), by simp⟩ (fun X h => h.weak ⟨by rw [show m = a + A1.length + A2.length by omega]; rfl, rfl, rfl, rfl, trivial⟩) (fun q ih => ?_)
    obtain ⟨⟨S1, S2⟩, qS⟩ := q
    simp only at qS ih ⊢
    have lB : A2.length = S1.length + S2.length := by rw [qS]; simp
    rcases List.eq_nil_or_concat S1 with h | ⟨S1', z, h⟩
    · subst h
      have t2 : decide (((a + A1.length + ([] : List α).length : Nat) : Int) > ((a + A1.length : Nat) : Int)) = false := decide_eq_false (by simp)
      rw [List.nil_append] at qS
      subst qS
      repeat (first
          | (refine K.move ?_; refine JO.q rfl rfl (Nat.le_of_ble_eq_true rfl) (Qt.move rfl) ?_)
          | (refine K.binOp ?_; (refine JO.q rfl rfl (Nat.le_of_ble_eq_true rfl) (Qt.cmp rfl rfl (congrArg some t2)) ?_))
          | refine JO.nil ?_
          | refine J.seq ?_
          | refine J.region ?_
          | refine J.exit rfl ?_
          | refine J.cond_f rfl ?_)
      refine J.congL (L' := .row v 35 9 ((X ++ (A1 ++ y :: A2) ++ Y).map enc) :: C) (by simp) ?_
      (exact J.retA Try.func91 rfl .nil () (by (exact .refl)) rfl)
    · rw [List.concat_eq_append] at h
      subst h
      have l1 : (S1' ++ [z]).length = S1'.length + 1 := by simp
      rw [l1] at lB ⊢
      have t2 : decide (((a + A1.length + (S1'.length + 1) : Nat) : Int) > ((a + A1.length : Nat) : Int)) = true := decide_eq_true (by omega)
      have w3 : IntKind.i64.wrap (((a + A1.length + (S1'.length + 1) : Nat) : Int) - 1) = ((a + A1.length + S1'.length : Nat) : Int) := by rw [w64 (by omega) (by omega)]; omega
      have er : X ++ (A1 ++ (S1' ++ [z]) ++ y :: S2) ++ Y = (X ++ A1 ++ S1') ++ z :: y :: (S2 ++ Y) := by simp
      rw [er]
      have a1 : ((X ++ A1 ++ S1') ++ z :: y :: (S2 ++ Y))[a + A1.length + S1'.length]? = some z := by rw [show a + A1.length + S1'.length = (X ++ A1 ++ S1').length by simp; omega]; exact Ss.at_app _ _ _
      have a2 : ((X ++ A1 ++ S1') ++ z :: y :: (S2 ++ Y))[a + A1.length + (S1'.length + 1)]? = some y := by rw [show a + A1.length + (S1'.length + 1) = ((X ++ A1 ++ S1') ++ [z]).length by simp only [List.length_append, List.length_singleton]; omega, show (X ++ A1 ++ S1') ++ z :: y :: (S2 ++ Y) = ((X ++ A1 ++ S1') ++ [z]) ++ y :: (S2 ++ Y) by simp]; exact Ss.at_app _ _ _
      have b1 := s_at (enc := enc) a1
      have b2 := s_at (enc := enc) a2
      have c1 := s_lt' (enc := enc) a1
      have c2 := s_lt' (enc := enc) a2
      have z1 : (0 : Int) ≤ ((a + A1.length + S1'.length : Nat) : Int) := Int.natCast_nonneg _
      have z2 : (0 : Int) ≤ ((a + A1.length + (S1'.length + 1) : Nat) : Int) := Int.natCast_nonneg _
      have sw := s_sw (enc := enc) a2 a1
      rw [Ss.sw_comm, Ss.sw_adj (X ++ A1 ++ S1') z y (S2 ++ Y) _ _ (by simp; omega) (by simp; omega)] at sw
      generalize hR : (X ++ A1 ++ S1') ++ z :: y :: (S2 ++ Y) = R at er b1 b2 c1 c2 sw ⊢
      have lt1 : ((a + A1.length + (S1'.length + 1) : Nat) : Int).toNat < (R.map enc).length := by omega
      have lt2 : ((a + A1.length + S1'.length : Nat) : Int).toNat < ((R.map enc).set ((a + A1.length + (S1'.length + 1) : Nat) : Int).toNat (enc z)).length := by rw [List.length_set]; omega
      repeat (first
          | (refine K.move ?_; refine JO.q rfl rfl (Nat.le_of_ble_eq_true rfl) (Qt.move rfl) ?_)
          | (refine K.binOp ?_; (refine JO.q rfl rfl (Nat.le_of_ble_eq_true rfl) (Qt.cmp rfl rfl (congrArg some t2)) ?_))
          | refine JO.nil ?_
          | refine J.seq ?_
          | refine J.region ?_
          | refine J.block ?_
          | refine J.skip ?_
          | refine J.cond_t rfl ?_)
      refine J.draw (by kernel_rfl) rfl ?_
      refine JW.base1 none (.tmp 0) rfl ?_
      refine JD.take 0 rfl rfl (by kernel_rfl) rfl (Nat.le_of_ble_eq_true rfl) (Qt.move rfl) rfl ?_
      refine JD.take 1 rfl rfl (by kernel_rfl) rfl (Nat.le_of_ble_eq_true rfl) (Qt.move rfl) rfl ?_
      refine JD.take 2 rfl rfl (by kernel_rfl) rfl (Nat.le_of_ble_eq_true rfl) (Qt.move rfl) rfl ?_
      refine JD.take 3 rfl rfl (by kernel_rfl) rfl (Nat.le_of_ble_eq_true rfl) (Qt.move rfl) rfl ?_
      refine JD.take 4 rfl rfl (by kernel_rfl) rfl (Nat.le_of_ble_eq_true rfl) (Qt.ari rfl rfl rfl w3) rfl ?_
      refine JD.take 5 rfl rfl (by kernel_rfl) rfl (Nat.le_of_ble_eq_true rfl) (Qt.move rfl) rfl ?_
      refine JD.take 6 rfl rfl (by kernel_rfl) rfl (Nat.le_of_ble_eq_true rfl) (Qt.move rfl) rfl ?_
      refine JD.take 7 rfl rfl (by kernel_rfl) rfl (Nat.le_of_ble_eq_true rfl) (Qt.ari rfl rfl rfl w3) rfl ?_
      refine JD.take 8 rfl rfl (by kernel_rfl) rfl (Nat.le_of_ble_eq_true rfl) (Qt.indexO rfl rfl z1 c1) rfl ?_
      refine JD.take 10 rfl rfl (by kernel_rfl) rfl (Nat.le_of_ble_eq_true rfl) (Qt.move rfl) rfl ?_
      refine JD.take 11 rfl rfl (by kernel_rfl) rfl (Nat.le_of_ble_eq_true rfl) (Qt.move rfl) rfl ?_
      refine JD.take 12 rfl rfl (by kernel_rfl) rfl (Nat.le_of_ble_eq_true rfl) (Qt.indexO rfl rfl z2 c2) rfl ?_
      refine JD.each2 (i := 9) (j := 13) (by kernel_rfl) ?_ ?_
      refine JS.q rfl rfl rfl (Nat.le_of_ble_eq_true rfl) (Qt.loadWo rfl b1 (hz _)) ?_
      refine JD.each1 (i := 13) (by kernel_rfl) ?_
      refine JS.q rfl rfl rfl (Nat.le_of_ble_eq_true rfl) (Qt.loadWo rfl b2 (hz _)) ?_
      refine JD.take 14 rfl rfl (by kernel_rfl) rfl (Nat.le_of_ble_eq_true rfl) (Qt.indexO rfl rfl z2 c2) rfl ?_
      refine JD.each1 (i := 15) (by kernel_rfl) ?_
      refine JS.st rfl rfl rfl (Ld.storeOW rfl rfl rfl (hz _) lt1) (by (exact .trow rfl)) (fun _ => ?_)
      refine JD.take 16 rfl rfl (by kernel_rfl) rfl (Nat.le_of_ble_eq_true rfl) (Qt.indexO rfl rfl z1 c1) rfl ?_
      refine JD.each1 (i := 17) (by kernel_rfl) ?_
      refine JS.st rfl rfl rfl (Ld.storeOW rfl rfl rfl (hz _) lt2) (by (exact .trow rfl)) (fun _ => ?_)
      refine JD.done (by kernel_rfl) ?_
      rotate_left
      refine JS.q rfl rfl rfl (Nat.le_of_ble_eq_true rfl) (Qt.loadWo rfl b2 (hz _)) ?_
      refine JD.each1 (i := 9) (by kernel_rfl) ?_
      refine JS.q rfl rfl rfl (Nat.le_of_ble_eq_true rfl) (Qt.loadWo rfl b1 (hz _)) ?_
      refine JD.take 14 rfl rfl (by kernel_rfl) rfl (Nat.le_of_ble_eq_true rfl) (Qt.indexO rfl rfl z2 c2) rfl ?_
      refine JD.each1 (i := 15) (by kernel_rfl) ?_
      refine JS.st rfl rfl rfl (Ld.storeOW rfl rfl rfl (hz _) lt1) (by (exact .trow rfl)) (fun _ => ?_)
      refine JD.take 16 rfl rfl (by kernel_rfl) rfl (Nat.le_of_ble_eq_true rfl) (Qt.indexO rfl rfl z1 c1) rfl ?_
      refine JD.each1 (i := 17) (by kernel_rfl) ?_
      refine JS.st rfl rfl rfl (Ld.storeOW rfl rfl rfl (hz _) lt2) (by (exact .trow rfl)) (fun _ => ?_)
      refine JD.done (by kernel_rfl) ?_
      rotate_left
      all_goals
        repeat (first
            | (refine K.move ?_; refine JO.q rfl rfl (Nat.le_of_ble_eq_true rfl) (Qt.move rfl) ?_)
            | (refine K.assign ?_; refine JO.q rfl rfl (Nat.le_of_ble_eq_true rfl) (Qt.assign rfl) ?_)
            | (refine K.binOp ?_; (refine JO.q rfl rfl (Nat.le_of_ble_eq_true rfl) ((Qt.ari rfl rfl rfl w3)) ?_))
            | refine JO.nil ?_
            | refine J.region ?_
            | refine J.inBlock ?_)
        refine J.congL ?_ ((ih ⟨(S1', z :: S2), by simp [qS]⟩ (by simp)).weak ⟨rfl, rfl, rfl, rfl, trivial⟩)
        simp only
        refine congrArg (fun r => Res.row v 35 9 r :: C) (Eq.trans ?_ sw.symm)
        simp
end
end Fl
end Go.Proofs.Ytgjpdogjekmemaa
