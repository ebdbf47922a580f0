/-
  Numbers as text: strconv.Itoa, the document's digits and Num.
  Conditions: the table internal/strconv.uint64pow10 holds the powers of ten.
-/
import Derived.Test.YtihmklfmeghgaaaDoorFtD
import Derived.Test.YtihmklfmeghgaaaDoorFtI
import Derived.Lib.ItoaLen
set_option linter.unusedVariables false
set_option linter.unusedSimpArgs false
set_option linter.unnecessarySimpa false
namespace Go.Proofs.YtihmklfmeghgaaaDoor
open Go.RowKit Go.Extern.Stop Go.Stop Go.Extern

theorem below_grow (w : World) (k : Nat) (os : Array Obj) : Below w.heap.size w (Sort.grow (w.drewN k) os) := by
  refine ⟨rfl, rfl, rfl, ?_, fun j hj => ?_⟩
  · show w.heap.size ≤ (w.heap ++ os).size
    simp
  · show (w.heap ++ os)[j]? = w.heap[j]?
    rw [Array.getElem?_append_left hj]

theorem c_itoa {a0 a1 a2 : Addr} {w : World} (h : Std a0 a1 a2 w) (n : Int) (h0 : -9223372036854775808 ≤ n) (h1 : n ≤ 9223372036854775807) :
    Calls Tryd.prog 23 #[.int .i64 n] w fun e w' => e = .returned (.string ⟨(Lib.itoa n).toArray⟩) ∧ Below w.heap.size w w' :=
  (Tryd.strconv_Itoa n h0 h1 w h.tab).mono fun e w' ⟨e1, k, os, e2⟩ => ⟨e1, e2 ▸ below_grow w k os⟩

theorem wu (n : Int) (h0 : 0 ≤ n) (h1 : n < 18446744073709551616) : IntKind.u64.wrap n = n := by
  have : IntKind.u64.wrap n = n % 18446744073709551616 := by rfl
  rw [this]; omega
set_option maxRecDepth 100000 in
theorem c_digit (n : Int) (h0 : 0 ≤ n) (hu : n < 10) (w : World) :
    Calls Tryd.prog 30 #[.int .u64 n] w fun e w' => e = .returned (.string ⟨(Lib.decDigits n.toNat).toArray⟩) ∧ Below w.heap.size w w' := by
  have hc : decide (n < 10) = true := by simp; omega
  have e1 : IntKind.u64.wrap (48 + n) = 48 + n := by rw [wu _ (by omega) (by omega)]
  have e2 : (48 + n) % 256 = 48 + n := by omega
  have hcv : (convert 80 9 (.slice (some ⟨w.heap.size, 0, none⟩) 1 1)).run Tryd.prog (w.alloc (.cells #[.int .u8 (48 + n)] 5)) = .ok (.string (strOfNums [48 + n])) (w.alloc (.cells #[.int .u8 (48 + n)] 5)) :=
    run_convert_bytes_arg _ 80 5 Tryd.underlying80 Tryd.underlying5 w.heap.size 0 1 1 [48 + n] rfl (fun i hi => by (obtain rfl : i = 0 := by omega); simp) 9 Tryd.underlying9
  have er : strOfNums [48 + n] = ⟨(Lib.decDigits n.toNat).toArray⟩ := by
    rw [Lib.decDigits_one (by omega)]
    have : (48 + n).toNat = 48 + n.toNat := by omega
    simp [strOfNums, this]
  have ER : Hid (strOfNums [48 + n] = ⟨(Lib.decDigits n.toNat).toArray⟩) := er
  clear hu h0 er
  go_enter Tryd.func30, Tryd.ntmps30
  go_wp2
  go_ret
  rw [ER.out]
  exact ⟨rfl, allocs (Below.refl _ _) _⟩
set_option maxRecDepth 100000 in
theorem c_digits (n : Int) (h0 : 0 ≤ n) (h1 : n < 18446744073709551616) (hu : ¬ n < 10) (a b : ByteArray) (hs : a.size + b.size ≤ 9223372036854775807) (w : World)
    (A : ∀ w1, Calls Tryd.prog 30 #[.int .u64 (n / 10)] w1 fun e w' => e = .returned (.string a) ∧ Below w1.heap.size w1 w')
    (B : ∀ w1, Calls Tryd.prog 30 #[.int .u64 (n % 10)] w1 fun e w' => e = .returned (.string b) ∧ Below w1.heap.size w1 w') :
    Calls Tryd.prog 30 #[.int .u64 n] w fun e w' => e = .returned (.string (a ++ b)) ∧ Below w.heap.size w w' := by
  have hc : decide (n < 10) = false := by simp; omega
  have hS : (9223372036854775807 < a.size + b.size) = False := eq_false (by omega)
  have e3 : IntKind.u64.wrap (n.tdiv 10) = n / 10 := by rw [Int.tdiv_eq_ediv_of_nonneg h0, wu _ (by omega) (by omega)]
  have e4 : n.tmod 10 = n % 10 := Int.tmod_eq_emod_of_nonneg h0
  have HU : Hid (¬ n < 10) := hu
  have H0 : Hid (0 ≤ n) := h0
  clear hu h0 h1 hs
  go_enter Tryd.func30, Tryd.ntmps30
  go_wp2_with (go_at_call 30; first | (with_reducible refine (A _).mono ?_; rintro e w1 ⟨rfl, k1⟩) | (with_reducible refine (B _).mono ?_; rintro e w2 ⟨rfl, k2⟩))
  go_ret
  exact ⟨rfl, Kp.trans k1 k2⟩

theorem bs_append (l m : List UInt8) : (⟨l.toArray⟩ : ByteArray) ++ ⟨m.toArray⟩ = ⟨(l ++ m).toArray⟩ := by
  apply ByteArray.ext; simp

/-- digits: a number's decimal digits. -/
theorem c_dec : ∀ (k : Nat) (n : Int), n.toNat ≤ k → 0 ≤ n → n < 18446744073709551616 → ∀ w, Calls Tryd.prog 30 #[.int .u64 n] w fun e w' => e = .returned (.string ⟨(Lib.decDigits n.toNat).toArray⟩) ∧ Below w.heap.size w w'
  | 0, n, hk, h0, _, w => c_digit n h0 (by omega) w
  | k + 1, n, hk, h0, h1, w => by
    by_cases hu : n < 10
    · exact c_digit n h0 hu w
    · have e : Lib.decDigits n.toNat = Lib.decDigits (n / 10).toNat ++ Lib.decDigits (n % 10).toNat := by
        rw [Lib.decDigits, dif_neg (by omega), Lib.decDigits_one (i := (n % 10).toNat) (by omega)]
        have q1 : n.toNat / 10 = (n / 10).toNat := by omega
        have q2 : n.toNat % 10 = (n % 10).toNat := by omega
        rw [q1, q2]
      rw [e, ← bs_append]
      have l1 := Lib.nDigits_le20 (n / 10).toNat (by omega)
      have l2 := Lib.nDigits_le20 (n % 10).toNat (by omega)
      exact c_digits n h0 h1 hu _ _ (by simp [ByteArray.size, Lib.decDigits_length]; omega) w (fun w1 => c_dec k (n / 10) (by omega) (by omega) (by omega) w1) (fun w1 => c_digit (n % 10) (by omega) (by omega) w1)

set_option maxRecDepth 100000 in
/-- Num of a number from 0 on. -/
theorem c_num_pos (n : Int) (h0 : 0 ≤ n) (h1 : n ≤ 9223372036854775807) (w : World) :
    Calls Tryd.prog 24 #[.int .i64 n] w fun e w' => e = .returned (.string ⟨(Lib.itoa n).toArray⟩) ∧ Below w.heap.size w w' := by
  have hi : Lib.itoa n = Lib.decDigits n.toNat := by unfold Lib.itoa; rw [if_neg (by omega)]
  have D := c_dec n.toNat n (Nat.le_refl _) h0 (by omega) w
  have e1 : IntKind.u64.wrap n = n := wu n h0 (by omega)
  have hc : decide (0 ≤ n) = true := by simp; omega
  rw [hi]
  clear h0 h1 hi
  go_enter Tryd.func24, Tryd.ntmps24
  go_wp2_with (go_at_call 30; with_reducible refine D.mono ?_; rintro e w1 ⟨rfl, k1⟩)
  go_ret
  exact ⟨rfl, k1⟩
set_option maxRecDepth 100000 in
theorem c_num_small (n : Int) (h0 : n < 0) (h1 : -10 < n) (S : ByteArray) (hs : S.size ≤ 100) (w : World) (D : Calls Tryd.prog 30 #[.int .u64 (-n)] w fun e w' => e = .returned (.string S) ∧ Below w.heap.size w w') :
    Calls Tryd.prog 24 #[.int .i64 n] w fun e w' => e = .returned (.string (⟨#[45]⟩ ++ S)) ∧ Below w.heap.size w w' := by
  have e0 : IntKind.i64.wrap (-n) = -n := by rw [IntKind.wrap_i64]; omega
  have e1 : IntKind.u64.wrap (-n) = -n := wu _ (by omega) (by omega)
  have hc : decide (0 ≤ n) = false := by simp; omega
  have hc2 : decide (-10 < n) = true := by simp; omega
  have hS : (9223372036854775807 < 1 + S.size) = False := eq_false (by omega)
  clear h0 h1 hs
  go_enter Tryd.func24, Tryd.ntmps24
  go_wp2_with (go_at_call 30; with_reducible refine D.mono ?_; rintro e w1 ⟨rfl, k1⟩)
  go_ret
  exact ⟨rfl, k1⟩
set_option maxRecDepth 100000 in
theorem c_num_neg (n : Int) (h0 : n ≤ -10) (h1 : -9223372036854775808 ≤ n) (S T : ByteArray) (hs : S.size ≤ 100) (ht : T.size ≤ 100) (w : World)
    (D : ∀ w, Calls Tryd.prog 30 #[.int .u64 (-n / 10)] w fun e w' => e = .returned (.string S) ∧ Below w.heap.size w w')
    (D2 : ∀ w, Calls Tryd.prog 30 #[.int .u64 (-n % 10)] w fun e w' => e = .returned (.string T) ∧ Below w.heap.size w w') :
    Calls Tryd.prog 24 #[.int .i64 n] w fun e w' => e = .returned (.string (⟨#[45]⟩ ++ S ++ T)) ∧ Below w.heap.size w w' := by
  have q1 : n.tdiv 10 = -(-n / 10) := by
    obtain ⟨m, rfl⟩ : ∃ m, n = -m := ⟨-n, by omega⟩
    rw [Int.neg_tdiv, Int.tdiv_eq_ediv_of_nonneg (by omega)]; simp
  have q2 : n.tmod 10 = -(-n % 10) := by
    obtain ⟨m, rfl⟩ : ∃ m, n = -m := ⟨-n, by omega⟩
    rw [Int.neg_tmod, Int.tmod_eq_emod_of_nonneg (by omega)]; simp
  have e0 : IntKind.i64.wrap (-(-n / 10)) = -(-n / 10) := by rw [IntKind.wrap_i64]; omega
  have e2 : IntKind.i64.wrap (-n / 10) = -n / 10 := by rw [IntKind.wrap_i64]; omega
  have e1 : IntKind.u64.wrap (-n / 10) = -n / 10 := wu _ (by omega) (by omega)
  have f2 : IntKind.i64.wrap (-n % 10) = -n % 10 := by rw [IntKind.wrap_i64]; omega
  have f1 : IntKind.u64.wrap (-n % 10) = -n % 10 := wu _ (by omega) (by omega)
  have hc : decide (0 ≤ n) = false := by simp; omega
  have hc2 : decide (-10 < n) = false := by simp; omega
  have hS : (9223372036854775807 < 1 + S.size) = False := eq_false (by omega)
  have hT : (9223372036854775807 < 1 + S.size + T.size) = False := eq_false (by omega)
  clear h0 h1 hs ht
  generalize hA : -n / 10 = A at *
  generalize hB : -n % 10 = B at *
  clear hA hB
  go_enter Tryd.func24, Tryd.ntmps24
  go_wp2_with (go_at_call 30; first | (with_reducible refine (D _).mono ?_; rintro e w1 ⟨rfl, k1⟩) | (with_reducible refine (D2 _).mono ?_; rintro e w2 ⟨rfl, k2⟩))
  go_ret
  exact ⟨rfl, Kp.trans k1 k2⟩
end Go.Proofs.YtihmklfmeghgaaaDoor
