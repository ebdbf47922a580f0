/-
  Numbers as text: the document's digits and Num; strconv.FormatInt at base 10.
  Conditions: of FormatInt: the table internal/strconv.uint64pow10 holds the powers of ten.
-/
import Derived.Test.YtgjpdogjekmemaaDoorFlt
import Derived.Test.YtgjpdogjekmemaaDoorPln
import Derived.Test.YtgjpdogjekmemaaDoorNumS
import Derived.Lib.ItoaLen
namespace Go.Proofs.YtgjpdogjekmemaaDoor
open Go.RowKit
set_option linter.unusedVariables false
set_option linter.unusedSimpArgs false
set_option linter.unnecessarySimpa false
namespace Fl
theorem below_grow (w : World) (k : Nat) (os : Array Obj) : Below w.heap.size w (Sort.grow (w.drewN k) os) := by
  refine ⟨rfl, rfl, rfl, ?_, fun j hj => ?_⟩
  · show w.heap.size ≤ (w.heap ++ os).size
    simp
  · show (w.heap ++ os)[j]? = w.heap[j]?
    rw [Array.getElem?_append_left hj]

theorem Kp.trans {a b c : World} (h : Below a.heap.size a b) (k : Below b.heap.size b c) : Below a.heap.size a c :=
  h.trans (k.mono h.size)
theorem allocs {w w' : World} (h : Below w.heap.size w w') (o : Obj) : Below w.heap.size w (w'.alloc o) := h.alloc h.size o
theorem wu (n : Int) (h0 : 0 ≤ n) (h1 : n < 18446744073709551616) : IntKind.u64.wrap n = n := by
  have : IntKind.u64.wrap n = n % 18446744073709551616 := by rfl
  rw [this]; omega
set_option maxRecDepth 100000 in
theorem nu_digit (n : Int) (h0 : 0 ≤ n) (hu : n < 10) (w : World) :
    Calls Tryd.prog 41 #[.int .u64 n] w fun e w' => e = .returned (.string ⟨(Lib.decDigits n.toNat).toArray⟩) ∧ Below w.heap.size w w' := by
  have hc : decide (n < 10) = true := by simp; omega
  have e1 : IntKind.u64.wrap (48 + n) = 48 + n := by rw [wu _ (by omega) (by omega)]
  have e2 : (48 + n) % 256 = 48 + n := by omega
  have hcv : (convert 43 9 (.slice (some ⟨w.heap.size, 0, none⟩) 1 1)).run Tryd.prog (w.alloc (.cells #[.int .u8 (48 + n)] 5)) = .ok (.string (strOfNums [48 + n])) (w.alloc (.cells #[.int .u8 (48 + n)] 5)) :=
    run_convert_bytes_arg _ 43 5 Tryd.underlying43 Tryd.underlying5 w.heap.size 0 1 1 [48 + n] rfl (fun i hi => by (obtain rfl : i = 0 := by omega); simp) 9 Tryd.underlying9
  have er : strOfNums [48 + n] = ⟨(Lib.decDigits n.toNat).toArray⟩ := by
    rw [Lib.decDigits_one (by omega)]
    have : (48 + n).toNat = 48 + n.toNat := by omega
    simp [strOfNums, this]
  have ER : Hid (strOfNums [48 + n] = ⟨(Lib.decDigits n.toNat).toArray⟩) := er
  clear hu h0 er
  go_enter Tryd.func41, Tryd.ntmps41
  go_wp2
  go_ret
  rw [ER.out]
  exact ⟨rfl, allocs (Below.refl _ _) _⟩
set_option maxRecDepth 100000 in
theorem nu_digits (n : Int) (h0 : 0 ≤ n) (h1 : n < 18446744073709551616) (hu : ¬ n < 10) (a b : ByteArray) (hs : a.size + b.size ≤ 9223372036854775807) (w : World)
    (A : ∀ w1, Calls Tryd.prog 41 #[.int .u64 (n / 10)] w1 fun e w' => e = .returned (.string a) ∧ Below w1.heap.size w1 w')
    (B : ∀ w1, Calls Tryd.prog 41 #[.int .u64 (n % 10)] w1 fun e w' => e = .returned (.string b) ∧ Below w1.heap.size w1 w') :
    Calls Tryd.prog 41 #[.int .u64 n] w fun e w' => e = .returned (.string (a ++ b)) ∧ Below w.heap.size w w' := by
  have hc : decide (n < 10) = false := by simp; omega
  have hS : (9223372036854775807 < a.size + b.size) = False := eq_false (by omega)
  have e3 : IntKind.u64.wrap (n.tdiv 10) = n / 10 := by rw [Int.tdiv_eq_ediv_of_nonneg h0, wu _ (by omega) (by omega)]
  have e4 : n.tmod 10 = n % 10 := Int.tmod_eq_emod_of_nonneg h0
  have HU : Hid (¬ n < 10) := hu
  have H0 : Hid (0 ≤ n) := h0
  clear hu h0 h1 hs
  go_enter Tryd.func41, Tryd.ntmps41
  go_wp2_with (go_at_call 41; first | (with_reducible refine (A _).mono ?_; rintro e w1 ⟨rfl, k1⟩) | (with_reducible refine (B _).mono ?_; rintro e w2 ⟨rfl, k2⟩))
  go_ret
  exact ⟨rfl, Kp.trans k1 k2⟩

theorem bs_append (l m : List UInt8) : (⟨l.toArray⟩ : ByteArray) ++ ⟨m.toArray⟩ = ⟨(l ++ m).toArray⟩ := by
  apply ByteArray.ext; simp

/-- digits: a number's decimal digits. -/
theorem nu_dec : ∀ (k : Nat) (n : Int), n.toNat ≤ k → 0 ≤ n → n < 18446744073709551616 → ∀ w, Calls Tryd.prog 41 #[.int .u64 n] w fun e w' => e = .returned (.string ⟨(Lib.decDigits n.toNat).toArray⟩) ∧ Below w.heap.size w w'
  | 0, n, hk, h0, _, w => nu_digit n h0 (by omega) w
  | k + 1, n, hk, h0, h1, w => by
    by_cases hu : n < 10
    · exact nu_digit n h0 hu w
    · have e : Lib.decDigits n.toNat = Lib.decDigits (n / 10).toNat ++ Lib.decDigits (n % 10).toNat := by
        rw [Lib.decDigits, dif_neg (by omega), Lib.decDigits_one (i := (n % 10).toNat) (by omega)]
        have q1 : n.toNat / 10 = (n / 10).toNat := by omega
        have q2 : n.toNat % 10 = (n % 10).toNat := by omega
        rw [q1, q2]
      rw [e, ← bs_append]
      have l1 := Lib.nDigits_le20 (n / 10).toNat (by omega)
      have l2 := Lib.nDigits_le20 (n % 10).toNat (by omega)
      exact nu_digits n h0 h1 hu _ _ (by simp [ByteArray.size, Lib.decDigits_length]; omega) w (fun w1 => nu_dec k (n / 10) (by omega) (by omega) (by omega) w1) (fun w1 => nu_digit (n % 10) (by omega) (by omega) w1)

set_option maxRecDepth 100000 in
/-- Num of a number from 0 on. -/
theorem nu_num_pos (n : Int) (h0 : 0 ≤ n) (h1 : n ≤ 9223372036854775807) (w : World) :
    Calls Tryd.prog 28 #[.int .i64 n] w fun e w' => e = .returned (.string ⟨(Lib.itoa n).toArray⟩) ∧ Below w.heap.size w w' := by
  have hi : Lib.itoa n = Lib.decDigits n.toNat := by unfold Lib.itoa; rw [if_neg (by omega)]
  have D := nu_dec n.toNat n (Nat.le_refl _) h0 (by omega) w
  have e1 : IntKind.u64.wrap n = n := wu n h0 (by omega)
  have hc : decide (0 ≤ n) = true := by simp; omega
  rw [hi]
  clear h0 h1 hi
  go_enter Tryd.func28, Tryd.ntmps28
  go_wp2_with (go_at_call 41; with_reducible refine D.mono ?_; rintro e w1 ⟨rfl, k1⟩)
  go_ret
  exact ⟨rfl, k1⟩
set_option maxRecDepth 100000 in
theorem nu_num_small (n : Int) (h0 : n < 0) (h1 : -10 < n) (S : ByteArray) (hs : S.size ≤ 100) (w : World) (D : Calls Tryd.prog 41 #[.int .u64 (-n)] w fun e w' => e = .returned (.string S) ∧ Below w.heap.size w w') :
    Calls Tryd.prog 28 #[.int .i64 n] w fun e w' => e = .returned (.string (⟨#[45]⟩ ++ S)) ∧ Below w.heap.size w w' := by
  have e0 : IntKind.i64.wrap (-n) = -n := by rw [IntKind.wrap_i64]; omega
  have e1 : IntKind.u64.wrap (-n) = -n := wu _ (by omega) (by omega)
  have hc : decide (0 ≤ n) = false := by simp; omega
  have hc2 : decide (-10 < n) = true := by simp; omega
  have hS : (9223372036854775807 < 1 + S.size) = False := eq_false (by omega)
  clear h0 h1 hs
  go_enter Tryd.func28, Tryd.ntmps28
  go_wp2_with (go_at_call 41; with_reducible refine D.mono ?_; rintro e w1 ⟨rfl, k1⟩)
  go_ret
  exact ⟨rfl, k1⟩
set_option maxRecDepth 100000 in
theorem nu_num_neg (n : Int) (h0 : n ≤ -10) (h1 : -9223372036854775808 ≤ n) (S T : ByteArray) (hs : S.size ≤ 100) (ht : T.size ≤ 100) (w : World)
    (D : ∀ w, Calls Tryd.prog 41 #[.int .u64 (-n / 10)] w fun e w' => e = .returned (.string S) ∧ Below w.heap.size w w')
    (D2 : ∀ w, Calls Tryd.prog 41 #[.int .u64 (-n % 10)] w fun e w' => e = .returned (.string T) ∧ Below w.heap.size w w') :
    Calls Tryd.prog 28 #[.int .i64 n] w fun e w' => e = .returned (.string (⟨#[45]⟩ ++ S ++ T)) ∧ Below w.heap.size w w' := by
  have q1 : n.tdiv 10 = -(-n / 10) := by
    obtain ⟨m, rfl⟩ : ∃ m, n = -m := ⟨-n, by omega⟩
    rw [Int.neg_tdiv, Int.tdiv_eq_ediv_of_nonneg (by omega)]; simp
  have q2 : n.tmod 10 = -(-n % 10) := by
    obtain ⟨m, rfl⟩ : ∃ m, n = -m := ⟨-n, by omega⟩
    rw [Int.neg_tmod, Int.tmod_eq_emod_of_nonneg (by omega)]; simp
  have e0 : IntKind.i64.wrap (-(-n / 10)) = -(-n / 10) := by rw [IntKind.wrap_i64]; omega
  have e2 : IntKind.i64.wrap (-n / 10) = -n / 10 := by rw [IntKind.wrap_i64]; omega
  have e1 : IntKind.u64.wrap (-n / 10) = -n / 10 := wu _ (by omega) (by omega)
  have f2 : IntKind.i64.wrap (-n % 10) = -n % 10 := by rw [IntKind.wrap_i64]; omega
  have f1 : IntKind.u64.wrap (-n % 10) = -n % 10 := wu _ (by omega) (by omega)
  have hc : decide (0 ≤ n) = false := by simp; omega
  have hc2 : decide (-10 < n) = false := by simp; omega
  have hS : (9223372036854775807 < 1 + S.size) = False := eq_false (by omega)
  have hT : (9223372036854775807 < 1 + S.size + T.size) = False := eq_false (by omega)
  clear h0 h1 hs ht
  generalize hA : -n / 10 = A at *
  generalize hB : -n % 10 = B at *
  clear hA hB
  go_enter Tryd.func28, Tryd.ntmps28
  go_wp2_with (go_at_call 41; first | (with_reducible refine (D _).mono ?_; rintro e w1 ⟨rfl, k1⟩) | (with_reducible refine (D2 _).mono ?_; rintro e w2 ⟨rfl, k2⟩))
  go_ret
  exact ⟨rfl, Kp.trans k1 k2⟩
theorem dec_len {n : Int} (h : n < 18446744073709551616) : (Lib.decDigits n.toNat).length ≤ 20 := by
  rw [Lib.decDigits_length]; exact Lib.nDigits_le20 _ (by omega)

theorem nu_num (n : Int) (h0 : -9223372036854775808 ≤ n) (h1 : n ≤ 9223372036854775807) (w : World) :
    Calls Tryd.prog 28 #[.int .i64 n] w fun e w' => e = .returned (.string ⟨(Lib.itoa n).toArray⟩) ∧ Below w.heap.size w w' := by
  by_cases h : 0 ≤ n
  · exact nu_num_pos n h h1 w
  have hi : Lib.itoa n = 45 :: Lib.decDigits (-n).toNat := by
    unfold Lib.itoa; rw [if_pos (by omega)]
    have : n.natAbs = (-n).toNat := by omega
    rw [this]
  by_cases h2 : -10 < n
  · have := nu_num_small n (by omega) h2 ⟨(Lib.decDigits (-n).toNat).toArray⟩ (by have := dec_len (n := -n) (by omega); simp [ByteArray.size]; omega) w (nu_dec (-n).toNat (-n) (Nat.le_refl _) (by omega) (by omega) w)
    rw [hi]
    have e : (⟨#[45]⟩ : ByteArray) ++ ⟨(Lib.decDigits (-n).toNat).toArray⟩ = ⟨(45 :: Lib.decDigits (-n).toNat).toArray⟩ := bs_append [45] _
    rwa [e] at this
  · have := nu_num_neg n (by omega) h0 ⟨(Lib.decDigits (-n / 10).toNat).toArray⟩ ⟨(Lib.decDigits (-n % 10).toNat).toArray⟩ (by have := dec_len (n := -n / 10) (by omega); simp [ByteArray.size]; omega) (by have := dec_len (n := -n % 10) (by omega); simp [ByteArray.size]; omega) w
      (fun w => nu_dec _ _ (Nat.le_refl _) (by omega) (by omega) w) (fun w => nu_dec _ _ (Nat.le_refl _) (by omega) (by omega) w)
    rw [hi]
    have e : (⟨#[45]⟩ : ByteArray) ++ ⟨(Lib.decDigits (-n / 10).toNat).toArray⟩ ++ ⟨(Lib.decDigits (-n % 10).toNat).toArray⟩ = ⟨(45 :: Lib.decDigits (-n).toNat).toArray⟩ := by
      rw [show (⟨#[45]⟩ : ByteArray) = ⟨([45] : List UInt8).toArray⟩ from rfl, bs_append, bs_append]
      have e : Lib.decDigits (-n).toNat = Lib.decDigits (-n / 10).toNat ++ Lib.decDigits (-n % 10).toNat := by
        rw [Lib.decDigits, dif_neg (by omega), Lib.decDigits_one (i := (-n % 10).toNat) (by omega)]
        have q1 : (-n).toNat / 10 = (-n / 10).toNat := by omega
        have q2 : (-n).toNat % 10 = (-n % 10).toNat := by omega
        rw [q1, q2]
      rw [e]; rfl
    rwa [e] at this

/-! ### in Fl's words -/
/-- the table of the library -/
def Tb (w : World) : Prop := Lib.TabIs Tryd.prog w "internal/strconv.uint64pow10" .u64 Lib.pow10Tab
def isI (n : Int) : Prop := -9223372036854775808 ≤ n ∧ n ≤ 9223372036854775807
theorem t_num (n : Int) (hn : isI n) : Pure Tryd.prog 28 [.c (nI n)] (.c (sA (Lib.itoa n))) :=
  Con.plain fun ok e xs hd => by
    obtain ⟨v, ys, rfl, r, h⟩ := hd.c
    rw [h.nil_]
    unfold nI RA at r
    rw [r.1]
    refine (nu_num n hn.1 hn.2 e).mono ?_
    rintro en w' ⟨rfl, k⟩
    exact ⟨_, rfl, Keeps.of_below k, RD.v rfl⟩
set_option maxHeartbeats 2000000 in
theorem c_fmt (n : Int) (hn : isI n) : PureW Tb Tryd.prog 39 [.c (nI n), .c (nI 10)] (.c (sA (Lib.itoa n))) :=
  PureW.plain fun ok e xs hH hd => by
    obtain ⟨v, ys, rfl, r, h⟩ := hd.c
    obtain ⟨v2, ys2, rfl, r2, h2⟩ := h.c
    rw [h2.nil_]
    unfold nI RA at r r2
    rw [r.1, r2.1]
    refine (Tryd.strconv_FormatInt_10 n hn.1 hn.2 e hH).mono ?_
    rintro en w' ⟨rfl, k, os, rfl⟩
    exact ⟨_, rfl, Keeps.of_below (below_grow e k os), RD.v rfl⟩
theorem Tb.grows {w w' : World} (h : Tb w) (k : Keeps [] w w') : Tb w' := by
  unfold Tb Lib.TabIs World.var? at h ⊢
  rw [Option.bind_eq_some_iff] at h ⊢
  obtain ⟨g, hg, h⟩ := h
  refine ⟨g, hg, ?_⟩
  have hlt : g < w.heap.size := by
    rcases Nat.lt_or_ge g w.heap.size with h' | h'
    · exact h'
    · rw [Array.getElem?_eq_none h'] at h; cases h
  rw [k.block g hlt (by simp)]
  exact h
theorem wd_at {α : Type} {enc : α → List A} {l : List α} {i : Nat} {x : α} (h : l[i]? = some x) : (l.map enc)[((i : Nat) : Int).toNat]? = some (enc x) := by rw [Int.toNat_natCast, List.getElem?_map, h]; rfl
theorem cs_isI {o : Pn.Op} (h : Pn.rightOp o = true) : ∀ c ∈ o.cases, isI c.ch ∧ isI c.v := fun c hc => by
  unfold Pn.rightOp at h
  rw [decide_eq_true_iff] at h
  have := h.2.2.2.2.2.2.2.2.2.2.2.2.2 c hc
  unfold Pn.rightCs at this
  rw [decide_eq_true_iff] at this
  unfold isI; omega
end Fl
end Go.Proofs.YtgjpdogjekmemaaDoor
