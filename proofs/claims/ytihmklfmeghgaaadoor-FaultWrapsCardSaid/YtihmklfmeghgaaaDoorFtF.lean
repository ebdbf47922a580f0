/-
  Num, Text, Whole; the text of a fault; the chapter's example.
  Conditions: the variables hold what the rows list.
-/
import Derived.Test.YtihmklfmeghgaaaDoorFtE
import Derived.Deep.RegionWith
set_option linter.unusedVariables false
set_option linter.unusedSimpArgs false
set_option linter.unnecessarySimpa false
namespace Go.Proofs.YtihmklfmeghgaaaDoor
open Go.RowKit Go.Extern.Stop Go.Stop Go.Extern

theorem dec_len {n : Int} (h : n < 18446744073709551616) : (Lib.decDigits n.toNat).length ≤ 20 := by
  rw [Lib.decDigits_length]; exact Lib.nDigits_le20 _ (by omega)

theorem c_num (n : Int) (h0 : -9223372036854775808 ≤ n) (h1 : n ≤ 9223372036854775807) (w : World) :
    Calls Tryd.prog 24 #[.int .i64 n] w fun e w' => e = .returned (.string ⟨(Lib.itoa n).toArray⟩) ∧ Below w.heap.size w w' := by
  by_cases h : 0 ≤ n
  · exact c_num_pos n h h1 w
  have hi : Lib.itoa n = 45 :: Lib.decDigits (-n).toNat := by
    unfold Lib.itoa; rw [if_pos (by omega)]
    have : n.natAbs = (-n).toNat := by omega
    rw [this]
  by_cases h2 : -10 < n
  · have := c_num_small n (by omega) h2 ⟨(Lib.decDigits (-n).toNat).toArray⟩ (by have := dec_len (n := -n) (by omega); simp [ByteArray.size]; omega) w (c_dec (-n).toNat (-n) (Nat.le_refl _) (by omega) (by omega) w)
    rw [hi]
    have e : (⟨#[45]⟩ : ByteArray) ++ ⟨(Lib.decDigits (-n).toNat).toArray⟩ = ⟨(45 :: Lib.decDigits (-n).toNat).toArray⟩ := bs_append [45] _
    rwa [e] at this
  · have := c_num_neg n (by omega) h0 ⟨(Lib.decDigits (-n / 10).toNat).toArray⟩ ⟨(Lib.decDigits (-n % 10).toNat).toArray⟩ (by have := dec_len (n := -n / 10) (by omega); simp [ByteArray.size]; omega) (by have := dec_len (n := -n % 10) (by omega); simp [ByteArray.size]; omega) w
      (fun w => c_dec _ _ (Nat.le_refl _) (by omega) (by omega) w) (fun w => c_dec _ _ (Nat.le_refl _) (by omega) (by omega) w)
    rw [hi]
    have e : (⟨#[45]⟩ : ByteArray) ++ ⟨(Lib.decDigits (-n / 10).toNat).toArray⟩ ++ ⟨(Lib.decDigits (-n % 10).toNat).toArray⟩ = ⟨(45 :: Lib.decDigits (-n).toNat).toArray⟩ := by
      rw [show (⟨#[45]⟩ : ByteArray) = ⟨([45] : List UInt8).toArray⟩ from rfl, bs_append, bs_append]
      have e : Lib.decDigits (-n).toNat = Lib.decDigits (-n / 10).toNat ++ Lib.decDigits (-n % 10).toNat := by
        rw [Lib.decDigits, dif_neg (by omega), Lib.decDigits_one (i := (-n % 10).toNat) (by omega)]
        have q1 : (-n).toNat / 10 = (-n / 10).toNat := by omega
        have q2 : (-n).toNat % 10 = (-n % 10).toNat := by omega
        rw [q1, q2]
      rw [e]; rfl
    rwa [e] at this

/-- The text of a code's error. -/
def textOf (code : Int) : List UInt8 := if code = 3 then tSend else if code = 4 then tClose else if code = 5 then tNil else []

theorem c_text (code : Int) (w : World) :
    Calls Tryd.prog 10 #[.int .i64 code] w fun e w' => e = .returned (.string ⟨(textOf code).toArray⟩) ∧ w' = w := by
  unfold textOf
  by_cases c3 : code = 3
  · subst c3
    rw [if_pos rfl]
    go_enter Tryd.func10, Tryd.ntmps10
    go_wp2
    go_ret
    exact ⟨rfl, rfl⟩
  rw [if_neg c3]
  by_cases c4 : code = 4
  · subst c4
    rw [if_pos rfl]
    go_enter Tryd.func10, Tryd.ntmps10
    go_wp2
    go_ret
    exact ⟨rfl, rfl⟩
  rw [if_neg c4]
  by_cases c5 : code = 5
  · subst c5
    rw [if_pos rfl]
    go_enter Tryd.func10, Tryd.ntmps10
    go_wp2
    go_ret
    exact ⟨rfl, rfl⟩
  rw [if_neg c5]
  go_enter Tryd.func10, Tryd.ntmps10
  go_wp2
  go_ret
  exact ⟨rfl, rfl⟩

/-- What is told of an operation. -/
def told (A B T : ByteArray) : ByteArray :=
  ⟨#[103, 111, 114, 111, 117, 116, 105, 110, 101, 32]⟩ ++ A ++ ⟨#[44, 32, 111, 112, 101, 114, 97, 116, 105, 111, 110, 32]⟩ ++ B ++ ⟨#[58, 32]⟩ ++ T

set_option maxRecDepth 100000 in
theorem c_whole (code g op : Int) (A B T : ByteArray) (hA : A.size ≤ 100) (hB : B.size ≤ 100) (hT : T.size ≤ 100) (w : World)
    (D : ∀ w, Calls Tryd.prog 24 #[.int .i64 g] w fun e w' => e = .returned (.string A) ∧ Below w.heap.size w w')
    (D2 : ∀ w, Calls Tryd.prog 24 #[.int .i64 op] w fun e w' => e = .returned (.string B) ∧ Below w.heap.size w w')
    (D3 : ∀ w, Calls Tryd.prog 10 #[.int .i64 code] w fun e w' => e = .returned (.string T) ∧ w' = w) :
    Calls Tryd.prog 14 #[.int .i64 code, .int .i64 g, .int .i64 op] w fun e w' => e = .returned (.string (told A B T)) ∧ Below w.heap.size w w' := by
  have s1 : (9223372036854775807 < 10 + A.size) = False := eq_false (by omega)
  have s2 : (9223372036854775807 < 10 + A.size + 12) = False := eq_false (by omega)
  have s3 : (9223372036854775807 < 10 + A.size + 12 + B.size) = False := eq_false (by omega)
  have s4 : (9223372036854775807 < 10 + A.size + 12 + B.size + 2) = False := eq_false (by omega)
  have s5 : (9223372036854775807 < 10 + A.size + 12 + B.size + 2 + T.size) = False := eq_false (by omega)
  clear hA hB hT
  unfold told
  go_enter Tryd.func14, Tryd.ntmps14
  go_wp2_with (first | (go_at_call 24; first | (with_reducible refine (D _).mono ?_; rintro e w1 ⟨rfl, k1⟩) | (with_reducible refine (D2 _).mono ?_; rintro e w2 ⟨rfl, k2⟩)) | (go_at_call 10; with_reducible refine (D3 _).mono ?_; rintro e w3 ⟨rfl, rfl⟩))
  go_ret
  exact ⟨rfl, Kp.trans k1 k2⟩

theorem methodError (v : Value) (w : World) : (Go.method 228 96 v "Error").run Tryd.prog w = .ok (74, v) w := by kernel_rfl
theorem c_err (a : Addr) (T : ByteArray) (w : World) (h : w.cell? a = some (.string T)) :
    Calls Tryd.prog 74 #[.pointer (some a)] w fun e w' => e = .returned (.string T) ∧ w' = w := by
  obtain ⟨ab, ao, at_⟩ := a
  go_enter Tryd.func74, Tryd.ntmps74
  go_wp2
  go_ret
  exact ⟨rfl, rfl⟩

set_option maxHeartbeats 4000000 in
set_option maxRecDepth 100000 in
theorem c_error0 (pb : Nat) (g op : Int) (a : Addr) (A B T : ByteArray) (hA : A.size ≤ 100) (hB : B.size ≤ 100) (hT : T.size ≤ 100) (w : World)
    (c0 : ∀ w', Below w.heap.size w w' → w'.cell? ⟨pb, 0, none⟩ = some (.int .i64 g)) (c1 : ∀ w', Below w.heap.size w w' → w'.cell? ⟨pb, 1, none⟩ = some (.int .i64 op)) (c2 : ∀ w', Below w.heap.size w w' → w'.cell? ⟨pb, 2, none⟩ = some (.iface 96 (.pointer (some a))))
    (D : ∀ w', Below w.heap.size w w' → Calls Tryd.prog 23 #[.int .i64 g] w' fun e w1 => e = .returned (.string A) ∧ Below w'.heap.size w' w1)
    (D2 : ∀ w', Below w.heap.size w w' → Calls Tryd.prog 23 #[.int .i64 op] w' fun e w1 => e = .returned (.string B) ∧ Below w'.heap.size w' w1)
    (D3 : ∀ w', Below w.heap.size w w' → Calls Tryd.prog 74 #[.pointer (some a)] w' fun e w1 => e = .returned (.string T) ∧ w1 = w') :
    Calls Tryd.prog 13 #[.pointer (some ⟨pb, 0, none⟩)] w fun e w' => e = .returned (.string (told A B T)) ∧ Below w.heap.size w w' := by
  have s1 : (9223372036854775807 < 10 + A.size) = False := eq_false (by omega)
  have s2 : (9223372036854775807 < 10 + A.size + 12) = False := eq_false (by omega)
  have s3 : (9223372036854775807 < 10 + A.size + 12 + B.size) = False := eq_false (by omega)
  have s4 : (9223372036854775807 < 10 + A.size + 12 + B.size + 2) = False := eq_false (by omega)
  have s5 : (9223372036854775807 < 10 + A.size + 12 + B.size + 2 + T.size) = False := eq_false (by omega)
  clear hA hB hT
  unfold told
  have mE := methodError
  have z0 := c0 w (Below.refl _ _)
  have y0 := c1 w (Below.refl _ _)
  go_enter Tryd.func13, Tryd.ntmps13
  go_wp2_with (fail)
  go_region_with (first | (go_at_call 23; first | (with_reducible refine (D _ ?_).mono ?_; exact (Below.refl _ _).drew; rintro e w1 ⟨rfl, k0⟩; have k1 : Below w.heap.size w w1 := Kp.trans (Below.refl w.heap.size w).drew k0; have z1 := c1 w1 k1) | (with_reducible refine (D2 _ ?_).mono ?_; (first | assumption | exact Below.drew (by assumption)); rintro e w2 ⟨rfl, k2⟩; have k3 : Below w.heap.size w w2 := Kp.trans (by assumption) k2; have z2 := c2 w2 k3)))
  all_goals (try go_wp2_with (go_at_call 74; with_reducible refine (D3 _ ?_).mono ?_; assumption; rintro e w3 ⟨rfl, rfl⟩))
  all_goals (go_ret; exact ⟨rfl, (by first | assumption | exact Below.drew (by assumption))⟩)

theorem c_error {a0 a1 a2 : Addr} {w : World} (h : Std a0 a1 a2 w) (pb : Nat) (g op : Int) (a : Addr) (T : ByteArray) (hT : T.size ≤ 100)
    (g0 : -9223372036854775808 ≤ g) (g1 : g ≤ 9223372036854775807) (o0 : -9223372036854775808 ≤ op) (o1 : op ≤ 9223372036854775807)
    (c0 : w.cell? ⟨pb, 0, none⟩ = some (.int .i64 g)) (c1 : w.cell? ⟨pb, 1, none⟩ = some (.int .i64 op)) (c2 : w.cell? ⟨pb, 2, none⟩ = some (.iface 96 (.pointer (some a)))) (ct : w.cell? a = some (.string T)) :
    Calls Tryd.prog 13 #[.pointer (some ⟨pb, 0, none⟩)] w fun e w' => e = .returned (.string (told ⟨(Lib.itoa g).toArray⟩ ⟨(Lib.itoa op).toArray⟩ T)) ∧ Below w.heap.size w w' :=
  c_error0 pb g op a _ _ T (by have := Lib.itoa_length_le g g0 g1; simp [ByteArray.size]; omega) (by have := Lib.itoa_length_le op o0 o1; simp [ByteArray.size]; omega) hT w
    (fun _ k => Kp.cell k c0) (fun _ k => Kp.cell k c1) (fun _ k => Kp.cell k c2) (fun _ k => c_itoa (h.kp k) g g0 g1) (fun _ k => c_itoa (h.kp k) op o0 o1) (fun _ k => c_err a T _ (Kp.cell k ct))
end Go.Proofs.YtihmklfmeghgaaaDoor
