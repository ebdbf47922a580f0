/-
  The walk of FaultTells.
  Conditions: the variables hold what the rows list.
-/
import Derived.Test.YtihmklfmeghgaaaDoorFtH
set_option linter.unusedVariables false
set_option linter.unusedSimpArgs false
set_option linter.unnecessarySimpa false
namespace Go.Proofs.YtihmklfmeghgaaaDoor
open Go.RowKit Go.Extern.Stop Go.Stop Go.Extern

set_option maxHeartbeats 4000000 in
set_option maxRecDepth 100000 in
theorem tells_n {a0 a1 a2 : Addr} {code : Int} (he : errOf a0 a1 a2 code = .nilIface) (ht : textOf code = []) {w : World} (h : Std a0 a1 a2 w) (g op : Int) :
    Calls Tryd.prog 4 #[.int .i64 code, .int .i64 g, .int .i64 op] w fun e w' => e = .returned (.bool true) ∧ Below w.heap.size w w' := by
  have AL := c_alive h
  have CD : ∀ w1, Below w.heap.size w w1 → Calls Tryd.prog 8 #[.nilIface] w1 fun e w' => e = .returned (.int .i64 0) ∧ Below w1.heap.size w1 w' := fun w1 k => c_code_nil (h.kp k)
  have OF : ∀ w1, Below w.heap.size w w1 → Calls Tryd.prog 9 #[.int .i64 code, .int .i64 g, .int .i64 op] w1 fun e w' => e = .returned .nilIface ∧ Below w1.heap.size w1 w' := fun w1 k => c_of_nil (h.kp k) code g op he
  have TX : ∀ w1, Calls Tryd.prog 10 #[.int .i64 code] w1 fun e w' => e = .returned (.string ⟨#[]⟩) ∧ w' = w1 := fun w1 => by
    have := c_text code w1
    rwa [ht] at this
  clear h he ht
  go_enter Tryd.func4, Tryd.ntmps4
  go_wp2_with (first
    | (go_at_call 6; with_reducible refine AL.mono ?_; rintro e w1 ⟨rfl, k1⟩)
    | (go_at_call 9; with_reducible refine (OF _ ?_).mono ?_; assumption; rintro e w2 ⟨rfl, k2'⟩; have k2 : Below w.heap.size w w2 := Kp.trans k1 k2')
    | (go_at_call 10; with_reducible refine (TX _).mono ?_; rintro e w6 ⟨rfl, rfl⟩)
    | (go_at_call 11; with_reducible refine (c_where_nil _).mono ?_; rintro e w3 ⟨rfl, k3'⟩; have k3 : Below w.heap.size w w3 := Kp.trans k2 k3')
    | (go_at_call 8; with_reducible refine (CD _ ?_).mono ?_; assumption; rintro e w4 ⟨rfl, k4'⟩; have k4 : Below w.heap.size w w4 := Kp.trans k3 k4')
    | (fail))
  go_ret
  exact ⟨rfl, by assumption⟩

/-- errors.As(e, &f), f a new variable. -/
theorem as_new {a0 a1 a2 : Addr} {w1 : World} (h : Std a0 a1 a2 w1) (pb n : Nat) (en : n = w1.heap.size) :
    Calls Tryd.prog 12 #[.iface 33 (.pointer (some ⟨pb, 0, none⟩)), .iface 35 (.pointer (some ⟨n, 0, none⟩))] (w1.alloc (.cells #[.pointer none] 33)) fun e w' => e = .returned (.bool true) ∧ Below w1.heap.size w1 w' ∧ w'.cell? ⟨n, 0, none⟩ = some (.pointer (some ⟨pb, 0, none⟩)) := by
  subst en
  refine (as_hit ⟨pb, 0, none⟩ ⟨w1.heap.size, 0, none⟩ (.pointer none) _ (h.kp (allocs (Below.refl _ _) _)).ty (by simp) (by simp)).mono ?_
  rintro e w' ⟨rfl, rfl⟩
  refine ⟨rfl, (allocs (allocs (allocs (allocs (allocs (Below.refl _ _) _) _) _) _) _).setCell (Nat.le_refl _) _, ?_⟩
  exact World.cell?_setCell_same _ _ _ (Kp.cell (allocs (allocs (allocs (allocs (Below.refl _ _) _) _) _) _) (show (w1.alloc (.cells #[.pointer none] 33)).cell? ⟨w1.heap.size, 0, none⟩ = some (.pointer none) by simp))

set_option maxHeartbeats 4000000 in
set_option maxRecDepth 100000 in
theorem tells_s {a0 a1 a2 a : Addr} {code : Int} (s : Sn a0 a1 a2 a code) {w : World} (h : Std a0 a1 a2 w) (g op : Int)
    (g0 : -9223372036854775808 ≤ g) (g1 : g ≤ 9223372036854775807) (o0 : -9223372036854775808 ≤ op) (o1 : op ≤ 9223372036854775807) :
    Calls Tryd.prog 4 #[.int .i64 code, .int .i64 g, .int .i64 op] w fun e w' => e = .returned (.bool true) ∧ Below w.heap.size w w' := by
  have AL := c_alive h
  have OF : ∀ w1, Below w.heap.size w w1 → Calls Tryd.prog 9 #[.int .i64 code, .int .i64 g, .int .i64 op] w1 fun e w' => ∃ pb, e = .returned (.iface 33 (.pointer (some ⟨pb, 0, none⟩))) ∧ Below w1.heap.size w1 w' ∧ w'.cell? ⟨pb, 0, none⟩ = some (.int .i64 g) ∧ w'.cell? ⟨pb, 1, none⟩ = some (.int .i64 op) ∧ w'.cell? ⟨pb, 2, none⟩ = some (.iface 96 (.pointer (some a))) := fun w1 k =>
    (c_of (h.kp k) code g op 96 _ s.err).mono fun e w' ⟨pb, e1, _, z0, z1, z2, kb⟩ => ⟨pb, e1, kb, z0, z1, z2⟩
  obtain ⟨T, TX, hT, hTe, hTs⟩ : ∃ T : ByteArray, (∀ w1, Calls Tryd.prog 10 #[.int .i64 code] w1 fun e w' => e = .returned (.string T) ∧ w' = w1) ∧ T.toList.isEmpty = false ∧ (∀ w1, Below w.heap.size w w1 → w1.cell? a = some (.string T)) ∧ T.size ≤ 100 := by
    refine ⟨⟨(textOf code).toArray⟩, fun w1 => c_text code w1, ?_, fun w1 k => s.text (h.kp k), ?_⟩
    · rw [ByteArray.toList_eq]
      rcases s with ⟨_, rfl⟩ | ⟨_, rfl⟩ | ⟨_, rfl⟩ <;> rfl
    · rcases s with ⟨_, rfl⟩ | ⟨_, rfl⟩ | ⟨_, rfl⟩ <;> decide
  have HS : ∀ w1, Below w.heap.size w w1 → Std a0 a1 a2 w1 := fun w1 k => h.kp k
  have ER : ∀ w1 pb, Below w.heap.size w w1 → w1.cell? ⟨pb, 0, none⟩ = some (.int .i64 g) → w1.cell? ⟨pb, 1, none⟩ = some (.int .i64 op) → w1.cell? ⟨pb, 2, none⟩ = some (.iface 96 (.pointer (some a))) →
      Calls Tryd.prog 13 #[.pointer (some ⟨pb, 0, none⟩)] w1 fun e w' => e = .returned (.string (told ⟨(Lib.itoa g).toArray⟩ ⟨(Lib.itoa op).toArray⟩ T)) ∧ Below w1.heap.size w1 w' := fun w1 pb k z0 z1 z2 => c_error (h.kp k) pb g op a T hTs g0 g1 o0 o1 z0 z1 z2 (hTe w1 k)
  have WH : ∀ w1, Calls Tryd.prog 14 #[.int .i64 code, .int .i64 g, .int .i64 op] w1 fun e w' => e = .returned (.string (told ⟨(Lib.itoa g).toArray⟩ ⟨(Lib.itoa op).toArray⟩ T)) ∧ Below w1.heap.size w1 w' := fun w1 =>
    c_whole code g op _ _ T (by have := Lib.itoa_length_le g g0 g1; simp [ByteArray.size]; omega) (by have := Lib.itoa_length_le op o0 o1; simp [ByteArray.size]; omega) hTs w1 (fun w => c_num g g0 g1 w) (fun w => c_num op o0 o1 w) TX
  have CD : ∀ w1, Below w.heap.size w w1 → Calls Tryd.prog 8 #[.iface 96 (.pointer (some a))] w1 fun e w' => e = .returned (.int .i64 code) ∧ Below w1.heap.size w1 w' := fun w1 k => s.code (h.kp k) (s.leaf (h.kp k))
  have CC : ∀ w1 pb, Below w.heap.size w w1 → w1.cell? ⟨pb, 2, none⟩ = some (.iface 96 (.pointer (some a))) → Calls Tryd.prog 8 #[.iface 33 (.pointer (some ⟨pb, 0, none⟩))] w1 fun e w' => e = .returned (.int .i64 code) ∧ Below w1.heap.size w1 w' := fun w1 pb k z => s.code (h.kp k) (.wrap pb _ 0 z (s.leaf (h.kp k)))
  obtain ⟨c3, t3, I3⟩ : ∃ c3 : Bool, (code == 3) = c3 ∧ ∀ w1 pb, Below w.heap.size w w1 → w1.cell? ⟨pb, 2, none⟩ = some (.iface 96 (.pointer (some a))) → Calls Tryd.prog 16 #[.iface 33 (.pointer (some ⟨pb, 0, none⟩)), .iface 96 (.pointer (some a0))] w1 fun e w' => e = .returned (.bool c3) ∧ w' = w1 := by
    refine ⟨_, rfl, fun w1 pb k z => ?_⟩
    obtain ⟨c, t, e0⟩ := (h.kp k).h0
    have := is_any a a0 c t e0 _ 1 (.wrap pb _ 0 z (s.leaf (h.kp k)))
    rcases s with ⟨rfl, rfl⟩ | ⟨rfl, rfl⟩ | ⟨rfl, rfl⟩
    · rwa [decide_eq_true rfl] at this
    · rwa [decide_eq_false (Ne.symm h.n01)] at this
    · rwa [decide_eq_false (Ne.symm h.n02)] at this
  obtain ⟨c4, t4, I4⟩ : ∃ c4 : Bool, (code == 4) = c4 ∧ ∀ w1 pb, Below w.heap.size w w1 → w1.cell? ⟨pb, 2, none⟩ = some (.iface 96 (.pointer (some a))) → Calls Tryd.prog 16 #[.iface 33 (.pointer (some ⟨pb, 0, none⟩)), .iface 96 (.pointer (some a1))] w1 fun e w' => e = .returned (.bool c4) ∧ w' = w1 := by
    refine ⟨_, rfl, fun w1 pb k z => ?_⟩
    obtain ⟨c, t, e0⟩ := (h.kp k).h1
    have := is_any a a1 c t e0 _ 1 (.wrap pb _ 0 z (s.leaf (h.kp k)))
    rcases s with ⟨rfl, rfl⟩ | ⟨rfl, rfl⟩ | ⟨rfl, rfl⟩
    · rwa [decide_eq_false h.n01] at this
    · rwa [decide_eq_true rfl] at this
    · rwa [decide_eq_false (Ne.symm h.n12)] at this
  obtain ⟨c5, t5, I5⟩ : ∃ c5 : Bool, (code == 5) = c5 ∧ ∀ w1 pb, Below w.heap.size w w1 → w1.cell? ⟨pb, 2, none⟩ = some (.iface 96 (.pointer (some a))) → Calls Tryd.prog 16 #[.iface 33 (.pointer (some ⟨pb, 0, none⟩)), .iface 96 (.pointer (some a2))] w1 fun e w' => e = .returned (.bool c5) ∧ w' = w1 := by
    refine ⟨_, rfl, fun w1 pb k z => ?_⟩
    obtain ⟨c, t, e0⟩ := (h.kp k).h2
    have := is_any a a2 c t e0 _ 1 (.wrap pb _ 0 z (s.leaf (h.kp k)))
    rcases s with ⟨rfl, rfl⟩ | ⟨rfl, rfl⟩ | ⟨rfl, rfl⟩
    · rwa [decide_eq_false h.n02] at this
    · rwa [decide_eq_false h.n12] at this
    · rwa [decide_eq_true rfl] at this
  clear h s g0 g1 o0 o1 hTs hTe
  generalize told ⟨(Lib.itoa g).toArray⟩ ⟨(Lib.itoa op).toArray⟩ T = X at *
  go_enter Tryd.func4, Tryd.ntmps4
  go_wp2_with (first
    | (go_at_call 6; with_reducible refine AL.mono ?_; rintro e w1 ⟨rfl, k1⟩)
    | (go_at_call 9; with_reducible refine (OF _ ?_).mono ?_; assumption; rintro e w2 ⟨pb, rfl, k2', z0, z1, z2⟩; have k2 : Below w.heap.size w w2 := Kp.trans k1 k2')
    | (go_at_call 10; with_reducible refine (TX _).mono ?_; rintro e w6 ⟨rfl, rfl⟩)
    | (go_at_call 12; refine (as_new (HS _ k2) pb _ ?_).mono ?_; rfl; rintro e w7 ⟨rfl, k7', q7⟩; have k7 : Below w.heap.size w w7 := Kp.trans k2 k7'; have y0 := Kp.cell k7' z0; have y1 := Kp.cell k7' z1; have y2 := Kp.cell k7' z2)
    | (go_at_call 13; with_reducible refine (ER _ pb k7 y0 y1 y2).mono ?_; rintro e w8 ⟨rfl, k8'⟩; have k8 : Below w.heap.size w w8 := Kp.trans k7 k8')
    | (go_at_call 14; with_reducible refine (WH _).mono ?_; rintro e w9 ⟨rfl, k9'⟩; have k9 : Below w.heap.size w w9 := Kp.trans k8 k9'; have j9 : Below w7.heap.size w7 w9 := Kp.trans k8' k9'; have x0 := Kp.cell j9 y0; have x1 := Kp.cell j9 y1; have x2 := Kp.cell j9 y2; have q9 := Kp.cell j9 q7)
    | (go_at_call 11; with_reducible refine (c_where (HS _ k9) pb g op x0 x1).mono ?_; rintro e w10 ⟨rfl, k10'⟩; have k10 : Below w.heap.size w w10 := Kp.trans k9 k10'; have u0 := Kp.cell k10' x0; have u1 := Kp.cell k10' x1; have u2 := Kp.cell k10' x2; have q10 := Kp.cell k10' q9)
    | (go_at_call 15; with_reducible refine (c_unwrap pb _ _ u2).mono ?_; rintro e w11 ⟨rfl, rfl⟩)
    | (go_at_call 8; with_reducible refine (CD _ k10).mono ?_; rintro e w12 ⟨rfl, k12'⟩; have k12 : Below w.heap.size w w12 := Kp.trans k10 k12'; have p2 := Kp.cell k12' u2)
    | (go_at_call 8; with_reducible refine (CC _ pb k12 p2).mono ?_; rintro e w13 ⟨rfl, k13'⟩; have k13 : Below w.heap.size w w13 := Kp.trans k12 k13'; have r2 := Kp.cell k13' p2; have v0 := (HS _ k13).v0; have v1 := (HS _ k13).v1; have v2 := (HS _ k13).v2)
    | (go_at_call 16; with_reducible refine (I3 _ pb k13 r2).mono ?_; rintro e w14 ⟨rfl, rfl⟩)
    | (go_at_call 16; with_reducible refine (I4 _ pb k13 r2).mono ?_; rintro e w15 ⟨rfl, rfl⟩)
    | (go_at_call 16; with_reducible refine (I5 _ pb k13 r2).mono ?_; rintro e w16 ⟨rfl, rfl⟩)
    | (fail))
  go_ret
  exact ⟨rfl, by assumption⟩

theorem tells_walk {a0 a1 a2 : Addr} (code g op : Int) {w : World} (h : Std a0 a1 a2 w)
    (g0 : -9223372036854775808 ≤ g) (g1 : g ≤ 9223372036854775807) (o0 : -9223372036854775808 ≤ op) (o1 : op ≤ 9223372036854775807) :
    Calls Tryd.prog 4 #[.int .i64 code, .int .i64 g, .int .i64 op] w fun e w' => e = .returned (.bool true) ∧ Below w.heap.size w w' := by
  rcases errOf_cases a0 a1 a2 code with ⟨a, s⟩ | ⟨he, ht⟩
  · exact tells_s s h g op g0 g1 o0 o1
  · exact tells_n he ht h g op
end Go.Proofs.YtihmklfmeghgaaaDoor
