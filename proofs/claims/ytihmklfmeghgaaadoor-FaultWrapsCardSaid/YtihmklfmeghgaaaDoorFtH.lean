/-
  The walk of FaultMust.
  Conditions: the variables hold what the rows list.
-/
import Derived.Test.YtihmklfmeghgaaaDoorFtG
set_option linter.unusedVariables false
set_option linter.unusedSimpArgs false
set_option linter.unnecessarySimpa false
namespace Go.Proofs.YtihmklfmeghgaaaDoor
open Go.RowKit Go.Extern.Stop Go.Stop Go.Extern

/-- Which variable's error has which code. -/
def Sn (a0 a1 a2 a : Addr) (code : Int) : Prop := (a = a0 ∧ code = 3) ∨ (a = a1 ∧ code = 4) ∨ (a = a2 ∧ code = 5)
theorem Sn.code {a0 a1 a2 a : Addr} {code : Int} (s : Sn a0 a1 a2 a code) {w : World} (h : Std a0 a1 a2 w) {E : Value} {n : Nat} (hc : Chain w a E n) :
    Calls Tryd.prog 8 #[E] w fun e w' => e = .returned (.int .i64 code) ∧ Below w.heap.size w w' := by
  rcases s with ⟨rfl, rfl⟩ | ⟨rfl, rfl⟩ | ⟨rfl, rfl⟩
  · exact c_code0 h E n hc
  · exact c_code1 h E n hc
  · exact c_code2 h E n hc
theorem Sn.leaf {a0 a1 a2 a : Addr} {code : Int} (s : Sn a0 a1 a2 a code) {w : World} (h : Std a0 a1 a2 w) : Chain w a (.iface 96 (.pointer (some a))) 0 := by
  rcases s with ⟨rfl, rfl⟩ | ⟨rfl, rfl⟩ | ⟨rfl, rfl⟩
  · obtain ⟨c, t, e⟩ := h.h0; exact .leaf c t e
  · obtain ⟨c, t, e⟩ := h.h1; exact .leaf c t e
  · obtain ⟨c, t, e⟩ := h.h2; exact .leaf c t e
theorem Sn.err {a0 a1 a2 a : Addr} {code : Int} (s : Sn a0 a1 a2 a code) : errOf a0 a1 a2 code = .iface 96 (.pointer (some a)) := by
  rcases s with ⟨rfl, rfl⟩ | ⟨rfl, rfl⟩ | ⟨rfl, rfl⟩ <;> rfl
theorem Sn.text {a0 a1 a2 a : Addr} {code : Int} (s : Sn a0 a1 a2 a code) {w : World} (h : Std a0 a1 a2 w) : w.cell? a = some (.string ⟨(textOf code).toArray⟩) := by
  rcases s with ⟨rfl, rfl⟩ | ⟨rfl, rfl⟩ | ⟨rfl, rfl⟩
  · exact h.s0
  · exact h.s1
  · exact h.s2
theorem errOf_cases (a0 a1 a2 : Addr) (code : Int) : (∃ a, Sn a0 a1 a2 a code) ∨ (errOf a0 a1 a2 code = .nilIface ∧ textOf code = []) := by
  by_cases h3 : code = 3
  · exact .inl ⟨a0, .inl ⟨rfl, h3⟩⟩
  by_cases h4 : code = 4
  · exact .inl ⟨a1, .inr (.inl ⟨rfl, h4⟩)⟩
  by_cases h5 : code = 5
  · exact .inl ⟨a2, .inr (.inr ⟨rfl, h5⟩)⟩
  · exact .inr ⟨by unfold errOf; rw [if_neg h3, if_neg h4, if_neg h5], by unfold textOf; rw [if_neg h3, if_neg h4, if_neg h5]⟩

set_option maxHeartbeats 4000000 in
set_option maxRecDepth 100000 in
theorem must_s {a0 a1 a2 a : Addr} {code : Int} (s : Sn a0 a1 a2 a code) {w : World} (h : Std a0 a1 a2 w) :
    Calls Tryd.prog 3 #[.int .i64 code] w fun e w' => e = .returned (.bool true) ∧ Below w.heap.size w w' := by
  have AL := c_alive h
  have M : ∀ w1, Below w.heap.size w w1 → Calls Tryd.prog 7 #[.int .i64 code] w1 fun e w' => e = .returned (.tuple #[.bool false, .iface 96 (.pointer (some a))]) ∧ Below w1.heap.size w1 w' := fun w1 k => by
    have := c_must (h.kp k) code
    rw [s.err, decide_eq_false (by rcases s with ⟨_, rfl⟩ | ⟨_, rfl⟩ | ⟨_, rfl⟩ <;> decide)] at this
    exact this
  have CD : ∀ w1, Below w.heap.size w w1 → Calls Tryd.prog 8 #[.iface 96 (.pointer (some a))] w1 fun e w' => e = .returned (.int .i64 code) ∧ Below w1.heap.size w1 w' := fun w1 k => s.code (h.kp k) (s.leaf (h.kp k))
  have OF : ∀ w1, Below w.heap.size w w1 → Calls Tryd.prog 9 #[.int .i64 code, .int .i64 0, .int .i64 0] w1 fun e w' => ∃ pb, e = .returned (.iface 33 (.pointer (some ⟨pb, 0, none⟩))) ∧ Below w1.heap.size w1 w' ∧ Chain w' a (.iface 33 (.pointer (some ⟨pb, 0, none⟩))) 1 := fun w1 k =>
    (c_of (h.kp k) code 0 0 96 _ s.err).mono fun e w' ⟨pb, e1, _, _, _, z2, kb⟩ => ⟨pb, e1, kb, .wrap pb _ 0 z2 (s.leaf ((h.kp k).kp kb))⟩
  have CC : ∀ w1 E, Below w.heap.size w w1 → Chain w1 a E 1 → Calls Tryd.prog 8 #[E] w1 fun e w' => e = .returned (.int .i64 code) ∧ Below w1.heap.size w1 w' := fun w1 E k hc => s.code (h.kp k) hc
  obtain ⟨T, TX, hT⟩ : ∃ T : ByteArray, (∀ w1, Calls Tryd.prog 10 #[.int .i64 code] w1 fun e w' => e = .returned (.string T) ∧ w' = w1) ∧ T.toList.isEmpty = false := by
    refine ⟨⟨(textOf code).toArray⟩, fun w1 => c_text code w1, ?_⟩
    rw [ByteArray.toList_eq]
    rcases s with ⟨_, rfl⟩ | ⟨_, rfl⟩ | ⟨_, rfl⟩ <;> rfl
  have t1 : (code == 1) = false := by rcases s with ⟨_, rfl⟩ | ⟨_, rfl⟩ | ⟨_, rfl⟩ <;> decide
  clear h s
  go_enter Tryd.func3, Tryd.ntmps3
  go_wp2_with (first
    | (go_at_call 6; with_reducible refine AL.mono ?_; rintro e w1 ⟨rfl, k1⟩)
    | (go_at_call 7; with_reducible refine (M _ ?_).mono ?_; assumption; rintro e w2 ⟨rfl, k2'⟩; have k2 : Below w.heap.size w w2 := Kp.trans k1 k2')
    | (fail))
  have k3 : Below w.heap.size w w2.drew := k2.drew
  go_region_with (first
    | (go_at_call 8; with_reducible refine (CD _ ?_).mono ?_; (first | assumption | exact k3); rintro e w3 ⟨rfl, k4'⟩; have k4 : Below w.heap.size w w3 := Kp.trans k3 k4')
    | (go_at_call 9; with_reducible refine (OF _ ?_).mono ?_; assumption; rintro e w4 ⟨pb, rfl, k5', hc⟩; have k5 : Below w.heap.size w w4 := Kp.trans k4 k5')
    | (go_at_call 8; with_reducible refine (CC _ _ ?_ ?_).mono ?_; assumption; assumption; rintro e w5 ⟨rfl, k6'⟩; have k6 : Below w.heap.size w w5 := Kp.trans k5 k6')
    | (go_at_call 10; with_reducible refine (TX _).mono ?_; rintro e w6 ⟨rfl, rfl⟩))
  all_goals (try go_wp2)
  all_goals (go_ret; exact ⟨rfl, by assumption⟩)

set_option maxHeartbeats 4000000 in
set_option maxRecDepth 100000 in
theorem must_n {a0 a1 a2 : Addr} {code : Int} (he : errOf a0 a1 a2 code = .nilIface) (ht : textOf code = []) {w : World} (h : Std a0 a1 a2 w) (d : Bool) (hd : decide (code = 1) = d) (t1 : (code == 1) = d) :
    Calls Tryd.prog 3 #[.int .i64 code] w fun e w' => e = .returned (.bool true) ∧ Below w.heap.size w w' := by
  have AL := c_alive h
  have M : ∀ w1, Below w.heap.size w w1 → Calls Tryd.prog 7 #[.int .i64 code] w1 fun e w' => e = .returned (.tuple #[.bool d, .nilIface]) ∧ Below w1.heap.size w1 w' := fun w1 k => by
    have := c_must (h.kp k) code
    rw [he, hd] at this
    exact this
  have CD : ∀ w1, Below w.heap.size w w1 → Calls Tryd.prog 8 #[.nilIface] w1 fun e w' => e = .returned (.int .i64 0) ∧ Below w1.heap.size w1 w' := fun w1 k => c_code_nil (h.kp k)
  have OF : ∀ w1, Below w.heap.size w w1 → Calls Tryd.prog 9 #[.int .i64 code, .int .i64 0, .int .i64 0] w1 fun e w' => e = .returned .nilIface ∧ Below w1.heap.size w1 w' := fun w1 k => c_of_nil (h.kp k) code 0 0 he
  have TX : ∀ w1, Calls Tryd.prog 10 #[.int .i64 code] w1 fun e w' => e = .returned (.string ⟨#[]⟩) ∧ w' = w1 := fun w1 => by
    have := c_text code w1
    rwa [ht] at this
  clear h he ht hd
  go_enter Tryd.func3, Tryd.ntmps3
  go_wp2_with (first
    | (go_at_call 6; with_reducible refine AL.mono ?_; rintro e w1 ⟨rfl, k1⟩)
    | (go_at_call 7; with_reducible refine (M _ ?_).mono ?_; assumption; rintro e w2 ⟨rfl, k2'⟩; have k2 : Below w.heap.size w w2 := Kp.trans k1 k2')
    | (fail))
  have k3 : Below w.heap.size w w2.drew := k2.drew
  go_region_with (first
    | (go_at_call 8; with_reducible refine (CD _ ?_).mono ?_; (first | assumption | exact k3); rintro e w3 ⟨rfl, k4'⟩; have k4 : Below w.heap.size w w3 := Kp.trans (by first | assumption | exact k3) k4')
    | (go_at_call 9; with_reducible refine (OF _ ?_).mono ?_; assumption; rintro e w4 ⟨rfl, k5'⟩; have k5 : Below w.heap.size w w4 := Kp.trans (by assumption) k5')
    | (go_at_call 10; with_reducible refine (TX _).mono ?_; rintro e w6 ⟨rfl, rfl⟩))
  all_goals (try go_wp2)
  all_goals (go_ret; exact ⟨rfl, by assumption⟩)
theorem must_walk {a0 a1 a2 : Addr} (code : Int) {w : World} (h : Std a0 a1 a2 w) :
    Calls Tryd.prog 3 #[.int .i64 code] w fun e w' => e = .returned (.bool true) ∧ Below w.heap.size w w' := by
  rcases errOf_cases a0 a1 a2 code with ⟨a, s⟩ | ⟨he, ht⟩
  · exact must_s s h
  · by_cases c1 : code = 1
    · exact must_n he ht h true (decide_eq_true c1) (by simp [c1])
    · exact must_n he ht h false (decide_eq_false c1) (by simp [c1])
end Go.Proofs.YtihmklfmeghgaaaDoor
