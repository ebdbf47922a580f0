/-
  fault.Code and fault.Where at a chain of faults, and at nil.
  Conditions: the variables hold what the rows list.
-/
import Derived.Test.YtihmklfmeghgaaaDoorFtC
import Derived.OwnWalk
set_option linter.unusedVariables false
set_option linter.unusedSimpArgs false
set_option linter.unnecessarySimpa false
namespace Go.Proofs.YtihmklfmeghgaaaDoor
open Go.RowKit Go.Extern.Stop Go.Stop Go.Extern

theorem mkf (fn : Fn) (first cap : Array Value) (w : World) : (Instr.makeFunc fn first cap).run Tryd.prog w = .ok (.func fn first cap) w := rfl

set_option maxHeartbeats 2000000 in
theorem c_code0 {a0 a1 a2 : Addr} {w : World} (h : Std a0 a1 a2 w) (E : Value) (n : Nat) (hc : Chain w a0 E n) :
    Calls Tryd.prog 8 #[E] w fun e w' => e = .returned (.int .i64 3) ∧ Below w.heap.size w w' := by
  have hne : ∃ u v, E = .iface u v := by cases hc <;> exact ⟨_, _, rfl⟩
  obtain ⟨u1, v1, rfl⟩ := hne
  have I0 : ∀ w1, Below w.heap.size w w1 → Calls Tryd.prog 16 #[.iface u1 v1, .iface 96 (.pointer (some a0))] w1 fun e w' => e = .returned (.bool true) ∧ w' = w1 := fun w1 hb => by
    obtain ⟨c, t, e0⟩ := (h.kp hb).h0
    have := is_any a0 a0 c t e0 _ n (hc.kp hb)
    rwa [decide_eq_true rfl] at this
  have g0 : ∀ o, (w.alloc o).cell? ⟨0, 0, none⟩ = some (.iface 96 (.pointer (some a0))) := fun o => Kp.cell ((Below.refl _ _).alloc (Nat.le_refl _) o) h.v0
  clear h hc
  have hmf := mkf
  go_enter_defers Tryd.func8, Tryd.ntmps8
  go_wp2_with (first | (go_at_call 16; with_reducible refine (I0 _ ?_).mono ?_; exact (Below.refl _ _).alloc (Nat.le_refl _) _; rintro e w' ⟨rfl, rfl⟩))
  refine leaves_cons (f := 17) (args := #[.pointer (some ⟨w.heap.size, 0, none⟩)]) (by simp) (by simp [go_sem]) ?_
  refine (idle17 ⟨w.heap.size, 0, none⟩ _).mono ?_
  rintro e u' w'' ⟨rfl, rfl, rfl⟩
  simp [Leaves, settle, results, Tryd.results8, go_sem]
  exact (Below.refl _ _).alloc (Nat.le_refl _) _
set_option maxHeartbeats 2000000 in
theorem c_code1 {a0 a1 a2 : Addr} {w : World} (h : Std a0 a1 a2 w) (E : Value) (n : Nat) (hc : Chain w a1 E n) :
    Calls Tryd.prog 8 #[E] w fun e w' => e = .returned (.int .i64 4) ∧ Below w.heap.size w w' := by
  have hne : ∃ u v, E = .iface u v := by cases hc <;> exact ⟨_, _, rfl⟩
  obtain ⟨u1, v1, rfl⟩ := hne
  have I0 : ∀ w1, Below w.heap.size w w1 → Calls Tryd.prog 16 #[.iface u1 v1, .iface 96 (.pointer (some a0))] w1 fun e w' => e = .returned (.bool false) ∧ w' = w1 := fun w1 hb => by
    obtain ⟨c, t, e0⟩ := (h.kp hb).h0
    have := is_any a1 a0 c t e0 _ n (hc.kp hb)
    rwa [decide_eq_false (Ne.symm h.n01)] at this
  have g0 : ∀ o, (w.alloc o).cell? ⟨0, 0, none⟩ = some (.iface 96 (.pointer (some a0))) := fun o => Kp.cell ((Below.refl _ _).alloc (Nat.le_refl _) o) h.v0
  have I1 : ∀ w1, Below w.heap.size w w1 → Calls Tryd.prog 16 #[.iface u1 v1, .iface 96 (.pointer (some a1))] w1 fun e w' => e = .returned (.bool true) ∧ w' = w1 := fun w1 hb => by
    obtain ⟨c, t, e0⟩ := (h.kp hb).h1
    have := is_any a1 a1 c t e0 _ n (hc.kp hb)
    rwa [decide_eq_true rfl] at this
  have g1 : ∀ o, (w.alloc o).cell? ⟨1, 0, none⟩ = some (.iface 96 (.pointer (some a1))) := fun o => Kp.cell ((Below.refl _ _).alloc (Nat.le_refl _) o) h.v1
  clear h hc
  have hmf := mkf
  go_enter_defers Tryd.func8, Tryd.ntmps8
  go_wp2_with (first | (go_at_call 16; with_reducible refine (I0 _ ?_).mono ?_; exact (Below.refl _ _).alloc (Nat.le_refl _) _; rintro e w' ⟨rfl, rfl⟩) | (go_at_call 16; with_reducible refine (I1 _ ?_).mono ?_; exact (Below.refl _ _).alloc (Nat.le_refl _) _; rintro e w' ⟨rfl, rfl⟩))
  refine leaves_cons (f := 17) (args := #[.pointer (some ⟨w.heap.size, 0, none⟩)]) (by simp) (by simp [go_sem]) ?_
  refine (idle17 ⟨w.heap.size, 0, none⟩ _).mono ?_
  rintro e u' w'' ⟨rfl, rfl, rfl⟩
  simp [Leaves, settle, results, Tryd.results8, go_sem]
  exact (Below.refl _ _).alloc (Nat.le_refl _) _
set_option maxHeartbeats 2000000 in
theorem c_code2 {a0 a1 a2 : Addr} {w : World} (h : Std a0 a1 a2 w) (E : Value) (n : Nat) (hc : Chain w a2 E n) :
    Calls Tryd.prog 8 #[E] w fun e w' => e = .returned (.int .i64 5) ∧ Below w.heap.size w w' := by
  have hne : ∃ u v, E = .iface u v := by cases hc <;> exact ⟨_, _, rfl⟩
  obtain ⟨u1, v1, rfl⟩ := hne
  have I0 : ∀ w1, Below w.heap.size w w1 → Calls Tryd.prog 16 #[.iface u1 v1, .iface 96 (.pointer (some a0))] w1 fun e w' => e = .returned (.bool false) ∧ w' = w1 := fun w1 hb => by
    obtain ⟨c, t, e0⟩ := (h.kp hb).h0
    have := is_any a2 a0 c t e0 _ n (hc.kp hb)
    rwa [decide_eq_false (Ne.symm h.n02)] at this
  have g0 : ∀ o, (w.alloc o).cell? ⟨0, 0, none⟩ = some (.iface 96 (.pointer (some a0))) := fun o => Kp.cell ((Below.refl _ _).alloc (Nat.le_refl _) o) h.v0
  have I1 : ∀ w1, Below w.heap.size w w1 → Calls Tryd.prog 16 #[.iface u1 v1, .iface 96 (.pointer (some a1))] w1 fun e w' => e = .returned (.bool false) ∧ w' = w1 := fun w1 hb => by
    obtain ⟨c, t, e0⟩ := (h.kp hb).h1
    have := is_any a2 a1 c t e0 _ n (hc.kp hb)
    rwa [decide_eq_false (Ne.symm h.n12)] at this
  have g1 : ∀ o, (w.alloc o).cell? ⟨1, 0, none⟩ = some (.iface 96 (.pointer (some a1))) := fun o => Kp.cell ((Below.refl _ _).alloc (Nat.le_refl _) o) h.v1
  have I2 : ∀ w1, Below w.heap.size w w1 → Calls Tryd.prog 16 #[.iface u1 v1, .iface 96 (.pointer (some a2))] w1 fun e w' => e = .returned (.bool true) ∧ w' = w1 := fun w1 hb => by
    obtain ⟨c, t, e0⟩ := (h.kp hb).h2
    have := is_any a2 a2 c t e0 _ n (hc.kp hb)
    rwa [decide_eq_true rfl] at this
  have g2 : ∀ o, (w.alloc o).cell? ⟨2, 0, none⟩ = some (.iface 96 (.pointer (some a2))) := fun o => Kp.cell ((Below.refl _ _).alloc (Nat.le_refl _) o) h.v2
  clear h hc
  have hmf := mkf
  go_enter_defers Tryd.func8, Tryd.ntmps8
  go_wp2_with (first | (go_at_call 16; with_reducible refine (I0 _ ?_).mono ?_; exact (Below.refl _ _).alloc (Nat.le_refl _) _; rintro e w' ⟨rfl, rfl⟩) | (go_at_call 16; with_reducible refine (I1 _ ?_).mono ?_; exact (Below.refl _ _).alloc (Nat.le_refl _) _; rintro e w' ⟨rfl, rfl⟩) | (go_at_call 16; with_reducible refine (I2 _ ?_).mono ?_; exact (Below.refl _ _).alloc (Nat.le_refl _) _; rintro e w' ⟨rfl, rfl⟩))
  refine leaves_cons (f := 17) (args := #[.pointer (some ⟨w.heap.size, 0, none⟩)]) (by simp) (by simp [go_sem]) ?_
  refine (idle17 ⟨w.heap.size, 0, none⟩ _).mono ?_
  rintro e u' w'' ⟨rfl, rfl, rfl⟩
  simp [Leaves, settle, results, Tryd.results8, go_sem]
  exact (Below.refl _ _).alloc (Nat.le_refl _) _
theorem c_code_nil {a0 a1 a2 : Addr} {w : World} (h : Std a0 a1 a2 w) :
    Calls Tryd.prog 8 #[.nilIface] w fun e w' => e = .returned (.int .i64 0) ∧ Below w.heap.size w w' := by
  have I : ∀ a w1, Calls Tryd.prog 16 #[.nilIface, .iface 96 (.pointer (some a))] w1 fun e w' => e = .returned (.bool false) ∧ w' = w1 := fun a w1 => is_nil a w1
  have g0 : ∀ o, (w.alloc o).cell? ⟨0, 0, none⟩ = some (.iface 96 (.pointer (some a0))) := fun o => Kp.cell ((Below.refl _ _).alloc (Nat.le_refl _) o) h.v0
  have g1 : ∀ o, (w.alloc o).cell? ⟨1, 0, none⟩ = some (.iface 96 (.pointer (some a1))) := fun o => Kp.cell ((Below.refl _ _).alloc (Nat.le_refl _) o) h.v1
  have g2 : ∀ o, (w.alloc o).cell? ⟨2, 0, none⟩ = some (.iface 96 (.pointer (some a2))) := fun o => Kp.cell ((Below.refl _ _).alloc (Nat.le_refl _) o) h.v2
  clear h
  have hmf := mkf
  go_enter_defers Tryd.func8, Tryd.ntmps8
  go_wp2_with (go_at_call 16; refine (I _ _).mono ?_; rintro e w' ⟨rfl, rfl⟩)
  refine leaves_cons (f := 17) (args := #[.pointer (some ⟨w.heap.size, 0, none⟩)]) (by simp) (by simp [go_sem]) ?_
  refine (idle17 ⟨w.heap.size, 0, none⟩ _).mono ?_
  rintro e u' w'' ⟨rfl, rfl, rfl⟩
  simp [Leaves, settle, results, Tryd.results8, go_sem]
  exact (Below.refl _ _).alloc (Nat.le_refl _) _

theorem allocs {w w' : World} (h : Below w.heap.size w w') (o : Obj) : Below w.heap.size w (w'.alloc o) := h.alloc h.size o

theorem c_where_nil (w : World) :
    Calls Tryd.prog 11 #[.nilIface] w fun e w' => e = .returned (.tuple #[.int .i64 0, .int .i64 0, .bool false]) ∧ Below w.heap.size w w' := by
  have hmf := mkf
  go_enter_defers Tryd.func11, Tryd.ntmps11
  go_wp2_with (go_at_call 12; refine (as_nil _ _).mono ?_; rintro e w' ⟨rfl, rfl⟩)
  refine leaves_cons (f := 18) (args := #[.pointer (some ⟨w.heap.size, 0, none⟩), .pointer (some ⟨w.heap.size + 1, 0, none⟩), .pointer (some ⟨w.heap.size + 1 + 1, 0, none⟩)]) (by simp) (by simp [go_sem]) ?_
  refine (idle18 ⟨w.heap.size, 0, none⟩ ⟨w.heap.size + 1, 0, none⟩ ⟨w.heap.size + 1 + 1, 0, none⟩ _).mono ?_
  rintro e u' w'' ⟨rfl, rfl, rfl⟩
  simp [Leaves, settle, results, Tryd.results11, go_sem]
  exact allocs (allocs (allocs (allocs (Below.refl _ _) _) _) _) _
theorem c_where {a0 a1 a2 : Addr} {w : World} (h : Std a0 a1 a2 w) (pb : Nat) (g op : Int) (hg : w.cell? ⟨pb, 0, none⟩ = some (.int .i64 g)) (ho : w.cell? ⟨pb, 1, none⟩ = some (.int .i64 op)) :
    Calls Tryd.prog 11 #[.iface 33 (.pointer (some ⟨pb, 0, none⟩))] w fun e w' => e = .returned (.tuple #[.int .i64 g, .int .i64 op, .bool true]) ∧ Below w.heap.size w w' := by
  have hlt := cell_lt hg
  have hb4 : Below w.heap.size w ((((w.alloc (.cells #[.int .i64 0] 3)).alloc (.cells #[.int .i64 0] 3)).alloc (.cells #[.bool false] 4)).alloc (.cells #[.pointer none] 33)) :=
    allocs (allocs (allocs (allocs (Below.refl _ _) _) _) _) _
  have hgA := (h.kp hb4).ty
  have htA : ((((w.alloc (.cells #[.int .i64 0] 3)).alloc (.cells #[.int .i64 0] 3)).alloc (.cells #[.bool false] 4)).alloc (.cells #[.pointer none] 33)).cell? ⟨w.heap.size + 1 + 1 + 1, 0, none⟩ = some (.pointer none) := by
    rw [World.cell?_alloc_at _ _ _ _ (by simp)]; rfl
  have hfA : ((((w.alloc (.cells #[.int .i64 0] 3)).alloc (.cells #[.int .i64 0] 3)).alloc (.cells #[.bool false] 4)).alloc (.cells #[.pointer none] 33)).frozen? ⟨w.heap.size + 1 + 1 + 1, 0, none⟩ = false := by
    exact World.frozen?_alloc_at _ _ _ _ (by simp)
  have G : ∀ o1 o2 o3 o4 o5 o6 o7 o8, ((((((((w.alloc o1).alloc o2).alloc o3).alloc o4).alloc o5).alloc o6).alloc o7).alloc o8).cell? ⟨pb, 0, none⟩ = some (.int .i64 g) := fun _ _ _ _ _ _ _ _ =>
    Kp.cell (allocs (allocs (allocs (allocs (allocs (allocs (allocs (allocs (Below.refl _ _) _) _) _) _) _) _) _) _) hg
  have O : ∀ o1 o2 o3 o4 o5 o6 o7 o8, ((((((((w.alloc o1).alloc o2).alloc o3).alloc o4).alloc o5).alloc o6).alloc o7).alloc o8).cell? ⟨pb, 1, none⟩ = some (.int .i64 op) := fun _ _ _ _ _ _ _ _ =>
    Kp.cell (allocs (allocs (allocs (allocs (allocs (allocs (allocs (allocs (Below.refl _ _) _) _) _) _) _) _) _) _) ho
  clear h hg ho
  have hmf := mkf
  go_enter_defers Tryd.func11, Tryd.ntmps11
  go_wp2_with (go_at_call 12; refine (as_hit ⟨pb, 0, none⟩ _ (.pointer none) _ hgA htA hfA).mono ?_; rintro e w' ⟨rfl, rfl⟩)
  go_region
  all_goals (try go_wp2)
  all_goals refine leaves_cons (f := 18) (args := #[.pointer (some ⟨w.heap.size, 0, none⟩), .pointer (some ⟨w.heap.size + 1, 0, none⟩), .pointer (some ⟨w.heap.size + 1 + 1, 0, none⟩)]) (by simp) (by simp [go_sem]) ?_
  all_goals refine (idle18 ⟨w.heap.size, 0, none⟩ ⟨w.heap.size + 1, 0, none⟩ ⟨w.heap.size + 1 + 1, 0, none⟩ _).mono ?_
  all_goals rintro e u' w'' ⟨rfl, rfl, rfl⟩
  all_goals simp [Leaves, settle, results, Tryd.results11, go_sem]
  all_goals exact (allocs (allocs (allocs (allocs (allocs (allocs (allocs (allocs (Below.refl _ _) _) _) _) _) _) _) _) _).drew
end Go.Proofs.YtihmklfmeghgaaaDoor
