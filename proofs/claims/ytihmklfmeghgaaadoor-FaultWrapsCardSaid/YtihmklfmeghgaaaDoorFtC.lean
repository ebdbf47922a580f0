/-
  What stands in the package's variables (Std), and the small functions of package fault: Must, Of, Unwrap, Where, Code.
  Conditions: the variables hold what the rows list.
-/
import Derived.Test.YtihmklfmeghgaaaDoorFtA
import Derived.Test.YtihmklfmeghgaaaDoorFtB
import Derived.Below
import Derived.Defers
import Derived.Recover
import Derived.Tactics
import Derived.Tactics2
import Derived.Laws.Pointers
import Derived.Lib.AppendIntMem
import Derived.Lib.ItoaMem
set_option linter.unusedVariables false
set_option linter.unusedSimpArgs false
set_option linter.unnecessarySimpa false
namespace Go.Proofs.YtihmklfmeghgaaaDoor
open Go.RowKit Go.Extern.Stop Go.Stop Go.Extern

def tSend : List UInt8 := [115, 101, 110, 100, 32, 111, 110, 32, 99, 108, 111, 115, 101, 100, 32, 99, 104, 97, 110, 110, 101, 108]
def tClose : List UInt8 := [99, 108, 111, 115, 101, 32, 111, 102, 32, 99, 108, 111, 115, 101, 100, 32, 99, 104, 97, 110, 110, 101, 108]
def tNil : List UInt8 := [99, 108, 111, 115, 101, 32, 111, 102, 32, 110, 105, 108, 32, 99, 104, 97, 110, 110, 101, 108]

structure Std (a0 a1 a2 : Addr) (W : World) : Prop where
  v0 : W.cell? ⟨0, 0, none⟩ = some (.iface 96 (.pointer (some a0)))
  v1 : W.cell? ⟨1, 0, none⟩ = some (.iface 96 (.pointer (some a1)))
  v2 : W.cell? ⟨2, 0, none⟩ = some (.iface 96 (.pointer (some a2)))
  ty : W.cell? ⟨3, 0, none⟩ = some (.iface 63 (.agg #[.pointer (some ⟨7, 24, none⟩)]))
  tab : Lib.TabIs Tryd.prog W "internal/strconv.uint64pow10" .u64 Lib.pow10Tab
  h0 : ∃ c t, W.heap[a0.block]? = some (.cells c t (0, 0))
  h1 : ∃ c t, W.heap[a1.block]? = some (.cells c t (0, 0))
  h2 : ∃ c t, W.heap[a2.block]? = some (.cells c t (0, 0))
  s0 : W.cell? a0 = some (.string ⟨tSend.toArray⟩)
  s1 : W.cell? a1 = some (.string ⟨tClose.toArray⟩)
  s2 : W.cell? a2 = some (.string ⟨tNil.toArray⟩)
  n01 : a0 ≠ a1
  n02 : a0 ≠ a2
  n12 : a1 ≠ a2

theorem cell_lt {W : World} {a : Addr} {v : Value} (h : W.cell? a = some v) : a.block < W.heap.size := by
  rcases Nat.lt_or_ge a.block W.heap.size with h' | h'
  · exact h'
  · simp [World.cell?, Array.getElem?_eq_none h'] at h
theorem heap_lt {W : World} {b : Nat} {o : Obj} (h : W.heap[b]? = some o) : b < W.heap.size := by
  rcases Nat.lt_or_ge b W.heap.size with h' | h'
  · exact h'
  · simp [Array.getElem?_eq_none h'] at h
theorem Kp.cell {W W' : World} (h : Below W.heap.size W W') {a : Addr} {v : Value} (hc : W.cell? a = some v) : W'.cell? a = some v := by
  rw [h.cell (cell_lt hc)]; exact hc
theorem Kp.heap {W W' : World} (h : Below W.heap.size W W') {b : Nat} {o : Obj} (hc : W.heap[b]? = some o) : W'.heap[b]? = some o := by
  rw [h.block b (heap_lt hc)]; exact hc
theorem Kp.trans {a b c : World} (h : Below a.heap.size a b) (k : Below b.heap.size b c) : Below a.heap.size a c :=
  h.trans (k.mono h.size)

theorem Std.kp {a0 a1 a2 : Addr} {W W' : World} (h : Std a0 a1 a2 W) (k : Below W.heap.size W W') : Std a0 a1 a2 W' where
  v0 := Kp.cell k h.v0
  v1 := Kp.cell k h.v1
  v2 := Kp.cell k h.v2
  ty := Kp.cell k h.ty
  tab := Lib.tabBelow_of_tabIs h.tab _ k
  h0 := by obtain ⟨c, t, e⟩ := h.h0; exact ⟨c, t, Kp.heap k e⟩
  h1 := by obtain ⟨c, t, e⟩ := h.h1; exact ⟨c, t, Kp.heap k e⟩
  h2 := by obtain ⟨c, t, e⟩ := h.h2; exact ⟨c, t, Kp.heap k e⟩
  s0 := Kp.cell k h.s0
  s1 := Kp.cell k h.s1
  s2 := Kp.cell k h.s2
  n01 := h.n01
  n02 := h.n02
  n12 := h.n12

theorem Chain.kp {W W' : World} {a : Addr} {E : Value} {n : Nat} (h : Chain W a E n) (k : Below W.heap.size W W') : Chain W' a E n := by
  induction h with
  | leaf ca ta e => exact .leaf ca ta (Kp.heap k e)
  | wrap pb E n hc _ ih => exact .wrap pb E n (Kp.cell k hc) ih

/-- A code's error. -/
def errOf (a0 a1 a2 : Addr) (code : Int) : Value :=
  if code = 3 then .iface 96 (.pointer (some a0)) else if code = 4 then .iface 96 (.pointer (some a1)) else if code = 5 then .iface 96 (.pointer (some a2)) else .nilIface

theorem c_must {a0 a1 a2 : Addr} {w : World} (h : Std a0 a1 a2 w) (code : Int) :
    Calls Tryd.prog 7 #[.int .i64 code] w fun e w' => e = .returned (.tuple #[.bool (decide (code = 1)), errOf a0 a1 a2 code]) ∧ Below w.heap.size w w' := by
  have v0 := h.v0
  have v1 := h.v1
  have v2 := h.v2
  clear h
  unfold errOf
  by_cases c3 : code = 3
  · subst c3
    rw [if_pos rfl]
    go_enter Tryd.func7, Tryd.ntmps7
    go_wp2
    go_region
    all_goals (try go_wp2)
    all_goals go_ret2
    all_goals exact ⟨rfl, (Below.refl _ _).drew⟩
  rw [if_neg c3]
  by_cases c4 : code = 4
  · subst c4
    rw [if_pos rfl]
    go_enter Tryd.func7, Tryd.ntmps7
    go_wp2
    go_region
    all_goals (try go_wp2)
    all_goals go_ret2
    all_goals exact ⟨rfl, (Below.refl _ _).drew⟩
  rw [if_neg c4]
  by_cases c5 : code = 5
  · subst c5
    rw [if_pos rfl]
    go_enter Tryd.func7, Tryd.ntmps7
    go_wp2
    go_region
    all_goals (try go_wp2)
    all_goals go_ret2
    all_goals exact ⟨rfl, (Below.refl _ _).drew⟩
  rw [if_neg c5]
  by_cases c1 : code = 1
  · subst c1
    go_enter Tryd.func7, Tryd.ntmps7
    go_wp2
    go_ret2
    exact ⟨rfl, Below.refl _ _⟩
  rw [decide_eq_false c1]
  go_enter Tryd.func7, Tryd.ntmps7
  go_wp2
  all_goals (go_ret2; exact ⟨rfl, Below.refl _ _⟩)

theorem c_unwrap (pb : Nat) (E : Value) (w : World) (h : w.cell? ⟨pb, 2, none⟩ = some E) :
    Calls Tryd.prog 15 #[.pointer (some ⟨pb, 0, none⟩)] w fun e w' => e = .returned E ∧ w' = w := by
  go_enter Tryd.func15, Tryd.ntmps15
  go_wp2
  go_ret
  exact ⟨rfl, rfl⟩

/-- Of, where the code has an error; where it has none. -/
theorem c_of {a0 a1 a2 : Addr} {w : World} (h : Std a0 a1 a2 w) (code g op : Int) (u : TypeId) (v : Value) (he : errOf a0 a1 a2 code = .iface u v) :
    Calls Tryd.prog 9 #[.int .i64 code, .int .i64 g, .int .i64 op] w fun e w' => ∃ pb, e = .returned (.iface 33 (.pointer (some ⟨pb, 0, none⟩))) ∧ w.heap.size ≤ pb ∧ w'.cell? ⟨pb, 0, none⟩ = some (.int .i64 g) ∧ w'.cell? ⟨pb, 1, none⟩ = some (.int .i64 op) ∧ w'.cell? ⟨pb, 2, none⟩ = some (.iface u v) ∧ Below w.heap.size w w' := by
  have hm := c_must h code
  rw [he] at hm
  clear h he
  go_enter Tryd.func9, Tryd.ntmps9
  go_wp2_with (go_at_call 7; refine hm.mono ?_; rintro e w' ⟨rfl, hb⟩)
  go_ret
  refine ⟨w'.heap.size, rfl, hb.size, by simp, by simp, by simp, hb.alloc hb.size _⟩
theorem c_of_nil {a0 a1 a2 : Addr} {w : World} (h : Std a0 a1 a2 w) (code g op : Int) (he : errOf a0 a1 a2 code = .nilIface) :
    Calls Tryd.prog 9 #[.int .i64 code, .int .i64 g, .int .i64 op] w fun e w' => e = .returned .nilIface ∧ Below w.heap.size w w' := by
  have hm := c_must h code
  rw [he] at hm
  clear h he
  go_enter Tryd.func9, Tryd.ntmps9
  go_wp2_with (go_at_call 7; refine hm.mono ?_; rintro e w' ⟨rfl, hb⟩)
  go_ret
  exact ⟨rfl, hb⟩

/-- The deferred closures, entered behind a plain return. -/
theorem idle17 (p : Addr) (w : World) :
    CallsD Tryd.prog 17 #[.pointer (some p)] .returning w fun e u' w' => e = .returned (.tuple #[]) ∧ u' = .returning ∧ w' = w := by
  refine callsD_of_wpS Tryd.func17 rfl fun c₀ cs hu => ?_
  apply wpS_seq
  apply wpS_region
  simp [wpOpsS, go_sem, recoverD, hu, Tryd.ntmps17, Exit.thenS]
  refine wpS_cond (t := false) (by simp [Act.eval, Array.replicate]) ?_
  simp only [Bool.false_eq_true, if_false]
  refine wpS_of_wp (wp_skip ?_)
  cases c₀
  simp_all [bodyPostS, results, Tryd.results17]
theorem idle18 (p q r : Addr) (w : World) :
    CallsD Tryd.prog 18 #[.pointer (some p), .pointer (some q), .pointer (some r)] .returning w fun e u' w' => e = .returned (.tuple #[]) ∧ u' = .returning ∧ w' = w := by
  refine callsD_of_wpS Tryd.func18 rfl fun c₀ cs hu => ?_
  apply wpS_seq
  apply wpS_region
  simp [wpOpsS, go_sem, recoverD, hu, Tryd.ntmps18, Exit.thenS]
  refine wpS_cond (t := false) (by simp [Act.eval, Array.replicate]) ?_
  simp only [Bool.false_eq_true, if_false]
  refine wpS_of_wp (wp_skip ?_)
  cases c₀
  simp_all [bodyPostS, results, Tryd.results18]
end Go.Proofs.YtihmklfmeghgaaaDoor
