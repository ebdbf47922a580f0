/-
  A list of marks as an argument, opened.
  Conditions: none.
-/
import Derived.Test.YtgjpdogjekmemaaOpn
import Derived.Test.YtgjpdogjekmemaaFsa
namespace Go.Proofs.Ytgjpdogjekmemaa
open Go.RowKit Go.ChangeShapes Go.WideShapes Go.Deep
set_option linter.unusedVariables false
set_option linter.unusedSimpArgs false
set_option linter.unnecessarySimpa false
namespace Fl
theorem om_int : Opens Try.prog 3 (numE .i64) 1 := opens_num Try.underlying3 (by kernel_rfl)
theorem om_int64 : Opens Try.prog 2 (numE .i64) 1 := opens_num Try.underlying2 (by kernel_rfl)
theorem om_bool : Opens Try.prog 4 bitE 1 := opens_bit Try.underlying4 (by kernel_rfl)
def vR (r : Md.Res) : List Value := [.int .i64 r.code, .int .i64 r.cs, .int .i64 r.v, .bool r.ok, .int .i64 r.n]
def resE (w : World) (cs : List Value) (r : Md.Res) (U : List Nat) : Prop := cs = vR r ∧ U = []
theorem resE_kept : Kept resE := ⟨fun h _ _ => h, fun h x hx => by obtain ⟨_, rfl⟩ := h; simp at hx⟩
theorem om_list5 {α : Type} : ∀ {l : List α}, l.length = 5 → ∃ x0 x1 x2 x3 x4, l = [x0, x1, x2, x3, x4]
  | [x0, x1, x2, x3, x4], _ => ⟨x0, x1, x2, x3, x4, rfl⟩
theorem om_list13 {α : Type} : ∀ {l : List α}, l.length = 13 → ∃ x0 x1 x2 x3 x4 x5 x6 x7 x8 x9 x10 x11 x12, l = [x0, x1, x2, x3, x4, x5, x6, x7, x8, x9, x10, x11, x12]
  | [x0, x1, x2, x3, x4, x5, x6, x7, x8, x9, x10, x11, x12], _ => ⟨x0, x1, x2, x3, x4, x5, x6, x7, x8, x9, x10, x11, x12, rfl⟩
theorem om_res : Opens Try.prog 33 resE 5 := by
  refine ⟨by omega, resE_kept, by kernel_rfl, ?_⟩
  intro H enc W fuel cs x h
  obtain ⟨xs, n, _, _, hl, hxl, hf⟩ := DataW.trod_struct Try.underlying33 h
  obtain ⟨v0, v1, v2, v3, v4, rfl⟩ := om_list5 (hl.trans (by kernel_rfl))
  have hx5 : xs.length = 5 := hxl.trans (by kernel_rfl)
  have hs : ∀ i, i < 5 → (xs[i]?).isSome = true := fun i hi => by simp [hx5, hi]
  obtain ⟨_, _, a0, U0, e0, _⟩ := om_int.field rfl rfl (hs 0 (by omega)) (hf 0 _ rfl)
  obtain ⟨_, _, a1, U1, e1, _⟩ := om_int.field rfl rfl (hs 1 (by omega)) (hf 1 _ rfl)
  obtain ⟨_, _, a2, U2, e2, _⟩ := om_int64.field rfl rfl (hs 2 (by omega)) (hf 2 _ rfl)
  obtain ⟨_, _, a3, U3, e3, _⟩ := om_bool.field rfl rfl (hs 3 (by omega)) (hf 3 _ rfl)
  obtain ⟨_, _, a4, U4, e4, _⟩ := om_int.field rfl rfl (hs 4 (by omega)) (hf 4 _ rfl)
  simp at e0 e1 e2 e3 e4
  subst e0 e1 e2 e3 e4
  exact ⟨rfl, (by intro y hy; simp at hy; rcases hy with rfl | rfl | rfl | rfl | rfl <;> rfl), ⟨a0, a1, a2, a3, a4⟩, [], rfl, rfl⟩
def markE (w : World) (cs : List Value) (m : Sx.Mk) (U : List Nat) : Prop := cs = [.int .i64 m.g, .int .i64 m.op, .int .i64 m.call, .int .i64 m.arrive, .int .i64 m.point, .int .i64 m.wi, .int .i64 m.fire, .int .i64 m.re] ++ vR m.res ∧ U = []
theorem markE_kept : Kept markE := ⟨fun h _ _ => h, fun h x hx => by obtain ⟨_, rfl⟩ := h; simp at hx⟩
theorem om_mark : Opens Try.prog 41 markE 13 := by
  refine ⟨by omega, markE_kept, by kernel_rfl, ?_⟩
  intro H enc W fuel cs x h
  obtain ⟨xs, n, _, _, hl, hxl, hf⟩ := DataW.trod_struct Try.underlying41 h
  obtain ⟨v0, v1, v2, v3, v4, v5, v6, v7, v8, v9, v10, v11, v12, rfl⟩ := om_list13 (hl.trans (by kernel_rfl))
  have hx9 : xs.length = 9 := hxl.trans (by kernel_rfl)
  have hs : ∀ i, i < 9 → (xs[i]?).isSome = true := fun i hi => by simp [hx9, hi]
  obtain ⟨_, _, a0, U0, e0, _⟩ := om_int.field rfl rfl (hs 0 (by omega)) (hf 0 _ rfl)
  obtain ⟨_, _, a1, U1, e1, _⟩ := om_int.field rfl rfl (hs 1 (by omega)) (hf 1 _ rfl)
  obtain ⟨_, _, a2, U2, e2, _⟩ := om_int.field rfl rfl (hs 2 (by omega)) (hf 2 _ rfl)
  obtain ⟨_, _, a3, U3, e3, _⟩ := om_int.field rfl rfl (hs 3 (by omega)) (hf 3 _ rfl)
  obtain ⟨_, _, a4, U4, e4, _⟩ := om_int.field rfl rfl (hs 4 (by omega)) (hf 4 _ rfl)
  obtain ⟨_, _, a5, U5, e5, _⟩ := om_int.field rfl rfl (hs 5 (by omega)) (hf 5 _ rfl)
  obtain ⟨_, _, a6, U6, e6, _⟩ := om_int.field rfl rfl (hs 6 (by omega)) (hf 6 _ rfl)
  obtain ⟨_, _, a7, U7, e7, _⟩ := om_int.field rfl rfl (hs 7 (by omega)) (hf 7 _ rfl)
  obtain ⟨_, _, a8, U8, e8, _⟩ := om_res.field rfl rfl (hs 8 (by omega)) (hf 8 _ rfl)
  simp [vR] at e0 e1 e2 e3 e4 e5 e6 e7 e8
  obtain ⟨p0, p1, p2, p3, p4⟩ := e8
  subst e0 e1 e2 e3 e4 e5 e6 e7 p0 p1 p2 p3 p4
  exact ⟨rfl, (by intro y hy; simp at hy; rcases hy with rfl | rfl | rfl | rfl | rfl | rfl | rfl | rfl | rfl | rfl | rfl | rfl | rfl <;> rfl), ⟨a0, a1, a2, a3, a4, a5, a6, a7, a8⟩, [], rfl, rfl⟩
theorem om_marks : Opens Try.prog 22 (rowE markE 13) 1 := opens_row Try.underlying22 (by kernel_rfl) om_mark
theorem si_mark : Si eM markE := fun ok w cs m U r _ => by
  obtain ⟨rfl, _⟩ := r
  exact RC.cons (RA.w rfl) (RC.cons (RA.w rfl) (RC.cons (RA.w rfl) (RC.cons (RA.w rfl) (RC.cons (RA.w rfl) (RC.cons (RA.w rfl) (RC.cons (RA.w rfl) (RC.cons (RA.w rfl) (RC.cons (RA.w rfl) (RC.cons (RA.w rfl) (RC.cons (RA.w rfl) (RC.cons (RA.w rfl) (RC.cons (RA.w rfl) RC.nil))))))))))))
end Fl
end Go.Proofs.Ytgjpdogjekmemaa
