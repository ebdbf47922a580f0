/-
  The law PoolNew: its struct argument opened.
  Conditions: none.
-/
import Derived.Test.YtonkbenmafapgaaPoolNew
namespace Go.Proofs.Ytonkbenmafapgaa
open Go.RowKit Go.ChangeShapes Go.WideShapes Go.Deep
set_option linter.unusedVariables false
set_option linter.unusedSimpArgs false
set_option linter.unnecessarySimpa false

structure PoolD where
  size : Int
  most : Int
  caches : List (List Int)
  middle : List Int
  fresh : Int
def poolE (w : World) (cs : List Value) (a : PoolD) (U : List Nat) : Prop :=
  ∃ vc vm, cs = [.int .i64 a.size, .int .i64 a.most, vc, vm, .int .i64 a.fresh] ∧ RP w vc vm a.caches a.middle U
theorem poolE_kept : Kept poolE :=
  ⟨fun h k hn => by obtain ⟨vc, vm, h1, h2⟩ := h; exact ⟨vc, vm, h1, h2.keep k hn⟩, fun h => by obtain ⟨vc, vm, h1, h2⟩ := h; exact h2.1.lt⟩
theorem opens_int : Opens Try.prog 3 (numE .i64) 1 := opens_num Try.underlying3 (by kernel_rfl)
theorem opens_ints : Opens Try.prog 27 (rowE (numE .i64) 1) 1 := opens_row Try.underlying27 (by kernel_rfl) opens_int
theorem opens_rows : Opens Try.prog 36 (rowE (rowE (numE .i64) 1) 1) 1 := opens_row Try.underlying36 (by kernel_rfl) opens_ints

theorem opens_pool : Opens Try.prog 38 poolE 5 := by
  refine ⟨by omega, poolE_kept, by kernel_rfl, ?_⟩
  intro H enc W fuel cs x h
  obtain ⟨xs, n, _, _, hl, hxl, hf⟩ := DataW.trod_struct Try.underlying38 h
  have hl5 : cs.length = 5 := hl.trans (by kernel_rfl)
  obtain ⟨v0, v1, v2, v3, v4, rfl⟩ := list5 hl5
  have hx5 : xs.length = 5 := hxl.trans (by kernel_rfl)
  have hs : ∀ i, i < 5 → (xs[i]?).isSome = true := fun i hi => by simp [hx5, hi]
  obtain ⟨o0, _, a0, U0, e0, _, _⟩ := opens_int.field rfl rfl (hs 0 (by omega)) (hf 0 _ rfl)
  obtain ⟨o1, _, a1, U1, e1, _, _⟩ := opens_int.field rfl rfl (hs 1 (by omega)) (hf 1 _ rfl)
  obtain ⟨o2, _, a2, U2, vc, e2, h2⟩ := opens_rows.field rfl rfl (hs 2 (by omega)) (hf 2 _ rfl)
  obtain ⟨o3, _, a3, U3, vm, e3, h3⟩ := opens_ints.field rfl rfl (hs 3 (by omega)) (hf 3 _ rfl)
  obtain ⟨o4, _, a4, U4, e4, _, _⟩ := opens_int.field rfl rfl (hs 4 (by omega)) (hf 4 _ rfl)
  simp at e0 e1 e2 e3 e4 o0 o1 o2 o3 o4
  subst e0 e1 e2 e3 e4
  obtain ⟨⟨T3, i3, j3⟩, _⟩ := h3.iv
  refine ⟨rfl, (by intro y hy; simp at hy; rcases hy with rfl | rfl | rfl | rfl | rfl <;> first | rfl | assumption), ⟨a0, a1, a2, a3, a4⟩, U2 ++ U3, v2, v3, rfl, h2.ints.1.mono (fun x hx => by simp [hx]) (fun x hx => ?_), T3, i3, fun x hx => by simp [j3 x hx]⟩
  rcases List.mem_append.1 hx with h | h
  · exact h2.lt x h
  · exact h3.lt x h

theorem poolNew_open (w : World) (cs : Array Value) (a : PoolD) (U : List Nat) (hs : cs.size = 5) (h : poolE w cs.toList a U) (ho : ∀ y ∈ cs.toList, y.oneCell' = true) (t : Int) (ht : (Lit.int .i64 t).wf = true) :
    Calls Try.prog 10 #[.agg cs, .int .i64 t] w fun e w' => e = .returned (.bool true) ∧ Keeps [] w w' := by
  obtain ⟨vc, vm, h1, h2⟩ := h
  obtain rfl : cs = #[.int .i64 a.size, .int .i64 a.most, vc, vm, .int .i64 a.fresh] := by apply Array.toList_inj.1; exact h1
  exact poolNew_walk w _ _ _ t vc vm _ _ U h2
end Go.Proofs.Ytonkbenmafapgaa
