/-
  A script as an argument, opened.
  Conditions: none.
-/
import Derived.Test.YtopkfhmdgheghaaScriptE
namespace Go.Proofs.Ytopkfhmdgheghaa
open Go.RowKit Go.ChangeShapes Go.WideShapes Go.Deep
set_option linter.unusedVariables false
set_option linter.unusedSimpArgs false
set_option linter.unnecessarySimpa false

def cfgE (w : World) (cs : List Value) (a : Int × Int) (U : List Nat) : Prop := cs = [.int .i64 a.1, .int .i64 a.2] ∧ U = []
theorem cfgE_kept : Kept cfgE := ⟨fun h _ _ => h, fun h x hx => by obtain ⟨_, rfl⟩ := h; simp at hx⟩
theorem opens_int : Opens Try.prog 3 (numE .i64) 1 := opens_num Try.underlying3 (by kernel_rfl)
theorem opens_ints : Opens Try.prog 40 (rowE (numE .i64) 1) 1 := opens_row Try.underlying40 (by kernel_rfl) opens_int
theorem opens_u16 : Opens Try.prog 112 (numE .u16) 1 := opens_num Try.underlying112 (by kernel_rfl)
theorem opens_u16s : Opens Try.prog 39 (rowE (numE .u16) 1) 1 := opens_row Try.underlying39 (by kernel_rfl) opens_u16
theorem opens_cfg : Opens Try.prog 38 cfgE 2 := by
  refine ⟨by omega, cfgE_kept, by kernel_rfl, ?_⟩
  intro H enc W fuel cs x h
  obtain ⟨xs, n, _, _, hl, hxl, hf⟩ := DataW.trod_struct Try.underlying38 h
  have hl2 : cs.length = 2 := hl.trans (by kernel_rfl)
  obtain ⟨v0, v1, rfl⟩ := list2 hl2
  have hx2 : xs.length = 2 := hxl.trans (by kernel_rfl)
  have hs : ∀ i, i < 2 → (xs[i]?).isSome = true := fun i hi => by simp [hx2, hi]
  obtain ⟨o0, _, a0, U0, e0, _, _⟩ := opens_int.field rfl rfl (hs 0 (by omega)) (hf 0 _ rfl)
  obtain ⟨o1, _, a1, U1, e1, _, _⟩ := opens_int.field rfl rfl (hs 1 (by omega)) (hf 1 _ rfl)
  simp at e0 e1 o0 o1
  subst e0 e1
  exact ⟨rfl, (by intro y hy; simp at hy; rcases hy with rfl | rfl <;> rfl), (a0, a1), [], rfl, rfl⟩

theorem opens_script : Opens Try.prog 42 scE 5 := by
  refine ⟨by omega, scE_kept, by kernel_rfl, ?_⟩
  intro H enc W fuel cs x h
  obtain ⟨xs, n, _, _, hl, hxl, hf⟩ := DataW.trod_struct Try.underlying42 h
  have hl5 : cs.length = 5 := hl.trans (by kernel_rfl)
  obtain ⟨v0, v1, v2, v3, v4, rfl⟩ := list5 hl5
  have hx4 : xs.length = 4 := hxl.trans (by kernel_rfl)
  have hs : ∀ i, i < 4 → (xs[i]?).isSome = true := fun i hi => by simp [hx4, hi]
  obtain ⟨o0, _, a0, U0, vp, e0, h0⟩ := opens_plan.field rfl rfl (hs 0 (by omega)) (hf 0 _ rfl)
  obtain ⟨o1, _, a1, U1, e1, _⟩ := opens_cfg.field rfl rfl (hs 1 (by omega)) (hf 1 _ rfl)
  obtain ⟨o2, _, a2, U2, vd, e2, h2⟩ := opens_u16s.field rfl rfl (hs 2 (by omega)) (hf 2 _ rfl)
  obtain ⟨o3, _, a3, U3, vk, e3, h3⟩ := opens_ints.field rfl rfl (hs 3 (by omega)) (hf 3 _ rfl)
  simp at e0 e1 e2 e3 o0 o1 o2 o3
  obtain ⟨e1a, e1b⟩ := e1
  subst e0 e1a e1b e2 e3
  have hlt : ∀ x ∈ (U0 ++ U2) ++ U3, x < W.heap.size := fun x hx => by
    rcases List.mem_append.1 hx with h | h
    · rcases List.mem_append.1 h with h | h
      · exact h0.lt x h
      · exact h2.lt x h
    · exact h3.lt x h
  exact ⟨rfl, (by intro y hy; simp at hy; rcases hy with rfl | rfl | rfl | rfl | rfl <;> first | rfl | assumption), ⟨a0, a1.1, a1.2, a2, a3⟩, (U0 ++ U2) ++ U3, _, _, _, rfl, h0.mono (fun x hx => by simp [hx]) hlt, h2.mono (fun x hx => by simp [hx]) hlt, h3.mono (fun x hx => by simp [hx]) hlt⟩
end Go.Proofs.Ytopkfhmdgheghaa
