/-
  The acts of handofflaw20 as an argument, opened.
  Conditions: none.
-/
import Derived.Test.YtopkfhmdgheghaaPlanE
namespace Go.Proofs.Ytopkfhmdgheghaa
open Go.RowKit Go.ChangeShapes Go.WideShapes Go.Deep
set_option linter.unusedVariables false
set_option linter.unusedSimpArgs false
set_option linter.unnecessarySimpa false

structure ActD where
  kind : Int
  g : Int
  i : Int
  h : Int
  k : Int
  a : Pn.Op
  b : Pn.Op
def actE (w : World) (cs : List Value) (a : ActD) (U : List Nat) : Prop :=
  ∃ va vb, cs = [.int .i64 a.kind, .int .i64 a.g, .int .i64 a.i, .int .i64 a.h, .int .i64 a.k, .int .i64 a.a.kind, .int .i64 a.a.ch, .int .i64 a.a.n, .int .i64 a.a.v, va, .bool a.a.els, .int .i64 a.b.kind, .int .i64 a.b.ch, .int .i64 a.b.n, .int .i64 a.b.v, vb, .bool a.b.els] ∧
    GV caseE 3 w va a.a.cases U ∧ GV caseE 3 w vb a.b.cases U ∧ (Lit.int .i64 a.g).wf = true ∧ (Lit.int .i64 a.h).wf = true
theorem actE_kept : Kept actE :=
  ⟨fun h k hn => by obtain ⟨va, vb, h1, h2, h3, h4⟩ := h; exact ⟨va, vb, h1, h2.keep caseE_kept k hn, h3.keep caseE_kept k hn, h4⟩, fun h => by obtain ⟨va, vb, h1, h2, _⟩ := h; exact h2.lt⟩
theorem list17 {α : Type} : ∀ {l : List α}, l.length = 17 → ∃ x0 x1 x2 x3 x4 x5 x6 x7 x8 x9 x10 x11 x12 x13 x14 x15 x16, l = [x0, x1, x2, x3, x4, x5, x6, x7, x8, x9, x10, x11, x12, x13, x14, x15, x16]
  | [x0, x1, x2, x3, x4, x5, x6, x7, x8, x9, x10, x11, x12, x13, x14, x15, x16], _ => ⟨x0, x1, x2, x3, x4, x5, x6, x7, x8, x9, x10, x11, x12, x13, x14, x15, x16, rfl⟩
theorem opens_act : Opens Try.prog 56 actE 17 := by
  refine ⟨by omega, actE_kept, by kernel_rfl, ?_⟩
  intro H enc W fuel cs x h
  obtain ⟨xs, n, _, _, hl, hxl, hf⟩ := DataW.trod_struct Try.underlying56 h
  have hl17 : cs.length = 17 := hl.trans (by kernel_rfl)
  obtain ⟨v0, v1, v2, v3, v4, v5, v6, v7, v8, v9, v10, v11, v12, v13, v14, v15, v16, rfl⟩ := list17 hl17
  have hx7 : xs.length = 7 := hxl.trans (by kernel_rfl)
  have hs : ∀ i, i < 7 → (xs[i]?).isSome = true := fun i hi => by simp [hx7, hi]
  obtain ⟨_, _, a0, U0, e0, w0, _⟩ := opens_i64.field rfl rfl (hs 0 (by omega)) (hf 0 _ rfl)
  obtain ⟨_, _, a1, U1, e1, w1, _⟩ := opens_i64.field rfl rfl (hs 1 (by omega)) (hf 1 _ rfl)
  obtain ⟨_, _, a2, U2, e2, w2, _⟩ := opens_i64.field rfl rfl (hs 2 (by omega)) (hf 2 _ rfl)
  obtain ⟨_, _, a3, U3, e3, w3, _⟩ := opens_i64.field rfl rfl (hs 3 (by omega)) (hf 3 _ rfl)
  obtain ⟨_, _, a4, U4, e4, w4, _⟩ := opens_i64.field rfl rfl (hs 4 (by omega)) (hf 4 _ rfl)
  obtain ⟨o5, _, a5, U5, vc5, e5, h5⟩ := opens_op.field rfl rfl (hs 5 (by omega)) (hf 5 _ rfl)
  obtain ⟨o6, _, a6, U6, vc6, e6, h6⟩ := opens_op.field rfl rfl (hs 6 (by omega)) (hf 6 _ rfl)
  simp at e0 e1 e2 e3 e4 e5 e6 o5 o6
  obtain ⟨p0, p1, p2, p3, p4, p5⟩ := e5
  obtain ⟨r0, r1, r2, r3, r4, r5⟩ := e6
  subst e0 e1 e2 e3 e4 p0 p1 p2 p3 p4 p5 r0 r1 r2 r3 r4 r5
  have hlt : ∀ x ∈ U5 ++ U6, x < W.heap.size := fun x hx => by
    rcases List.mem_append.1 hx with h | h
    · exact h5.lt x h
    · exact h6.lt x h
  refine ⟨rfl, (by intro y hy; simp at hy; rcases hy with rfl | rfl | rfl | rfl | rfl | rfl | rfl | rfl | rfl | rfl | rfl | rfl | rfl | rfl | rfl | rfl | rfl <;> first | rfl | simp_all), ⟨a0, a1, a2, a3, a4, a5, a6⟩, U5 ++ U6, _, _, rfl, h5.mono (fun x hx => by simp [hx]) hlt, h6.mono (fun x hx => by simp [hx]) hlt, w1, w3⟩
theorem opens_acts : Opens Try.prog 54 (rowE actE 17) 1 := opens_row Try.underlying54 (by kernel_rfl) opens_act
end Go.Proofs.Ytopkfhmdgheghaa
