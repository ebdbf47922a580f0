/-
  How plans, ops and cases lie in memory; arguments of these types opened.
  Conditions: none.
-/
import Derived.Test.YtgjpdogjekmemaaDoorPlanL
import Derived.Test.YtgjpdogjekmemaaDoorCore
namespace Go.Proofs.YtgjpdogjekmemaaDoor
open Go.RowKit Go.ChangeShapes Go.WideShapes Go.Deep
set_option linter.unusedVariables false
set_option linter.unusedSimpArgs false
set_option linter.unnecessarySimpa false

def caseE (w : World) (cs : List Value) (c : Pn.Cs) (U : List Nat) : Prop := cs = [.bool c.send, .int .i64 c.ch, .int .i64 c.v] ∧ U = []
def opE (w : World) (cs : List Value) (o : Pn.Op) (U : List Nat) : Prop :=
  ∃ vc, cs = [.int .i64 o.kind, .int .i64 o.ch, .int .i64 o.n, .int .i64 o.v, vc, .bool o.els] ∧ GV caseE 3 w vc o.cases U
theorem caseE_kept : Kept caseE := ⟨fun h _ _ => h, fun h x hx => by obtain ⟨_, rfl⟩ := h; simp at hx⟩
theorem opE_kept : Kept opE :=
  ⟨fun h k hn => by obtain ⟨vc, h1, h2⟩ := h; exact ⟨vc, h1, h2.keep caseE_kept k hn⟩, fun h => by obtain ⟨vc, h1, h2⟩ := h; exact h2.lt⟩
/-- a list of ops, in one cell; a plan is GV opsE 1 -/
def opsE : World → List Value → List Pn.Op → List Nat → Prop := rowE opE 6
theorem opsE_kept : Kept opsE := rowE_kept opE_kept

section
variable {w : World} {ao : Option Addr} {m cap k : Nat} {S : List Nat}
theorem GV.case {l : List Pn.Cs} {c : Pn.Cs} (h : GV caseE 3 w (.slice ao m cap) l S) (hk : l[k]? = some c) :
    ∃ g off, ao = some ⟨g, off, none⟩ ∧ g ∈ S ∧ g < w.heap.size ∧ w.cell? ⟨g, off + k * 3, none⟩ = some (.bool c.send) ∧ w.cell? ⟨g, off + k * 3 + 1, none⟩ = some (.int .i64 c.ch) ∧ w.cell? ⟨g, off + k * 3 + 2, none⟩ = some (.int .i64 c.v) := by
  obtain ⟨g, off, cs, U, h1, h2, h3, h4, h5, ⟨rfl, _⟩, _⟩ := h.get hk
  exact ⟨g, off, h1, h2, h3, h5 0 (by omega), h5 1 (by omega), h5 2 (by omega)⟩
theorem GV.op {l : List Pn.Op} {o : Pn.Op} (h : GV opE 6 w (.slice ao m cap) l S) (hk : l[k]? = some o) :
    ∃ g off vc U, ao = some ⟨g, off, none⟩ ∧ g ∈ S ∧ g < w.heap.size ∧ (w.cell? ⟨g, off + k * 6, none⟩ = some (.int .i64 o.kind) ∧ w.cell? ⟨g, off + k * 6 + 1, none⟩ = some (.int .i64 o.ch) ∧ w.cell? ⟨g, off + k * 6 + 2, none⟩ = some (.int .i64 o.n) ∧
      w.cell? ⟨g, off + k * 6 + 3, none⟩ = some (.int .i64 o.v) ∧ w.cell? ⟨g, off + k * 6 + 4, none⟩ = some vc ∧ w.cell? ⟨g, off + k * 6 + 5, none⟩ = some (.bool o.els)) ∧ GV caseE 3 w vc o.cases U ∧ ∀ x ∈ U, x ∈ S := by
  obtain ⟨g, off, cs, U, h1, h2, h3, h4, h5, ⟨vc, rfl, h6⟩, h7⟩ := h.get hk
  exact ⟨g, off, vc, U, h1, h2, h3, ⟨h5 0 (by omega), h5 1 (by omega), h5 2 (by omega), h5 3 (by omega), h5 4 (by omega), h5 5 (by omega)⟩, h6, h7⟩
/-- an element in one cell -/
theorem GV.one {α : Type} {E : World → List Value → α → List Nat → Prop} {l : List α} {a : α} (h : GV E 1 w (.slice ao m cap) l S) (hk : l[k]? = some a) :
    ∃ g off v U, ao = some ⟨g, off, none⟩ ∧ g ∈ S ∧ g < w.heap.size ∧ w.cell? ⟨g, off + k, none⟩ = some v ∧ E w [v] a U ∧ ∀ x ∈ U, x ∈ S := by
  obtain ⟨g, off, cs, U, h1, h2, h3, h4, h5, h6, h7⟩ := h.get hk
  obtain ⟨v, rfl⟩ := list1 h4
  exact ⟨g, off, v, U, h1, h2, h3, by have := h5 0 (by omega); simpa using this, h6, h7⟩
/-- a number of a row -/
theorem GV.num {q : IntKind} {l : List Int} (h : GV (numE q) 1 w (.slice ao m cap) l S) (hk : k < l.length) :
    ∃ g off, ao = some ⟨g, off, none⟩ ∧ g ∈ S ∧ g < w.heap.size ∧ w.cell? ⟨g, off + k, none⟩ = some (.int q (l.getD k 0)) := by
  obtain ⟨g, off, v, U, h1, h2, h3, h4, ⟨h5, _⟩, _⟩ := h.one (List.getElem?_eq_getElem hk)
  cases h5
  exact ⟨g, off, h1, h2, h3, by simpa [List.getD, hk] using h4⟩
theorem GV.wf {q : IntKind} {l : List Int} {v : Value} (h : GV (numE q) 1 w v l S) : ∀ x ∈ l, (Lit.int q x).wf = true := by
  intro x hx
  obtain ⟨k, hk, rfl⟩ := List.getElem_of_mem hx
  obtain ⟨ao, cap, rfl⟩ := h.shape
  obtain ⟨g, off, v, U, h1, h2, h3, h4, ⟨h5, h6, _⟩, _⟩ := h.one (List.getElem?_eq_getElem hk)
  exact h6
end

theorem opens_i64 : Opens Tryd.prog 3 (numE .i64) 1 := opens_num Tryd.underlying3 (by kernel_rfl)
theorem opens_int64 : Opens Tryd.prog 2 (numE .i64) 1 := opens_num Tryd.underlying2 (by kernel_rfl)
theorem opens_bool : Opens Tryd.prog 4 bitE 1 := opens_bit Tryd.underlying4 (by kernel_rfl)
theorem opens_case : Opens Tryd.prog 40 caseE 3 := by
  refine ⟨by omega, caseE_kept, by kernel_rfl, ?_⟩
  intro H enc W fuel cs x h
  obtain ⟨xs, n, _, _, hl, hxl, hf⟩ := DataW.trod_struct Tryd.underlying40 h
  have hl3 : cs.length = 3 := hl.trans (by kernel_rfl)
  obtain ⟨v0, v1, v2, rfl⟩ := list3 hl3
  have hx3 : xs.length = 3 := hxl.trans (by kernel_rfl)
  have hs : ∀ i, i < 3 → (xs[i]?).isSome = true := fun i hi => by simp [hx3, hi]
  obtain ⟨_, _, a0, U0, e0, _⟩ := opens_bool.field rfl rfl (hs 0 (by omega)) (hf 0 _ rfl)
  obtain ⟨_, _, a1, U1, e1, _⟩ := opens_i64.field rfl rfl (hs 1 (by omega)) (hf 1 _ rfl)
  obtain ⟨_, _, a2, U2, e2, _⟩ := opens_int64.field rfl rfl (hs 2 (by omega)) (hf 2 _ rfl)
  simp at e0 e1 e2
  subst e0 e1 e2
  exact ⟨rfl, (by intro y hy; simp at hy; rcases hy with rfl | rfl | rfl <;> rfl), ⟨a0, a1, a2⟩, [], rfl, rfl⟩
theorem opens_cases : Opens Tryd.prog 23 (rowE caseE 3) 1 := opens_row Tryd.underlying23 (by kernel_rfl) opens_case
theorem opens_op : Opens Tryd.prog 25 opE 6 := by
  refine ⟨by omega, opE_kept, by kernel_rfl, ?_⟩
  intro H enc W fuel cs x h
  obtain ⟨xs, n, _, _, hl, hxl, hf⟩ := DataW.trod_struct Tryd.underlying25 h
  have hl6 : cs.length = 6 := hl.trans (by kernel_rfl)
  obtain ⟨v0, v1, v2, v3, v4, v5, rfl⟩ := list6 hl6
  have hx6 : xs.length = 6 := hxl.trans (by kernel_rfl)
  have hs : ∀ i, i < 6 → (xs[i]?).isSome = true := fun i hi => by simp [hx6, hi]
  obtain ⟨_, _, a0, U0, e0, _⟩ := opens_i64.field rfl rfl (hs 0 (by omega)) (hf 0 _ rfl)
  obtain ⟨_, _, a1, U1, e1, _⟩ := opens_i64.field rfl rfl (hs 1 (by omega)) (hf 1 _ rfl)
  obtain ⟨_, _, a2, U2, e2, _⟩ := opens_i64.field rfl rfl (hs 2 (by omega)) (hf 2 _ rfl)
  obtain ⟨_, _, a3, U3, e3, _⟩ := opens_int64.field rfl rfl (hs 3 (by omega)) (hf 3 _ rfl)
  obtain ⟨o4, _, a4, U4, vc, e4, h4⟩ := opens_cases.field rfl rfl (hs 4 (by omega)) (hf 4 _ rfl)
  obtain ⟨_, _, a5, U5, e5, _⟩ := opens_bool.field rfl rfl (hs 5 (by omega)) (hf 5 _ rfl)
  simp at e0 e1 e2 e3 e4 e5 o4
  subst e0 e1 e2 e3 e4 e5
  exact ⟨rfl, (by intro y hy; simp at hy; rcases hy with rfl | rfl | rfl | rfl | rfl | rfl <;> first | rfl | assumption), ⟨a0, a1, a2, a3, a4, a5⟩, U4, v4, rfl, h4⟩
theorem opens_ops : Opens Tryd.prog 41 opsE 1 := opens_row Tryd.underlying41 (by kernel_rfl) opens_op
theorem opens_plan : Opens Tryd.prog 22 (rowE opsE 1) 1 := opens_row Tryd.underlying22 (by kernel_rfl) opens_ops
theorem opens_u8 : Opens Tryd.prog 5 (numE .u8) 1 := opens_num Tryd.underlying5 (by kernel_rfl)
theorem opens_bytes : Opens Tryd.prog 43 (rowE (numE .u8) 1) 1 := opens_row Tryd.underlying43 (by kernel_rfl) opens_u8

/-- a block of six cells -/
theorem Blk.six {w : World} {g : Nat} {a b c d e f : Value} {t : TypeId} (h : Blk w g [a, b, c, d, e, f] t) : (w.cell? ⟨g, 0, none⟩ = some a ∧ w.cell? ⟨g, 1, none⟩ = some b ∧ w.cell? ⟨g, 2, none⟩ = some c ∧ w.cell? ⟨g, 3, none⟩ = some d ∧ w.cell? ⟨g, 4, none⟩ = some e ∧ w.cell? ⟨g, 5, none⟩ = some f) ∧
    (w.frozen? ⟨g, 0, none⟩ = false ∧ w.frozen? ⟨g, 1, none⟩ = false ∧ w.frozen? ⟨g, 2, none⟩ = false ∧ w.frozen? ⟨g, 3, none⟩ = false ∧ w.frozen? ⟨g, 4, none⟩ = false ∧ w.frozen? ⟨g, 5, none⟩ = false) :=
  ⟨⟨h.cell 0, h.cell 1, h.cell 2, h.cell 3, h.cell 4, h.cell 5⟩, ⟨h.free 0, h.free 1, h.free 2, h.free 3, h.free 4, h.free 5⟩⟩
theorem Blk.three {w : World} {g : Nat} {a b c : Value} {t : TypeId} (h : Blk w g [a, b, c] t) : (w.cell? ⟨g, 0, none⟩ = some a ∧ w.cell? ⟨g, 1, none⟩ = some b ∧ w.cell? ⟨g, 2, none⟩ = some c) ∧ (w.frozen? ⟨g, 0, none⟩ = false ∧ w.frozen? ⟨g, 1, none⟩ = false ∧ w.frozen? ⟨g, 2, none⟩ = false) :=
  ⟨⟨h.cell 0, h.cell 1, h.cell 2⟩, ⟨h.free 0, h.free 1, h.free 2⟩⟩
theorem Blk.fresh (w : World) (cs : List Value) (e : TypeId) (b : Nat) (hb : b = w.heap.size) : Blk (w.alloc (.cells cs.toArray e)) b cs e := by subst hb; exact Blk.new w cs e
end Go.Proofs.YtgjpdogjekmemaaDoor
