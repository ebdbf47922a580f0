/-
  Texts PlanE PlanN PlanR PlanVa PlanV1 PlanVV PlanV9 PlanVC PlanV of this claim, put together: what they show stands at their heads.
  Conditions: none but those that each theorem states.
-/
import Derived.Test.YtbjnbngpjdoejaaDoorQ9
namespace Go.Proofs.YtbjnbngpjdoejaaDoor
open Go.RowKit Go.ChangeShapes Go.WideShapes Go.Deep
set_option linter.unusedVariables false
set_option linter.unusedSimpArgs false
set_option linter.unnecessarySimpa false

def caseE (w : World) (cs : List Value) (c : Pn.Cs) (U : List Nat) : Prop := cs = [.bool c.send, .int .i64 c.ch, .int .i64 c.v] ∧ U = []
def opE (w : World) (cs : List Value) (o : Pn.Op) (U : List Nat) : Prop :=
  ∃ vc, cs = [.int .i64 o.kind, .int .i64 o.ch, .int .i64 o.n, .int .i64 o.v, vc, .bool o.els] ∧ GV caseE 3 w vc o.cases U
theorem caseE_kept : Kept caseE := ⟨fun h _ _ => h, fun h x hx => by obtain ⟨_, rfl⟩ := h; simp at hx⟩
theorem opE_kept : Kept opE :=
  ⟨fun h k hn => by obtain ⟨vc, h1, h2⟩ := h; exact ⟨vc, h1, h2.keep caseE_kept k hn⟩, fun h => by obtain ⟨vc, h1, h2⟩ := h; exact h2.lt⟩
def opsE : World → List Value → List Pn.Op → List Nat → Prop := rowE opE 6
theorem opsE_kept : Kept opsE := rowE_kept opE_kept

section
variable {w : World} {ao : Option Addr} {m cap k : Nat} {S : List Nat}
theorem GV.case {l : List Pn.Cs} {c : Pn.Cs} (h : GV caseE 3 w (.slice ao m cap) l S) (hk : l[k]? = some c) :
    ∃ g off, ao = some ⟨g, off, none⟩ ∧ g ∈ S ∧ g < w.heap.size ∧ w.cell? ⟨g, off + k * 3, none⟩ = some (.bool c.send) ∧ w.cell? ⟨g, off + k * 3 + 1, none⟩ = some (.int .i64 c.ch) ∧ w.cell? ⟨g, off + k * 3 + 2, none⟩ = some (.int .i64 c.v) := by
  obtain ⟨g, off, cs, U, h1, h2, h3, h4, h5, ⟨rfl, _⟩, _⟩ := h.get hk
  exact ⟨g, off, h1, h2, h3, h5 0 (by omega), h5 1 (by omega), h5 2 (by omega)⟩
theorem GV.op {l : List Pn.Op} {o : Pn.Op} (h : GV opE 6 w (.slice ao m cap) l S) (hk : l[k]? = some o) :
    ∃ g off vc U, ao = some ⟨g, off, none⟩ ∧ g ∈ S ∧ g < w.heap.size ∧ (w.cell? ⟨g, off + k * 6, none⟩ = some (.int .i64 o.kind) ∧ w.cell? ⟨g, off + k * 6 + 1, none⟩ = some (.int .i64 o.ch) ∧ w.cell? ⟨g, off + k * 6 + 2, none⟩ = some (.int .i64 o.n) ∧
      w.cell? ⟨g, off + k * 6 + 3, none⟩ = some (.int .i64 o.v) ∧ w.cell? ⟨g, off + k * 6 + 4, none⟩ = some vc ∧ w.cell? ⟨g, off + k * 6 + 5, none⟩ = some (.bool o.els)) ∧ GV caseE 3 w vc o.cases U ∧ ∀ x ∈ U, x ∈ S := by
  obtain ⟨g, off, cs, U, h1, h2, h3, h4, h5, ⟨vc, rfl, h6⟩, h7⟩ := h.get hk
  exact ⟨g, off, vc, U, h1, h2, h3, ⟨h5 0 (by omega), h5 1 (by omega), h5 2 (by omega), h5 3 (by omega), h5 4 (by omega), h5 5 (by omega)⟩, h6, h7⟩
theorem GV.one {α : Type} {E : World → List Value → α → List Nat → Prop} {l : List α} {a : α} (h : GV E 1 w (.slice ao m cap) l S) (hk : l[k]? = some a) :
    ∃ g off v U, ao = some ⟨g, off, none⟩ ∧ g ∈ S ∧ g < w.heap.size ∧ w.cell? ⟨g, off + k, none⟩ = some v ∧ E w [v] a U ∧ ∀ x ∈ U, x ∈ S := by
  obtain ⟨g, off, cs, U, h1, h2, h3, h4, h5, h6, h7⟩ := h.get hk
  obtain ⟨v, rfl⟩ := list1 h4
  exact ⟨g, off, v, U, h1, h2, h3, by have := h5 0 (by omega); simpa using this, h6, h7⟩
theorem GV.num {q : IntKind} {l : List Int} (h : GV (numE q) 1 w (.slice ao m cap) l S) (hk : k < l.length) :
    ∃ g off, ao = some ⟨g, off, none⟩ ∧ g ∈ S ∧ g < w.heap.size ∧ w.cell? ⟨g, off + k, none⟩ = some (.int q (l.getD k 0)) := by
  obtain ⟨g, off, v, U, h1, h2, h3, h4, ⟨h5, _⟩, _⟩ := h.one (List.getElem?_eq_getElem hk)
  cases h5
  exact ⟨g, off, h1, h2, h3, by simpa [List.getD, hk] using h4⟩
theorem GV.wf {q : IntKind} {l : List Int} {v : Value} (h : GV (numE q) 1 w v l S) : ∀ x ∈ l, (Lit.int q x).wf = true := by
  intro x hx
  obtain ⟨k, hk, rfl⟩ := List.getElem_of_mem hx
  obtain ⟨ao, cap, rfl⟩ := h.shape
  obtain ⟨g, off, v, U, h1, h2, h3, h4, ⟨h5, h6, _⟩, _⟩ := h.one (List.getElem?_eq_getElem hk)
  exact h6
end

theorem opens_i64 : Opens Tryd.prog 3 (numE .i64) 1 := opens_num Tryd.underlying3 (by kernel_rfl)
theorem opens_int64 : Opens Tryd.prog 2 (numE .i64) 1 := opens_num Tryd.underlying2 (by kernel_rfl)
theorem opens_bool : Opens Tryd.prog 4 bitE 1 := opens_bit Tryd.underlying4 (by kernel_rfl)
theorem opens_case : Opens Tryd.prog 33 caseE 3 := by
  refine ⟨by omega, caseE_kept, by kernel_rfl, ?_⟩
  intro H enc W fuel cs x h
  obtain ⟨xs, n, _, _, hl, hxl, hf⟩ := DataW.trod_struct Tryd.underlying33 h
  have hl3 : cs.length = 3 := hl.trans (by kernel_rfl)
  obtain ⟨v0, v1, v2, rfl⟩ := list3 hl3
  have hx3 : xs.length = 3 := hxl.trans (by kernel_rfl)
  have hs : ∀ i, i < 3 → (xs[i]?).isSome = true := fun i hi => by simp [hx3, hi]
  obtain ⟨_, _, a0, U0, e0, _⟩ := opens_bool.field rfl rfl (hs 0 (by omega)) (hf 0 _ rfl)
  obtain ⟨_, _, a1, U1, e1, _⟩ := opens_i64.field rfl rfl (hs 1 (by omega)) (hf 1 _ rfl)
  obtain ⟨_, _, a2, U2, e2, _⟩ := opens_int64.field rfl rfl (hs 2 (by omega)) (hf 2 _ rfl)
  simp at e0 e1 e2
  subst e0 e1 e2
  exact ⟨rfl, (by intro y hy; simp at hy; rcases hy with rfl | rfl | rfl <;> rfl), ⟨a0, a1, a2⟩, [], rfl, rfl⟩
theorem opens_cases : Opens Tryd.prog 34 (rowE caseE 3) 1 := opens_row Tryd.underlying34 (by kernel_rfl) opens_case
theorem opens_op : Opens Tryd.prog 36 opE 6 := by
  refine ⟨by omega, opE_kept, by kernel_rfl, ?_⟩
  intro H enc W fuel cs x h
  obtain ⟨xs, n, _, _, hl, hxl, hf⟩ := DataW.trod_struct Tryd.underlying36 h
  have hl6 : cs.length = 6 := hl.trans (by kernel_rfl)
  obtain ⟨v0, v1, v2, v3, v4, v5, rfl⟩ := list6 hl6
  have hx6 : xs.length = 6 := hxl.trans (by kernel_rfl)
  have hs : ∀ i, i < 6 → (xs[i]?).isSome = true := fun i hi => by simp [hx6, hi]
  obtain ⟨_, _, a0, U0, e0, _⟩ := opens_i64.field rfl rfl (hs 0 (by omega)) (hf 0 _ rfl)
  obtain ⟨_, _, a1, U1, e1, _⟩ := opens_i64.field rfl rfl (hs 1 (by omega)) (hf 1 _ rfl)
  obtain ⟨_, _, a2, U2, e2, _⟩ := opens_i64.field rfl rfl (hs 2 (by omega)) (hf 2 _ rfl)
  obtain ⟨_, _, a3, U3, e3, _⟩ := opens_int64.field rfl rfl (hs 3 (by omega)) (hf 3 _ rfl)
  obtain ⟨o4, _, a4, U4, vc, e4, h4⟩ := opens_cases.field rfl rfl (hs 4 (by omega)) (hf 4 _ rfl)
  obtain ⟨_, _, a5, U5, e5, _⟩ := opens_bool.field rfl rfl (hs 5 (by omega)) (hf 5 _ rfl)
  simp at e0 e1 e2 e3 e4 e5 o4
  subst e0 e1 e2 e3 e4 e5
  exact ⟨rfl, (by intro y hy; simp at hy; rcases hy with rfl | rfl | rfl | rfl | rfl | rfl <;> first | rfl | assumption), ⟨a0, a1, a2, a3, a4, a5⟩, U4, v4, rfl, h4⟩
theorem opens_ops : Opens Tryd.prog 43 opsE 1 := opens_row Tryd.underlying43 (by kernel_rfl) opens_op
theorem opens_plan : Opens Tryd.prog 23 (rowE opsE 1) 1 := opens_row Tryd.underlying23 (by kernel_rfl) opens_ops
theorem opens_u8 : Opens Tryd.prog 5 (numE .u8) 1 := opens_num Tryd.underlying5 (by kernel_rfl)
theorem opens_bytes : Opens Tryd.prog 51 (rowE (numE .u8) 1) 1 := opens_row Tryd.underlying51 (by kernel_rfl) opens_u8

theorem Blk.six {w : World} {g : Nat} {a b c d e f : Value} {t : TypeId} (h : Blk w g [a, b, c, d, e, f] t) : (w.cell? ⟨g, 0, none⟩ = some a ∧ w.cell? ⟨g, 1, none⟩ = some b ∧ w.cell? ⟨g, 2, none⟩ = some c ∧ w.cell? ⟨g, 3, none⟩ = some d ∧ w.cell? ⟨g, 4, none⟩ = some e ∧ w.cell? ⟨g, 5, none⟩ = some f) ∧
    (w.frozen? ⟨g, 0, none⟩ = false ∧ w.frozen? ⟨g, 1, none⟩ = false ∧ w.frozen? ⟨g, 2, none⟩ = false ∧ w.frozen? ⟨g, 3, none⟩ = false ∧ w.frozen? ⟨g, 4, none⟩ = false ∧ w.frozen? ⟨g, 5, none⟩ = false) :=
  ⟨⟨h.cell 0, h.cell 1, h.cell 2, h.cell 3, h.cell 4, h.cell 5⟩, ⟨h.free 0, h.free 1, h.free 2, h.free 3, h.free 4, h.free 5⟩⟩
theorem Blk.three {w : World} {g : Nat} {a b c : Value} {t : TypeId} (h : Blk w g [a, b, c] t) : (w.cell? ⟨g, 0, none⟩ = some a ∧ w.cell? ⟨g, 1, none⟩ = some b ∧ w.cell? ⟨g, 2, none⟩ = some c) ∧ (w.frozen? ⟨g, 0, none⟩ = false ∧ w.frozen? ⟨g, 1, none⟩ = false ∧ w.frozen? ⟨g, 2, none⟩ = false) :=
  ⟨⟨h.cell 0, h.cell 1, h.cell 2⟩, ⟨h.free 0, h.free 1, h.free 2⟩⟩
theorem Blk.fresh (w : World) (cs : List Value) (e : TypeId) (b : Nat) (hb : b = w.heap.size) : Blk (w.alloc (.cells cs.toArray e)) b cs e := by subst hb; exact Blk.new w cs e
end Go.Proofs.YtbjnbngpjdoejaaDoor
namespace Go.Proofs.YtbjnbngpjdoejaaDoor
open Go.RowKit
set_option linter.unusedVariables false
set_option linter.unusedSimpArgs false
set_option linter.unnecessarySimpa false

theorem plan_hasCh (w : World) (k : Int) : Calls Tryd.prog 40 #[.int .i64 k] w fun e w' => e = .returned (.bool (Pn.hasCh k)) ∧ w = w' := by
  go_enter Tryd.func40, Tryd.ntmps40
  go_wp2_with fail
  all_goals
    go_ret
    exact ⟨ret_bool (by simp [Pn.hasCh, *] <;> omega), rfl⟩
theorem plan_hasV (w : World) (k : Int) : Calls Tryd.prog 41 #[.int .i64 k] w fun e w' => e = .returned (.bool (Pn.hasV k)) ∧ w = w' := by
  go_enter Tryd.func41, Tryd.ntmps41
  go_wp2_with fail
  all_goals
    go_ret
    exact ⟨ret_bool (by simp [Pn.hasV, *]), rfl⟩
theorem ref10_hasCh (w : World) (k : Int) : Calls Tryd.prog 37 #[.int .i64 k] w fun e w' => e = .returned (.bool (Pn.hasCh k)) ∧ w = w' := by
  go_enter Tryd.func37, Tryd.ntmps37
  go_wp2_with fail
  all_goals
    go_ret
    exact ⟨ret_bool (by simp [Pn.hasCh, *] <;> omega), rfl⟩
theorem ref10_hasV (w : World) (k : Int) : Calls Tryd.prog 34 #[.int .i64 k] w fun e w' => e = .returned (.bool (Pn.hasV k)) ∧ w = w' := by
  go_enter Tryd.func34, Tryd.ntmps34
  go_wp2_with fail
  all_goals
    go_ret
    exact ⟨ret_bool (by simp [Pn.hasV, *]), rfl⟩
def Pn.within (has : Bool) (n most : Int) : Bool := if has then decide (0 ≤ n) && decide (n ≤ most) else n == 0
theorem plan_within (w : World) (b : Bool) (n most : Int) : Calls Tryd.prog 39 #[.bool b, .int .i64 n, .int .i64 most] w fun e w' => e = .returned (.bool (Pn.within b n most)) ∧ w = w' := by
  cases b with
  | true =>
    go_enter Tryd.func39, Tryd.ntmps39
    go_wp2_with fail
    all_goals
      go_ret
      exact ⟨ret_bool (by simp [Pn.within, *] <;> omega), rfl⟩
  | false =>
    go_enter Tryd.func39, Tryd.ntmps39
    go_wp2_with fail
    all_goals
      go_ret
      exact ⟨ret_bool (by simp [Pn.within, *] <;> omega), rfl⟩

theorem Pn.byte_get {l : List Int} {i : Nat} (h : i < l.length) : l.getD i 0 = Pn.byte l i := rfl
theorem Pn.byte_out {l : List Int} {i : Nat} (h : l.length ≤ i) : Pn.byte l i = 0 := by simp [Pn.byte, List.getD, List.getElem?_eq_none h]

def Src (B : Nat) (w : World) (bu bb : Nat) (l : List Int) (i : Nat) : Prop :=
  Blk w bu [.int .i64 ((min i l.length : Nat) : Int)] 3 ∧ (∃ v S, Blk w bb [v] 51 ∧ GV (numE .u8) 1 w v l S ∧ bu ∉ S ∧ ∀ x ∈ S, x < B) ∧ bu ≠ bb ∧ bu < B ∧ bb < B
theorem Src.keep {B : Nat} {w w' : World} {bu bb : Nat} {l : List Int} {i : Nat} {T : List Nat} (h : Src B w bu bb l i) (k : Keeps T w w') (hT : ∀ x ∈ T, B ≤ x) : Src B w' bu bb l i := by
  obtain ⟨h1, ⟨v, S, h2, h3, h4, h5⟩, h6, h7, h8⟩ := h
  exact ⟨h1.keep k (fun hm => by have := hT _ hm; omega), ⟨v, S, h2.keep k (fun hm => by have := hT _ hm; omega), h3.keep (numE_kept _) k (fun x hx hm => by have := hT _ hm; have := h5 x hx; omega), h4, h5⟩, h6, h7, h8⟩
theorem Src.range {B : Nat} {w : World} {bu bb : Nat} {l : List Int} {i : Nat} (h : Src B w bu bb l i) : ∀ x ∈ l, 0 ≤ x ∧ x ≤ 255 := by
  obtain ⟨h1, ⟨v, S, h2, h3, h4, h5⟩, h6, h7, h8⟩ := h
  exact fun x hx => wf8 (h3.wf x hx)

def NextPost (B : Nat) (bu bb : Nat) (l : List Int) (i : Nat) (w : World) (e : Ending) (w' : World) : Prop :=
  e = .returned (.int .i64 (Pn.byte l i)) ∧ Src B w' bu bb l (i + 1) ∧ Keeps [bu] w w'
end Go.Proofs.YtbjnbngpjdoejaaDoor
namespace Go.Proofs.YtbjnbngpjdoejaaDoor
open Go.RowKit
set_option linter.unusedVariables false
set_option linter.unusedSimpArgs false
set_option linter.unnecessarySimpa false

namespace Pn
def okCs (c : Cs) : Bool := within true c.ch 8 && within c.send c.v 255
theorem okCs_right (c : Cs) : okCs c = rightCs c := by
  obtain ⟨s, ch, v⟩ := c
  unfold okCs rightCs within
  rw [Bool.eq_iff_iff]
  cases s <;> simp <;> omega
theorem right_kind {o : Op} (h : o.kind < 1 ∨ 9 < o.kind) : rightOp o = false := by
  unfold rightOp; rw [decide_eq_false_iff_not]; rintro ⟨h1, h2, _⟩; omega
theorem right_ch {o : Op} (h : within (hasCh o.kind) o.ch 8 = false) : rightOp o = false := by
  unfold rightOp; rw [decide_eq_false_iff_not]; rintro ⟨h1, h2, h3, h4, h5, h6, h7, h8, h9, h10, h11, h12, h13, h14⟩
  unfold within at h
  split at h
  · simp at h; omega
  · rename_i hc; simp at h; exact h (h10 (by simpa using hc))
theorem right_v {o : Op} (h : within (hasV o.kind) o.v 255 = false) : rightOp o = false := by
  unfold rightOp; rw [decide_eq_false_iff_not]; rintro ⟨h1, h2, h3, h4, h5, h6, h7, h8, h9, h10, h11, h12, h13, h14⟩
  unfold within at h
  split at h
  · simp at h; omega
  · rename_i hc; simp at h; exact h (h11 (by simpa using hc))
theorem right_n {o : Op} (h : within (o.kind == 1) o.n 4 = false) : rightOp o = false := by
  unfold rightOp; rw [decide_eq_false_iff_not]; rintro ⟨h1, h2, h3, h4, h5, h6, h7, h8, h9, h10, h11, h12, h13, h14⟩
  unfold within at h
  split at h
  · simp at h; omega
  · rename_i hc; simp at h; exact h (h12 (by simpa using hc))
theorem within_ch {o : Op} (h : within (hasCh o.kind) o.ch 8 = true) : 0 ≤ o.ch ∧ o.ch ≤ 8 ∧ (hasCh o.kind = false → o.ch = 0) := by
  unfold within at h
  split at h
  · rename_i hc; simp at h; exact ⟨h.1, h.2, fun e => by rw [e] at hc; cases hc⟩
  · simp at h; rw [h]; exact ⟨by omega, by omega, fun _ => rfl⟩
theorem within_v {o : Op} (h : within (hasV o.kind) o.v 255 = true) : 0 ≤ o.v ∧ o.v ≤ 255 ∧ (hasV o.kind = false → o.v = 0) := by
  unfold within at h
  split at h
  · rename_i hc; simp at h; exact ⟨h.1, h.2, fun e => by rw [e] at hc; cases hc⟩
  · simp at h; rw [h]; exact ⟨by omega, by omega, fun _ => rfl⟩
theorem within_n {o : Op} (h : within (o.kind == 1) o.n 4 = true) : 0 ≤ o.n ∧ o.n ≤ 4 ∧ (o.kind ≠ 1 → o.n = 0) := by
  unfold within at h
  split at h
  · rename_i hc; simp at h; exact ⟨h.1, h.2, fun e => by simp at hc; exact absurd hc e⟩
  · simp at h; rw [h]; exact ⟨by omega, by omega, fun _ => rfl⟩
theorem right_plain {o : Op} (h1 : 1 ≤ o.kind) (h2 : o.kind ≤ 9) (h3 : within (hasCh o.kind) o.ch 8 = true) (h4 : within (hasV o.kind) o.v 255 = true) (h5 : within (o.kind == 1) o.n 4 = true) (h6 : o.kind ≠ 9) : rightOp o = (decide (o.cases.length = 0) && !o.els) := by
  obtain ⟨a1, a2, a3⟩ := within_ch h3
  obtain ⟨b1, b2, b3⟩ := within_v h4
  obtain ⟨c1, c2, c3⟩ := within_n h5
  rw [Bool.eq_iff_iff]
  unfold rightOp
  simp only [decide_eq_true_eq, Bool.and_eq_true, Bool.not_eq_true', List.length_eq_zero_iff]
  constructor
  · rintro ⟨_, _, _, _, _, _, _, _, _, _, _, _, h, _⟩; exact h h6
  · rintro ⟨h7, h8⟩
    refine ⟨h1, h2, a1, a2, c1, c2, b1, b2, by rw [h7]; simp, a3, b3, c3, fun _ => ⟨h7, h8⟩, by rw [h7]; simp⟩
theorem right_many {o : Op} (h : 6 < o.cases.length) : rightOp o = false := by
  unfold rightOp; rw [decide_eq_false_iff_not]; rintro ⟨h1, h2, h3, h4, h5, h6, h7, h8, h9, h10⟩; omega
theorem right_sel {o : Op} (h3 : within (hasCh o.kind) o.ch 8 = true) (h4 : within (hasV o.kind) o.v 255 = true) (h5 : within (o.kind == 1) o.n 4 = true) (h6 : o.kind = 9) (h7 : o.cases.length ≤ 6) (h8 : ∀ (j : Nat) (c : Cs), o.cases[j]? = some c → okCs c = true) : rightOp o = true := by
  obtain ⟨a1, a2, a3⟩ := within_ch h3
  obtain ⟨b1, b2, b3⟩ := within_v h4
  obtain ⟨c1, c2, c3⟩ := within_n h5
  unfold rightOp
  rw [decide_eq_true_iff]
  refine ⟨by omega, by omega, a1, a2, c1, c2, b1, b2, h7, a3, b3, c3, fun h => absurd h6 h, fun c hc => ?_⟩
  obtain ⟨j, hj, rfl⟩ := List.getElem_of_mem hc
  rw [← okCs_right]; exact h8 j _ (List.getElem?_eq_getElem hj)
theorem right_case {o : Op} {j : Nat} {c : Cs} (h : o.cases[j]? = some c) (hc : okCs c = false) : rightOp o = false := by
  unfold rightOp; rw [decide_eq_false_iff_not]; rintro ⟨h1, h2, h3, h4, h5, h6, h7, h8, h9, h10, h11, h12, h13, h14⟩
  have := h14 c (List.mem_of_getElem? h)
  rw [← okCs_right, hc] at this; cases this
end Pn

set_option maxHeartbeats 3200000 in
theorem plan_rightOp (w : World) (o : Pn.Op) (va : Value) (SA : List Nat) (ha : GV caseE 3 w va o.cases SA) :
    Calls Tryd.prog 23 #[.agg #[.int .i64 o.kind, .int .i64 o.ch, .int .i64 o.n, .int .i64 o.v, va, .bool o.els]] w fun e w' => e = .returned (.bool (Pn.rightOp o)) ∧ Keeps [] w w' := by
  have hla := ha.le
  unfold maxLen at hla
  obtain ⟨ao, cap, rfl⟩ := ha.shape
  have HA := Lib.hid ha
  obtain ⟨q, hq0⟩ : ∃ q, Pn.rightOp o = q := ⟨_, rfl⟩
  rw [hq0]
  have HQ := Lib.hid hq0
  have KA : Hid (Keeps [] w (w.alloc (.cells #[.int .i64 o.kind, .int .i64 o.ch, .int .i64 o.n, .int .i64 o.v, .slice ao o.cases.length cap, .bool o.els] 36))) := Lib.hid ((Keeps.refl [] w).alloc _)
  clear ha hq0
  by_cases hk : o.kind < 1 ∨ 9 < o.kind
  · have HN : Hid (false = q) := Lib.hid (by rw [← HQ.out, Pn.right_kind hk])
    rcases hk with hk | hk
    · have hk9 : o.kind ≤ 9 := by omega
      go_enter Tryd.func23, Tryd.ntmps23
      go_wp2_with fail
      go_ret
      exact ⟨ret_bool HN.out, KA.out⟩
    · have hk1 : 1 ≤ o.kind := by omega
      go_enter Tryd.func23, Tryd.ntmps23
      go_wp2_with fail
      go_ret
      exact ⟨ret_bool HN.out, KA.out⟩
  have hk1 : 1 ≤ o.kind := by omega
  have hk9 : o.kind ≤ 9 := by omega
  clear hk
  cases hw1 : Pn.within (Pn.hasCh o.kind) o.ch 8 with
  | false =>
    have HN : Hid (false = q) := Lib.hid (by rw [← HQ.out, Pn.right_ch hw1])
    go_enter Tryd.func23, Tryd.ntmps23
    go_wp2_with fail
    go_quiet ((first | (go_at_call 40; exact quiet_own (plan_hasCh _ _)) | (go_at_call 41; exact quiet_own (plan_hasV _ _)) | (go_at_call 39; exact quiet_own (plan_within _ _ _ _))))
    go_wp2_with fail
    go_ret
    exact ⟨ret_bool HN.out, KA.out.drewN _⟩
  | true =>
    cases hw2 : Pn.within (Pn.hasV o.kind) o.v 255 with
    | false =>
      have HN : Hid (false = q) := Lib.hid (by rw [← HQ.out, Pn.right_v hw2])
      go_enter Tryd.func23, Tryd.ntmps23
      go_wp2_with fail
      go_quiet ((first | (go_at_call 40; exact quiet_own (plan_hasCh _ _)) | (go_at_call 41; exact quiet_own (plan_hasV _ _)) | (go_at_call 39; exact quiet_own (plan_within _ _ _ _))))
      go_wp2_with fail
      go_ret
      exact ⟨ret_bool HN.out, KA.out.drewN _⟩
    | true =>
      cases hw3 : Pn.within (o.kind == 1) o.n 4 with
      | false =>
        have HN : Hid (false = q) := Lib.hid (by rw [← HQ.out, Pn.right_n hw3])
        go_enter Tryd.func23, Tryd.ntmps23
        go_wp2_with fail
        go_quiet ((first | (go_at_call 40; exact quiet_own (plan_hasCh _ _)) | (go_at_call 41; exact quiet_own (plan_hasV _ _)) | (go_at_call 39; exact quiet_own (plan_within _ _ _ _))))
        go_wp2_with fail
        refine (plan_within _ _ _ _).mono ?_
        rintro e w3 ⟨rfl, rfl⟩
        rw [hw3]
        go_wp2_with fail
        go_ret
        exact ⟨ret_bool HN.out, KA.out.drewN _⟩
      | true =>
        by_cases h9 : o.kind = 9
        · have h9' : (o.kind != 9) = false := by simp [h9]
          by_cases h6 : 6 < o.cases.length
          · have HN : Hid (false = q) := Lib.hid (by rw [← HQ.out, Pn.right_many h6])
            clear h9
            go_enter Tryd.func23, Tryd.ntmps23
            go_wp2_with fail
            go_quiet ((first | (go_at_call 40; exact quiet_own (plan_hasCh _ _)) | (go_at_call 41; exact quiet_own (plan_hasV _ _)) | (go_at_call 39; exact quiet_own (plan_within _ _ _ _))))
            go_wp2_with fail
            refine (plan_within _ _ _ _).mono ?_
            rintro e w3 ⟨rfl, rfl⟩
            rw [hw3]
            go_wp2_with fail
            go_ret
            exact ⟨ret_bool HN.out, KA.out.drewN _⟩
          · have h6' : o.cases.length ≤ 6 := by omega
            have HS : Hid ((∀ (j : Nat) (c : Pn.Cs), o.cases[j]? = some c → Pn.okCs c = true) → true = q) := Lib.hid (fun h => by rw [← HQ.out, Pn.right_sel hw1 hw2 hw3 h9 h6' h])
            clear h9 h6
            go_enter Tryd.func23, Tryd.ntmps23
            go_wp2_with fail
            go_quiet ((first | (go_at_call 40; exact quiet_own (plan_hasCh _ _)) | (go_at_call 41; exact quiet_own (plan_hasV _ _)) | (go_at_call 39; exact quiet_own (plan_within _ _ _ _))))
            go_wp2_with fail
            refine (plan_within _ _ _ _).mono ?_
            rintro e w3 ⟨rfl, rfl⟩
            rw [hw3]
            go_wp2_with fail
            clear hw1 hw2 hw3 h9'
            go_loopw [59] (fun u wr => ∃ k : Nat, k ≤ o.cases.length ∧ u = .int .i64 k ∧ Hid (Keeps [] w wr ∧ ∀ (j : Nat) (c : Pn.Cs), j < k → o.cases[j]? = some c → Pn.okCs c = true)) (fun u _ => o.cases.length - (intOf u).toNat)
            case atStart => exact ⟨0, Nat.zero_le _, rfl, Lib.hid ⟨KA.out.drewN _, fun j c hj => by omega⟩⟩
            case round =>
              obtain ⟨k, hk, rfl, HI⟩ := hrel
              obtain ⟨wo, rfl⟩ : ∃ wo : World, wo = wr := ⟨_, rfl⟩
              by_cases hlt : k < o.cases.length
              · obtain ⟨x, hx⟩ : ∃ x, o.cases[k]? = some x := ⟨_, List.getElem?_eq_getElem hlt⟩
                obtain ⟨g1, off1, rfl, _, hg1, a0, a1, a2⟩ := (HA.out.then caseE_kept HI.out.1).case hx
                have HX := Lib.hid hx
                have KR : Hid (Keeps [] w (wo.alloc (.cells #[.bool x.send, .int .i64 x.ch, .int .i64 x.v] 33))) := Lib.hid (HI.out.1.alloc _)
                clear hx
                cases hv1 : Pn.within true x.ch 8 with
                | false =>
                  have HN : Hid (false = q) := Lib.hid (by rw [← HQ.out, Pn.right_case HX.out (by unfold Pn.okCs; rw [hv1]; rfl)])
                  go_wp2_with fail
                  refine (plan_within _ _ _ _).mono ?_
                  rintro e w4 ⟨rfl, rfl⟩
                  rw [hv1]
                  go_wp2_with fail
                  go_ret
                  exact ⟨ret_bool HN.out, KR.out⟩
                | true =>
                  cases hv2 : Pn.within x.send x.v 255 with
                  | false =>
                    have HN : Hid (false = q) := Lib.hid (by rw [← HQ.out, Pn.right_case HX.out (by unfold Pn.okCs; rw [hv1, hv2]; rfl)])
                    go_wp2_with fail
                    refine (plan_within _ _ _ _).mono ?_
                    rintro e w4 ⟨rfl, rfl⟩
                    rw [hv1]
                    go_wp2_with fail
                    refine (plan_within _ _ _ _).mono ?_
                    rintro e w4 ⟨rfl, rfl⟩
                    rw [hv2]
                    go_wp2_with fail
                    go_ret
                    exact ⟨ret_bool HN.out, KR.out⟩
                  | true =>
                    have HO : Hid (Pn.okCs x = true) := Lib.hid (by unfold Pn.okCs; rw [hv1, hv2]; rfl)
                    go_wp2_with fail
                    refine (plan_within _ _ _ _).mono ?_
                    rintro e w4 ⟨rfl, rfl⟩
                    rw [hv1]
                    go_wp2_with fail
                    refine (plan_within _ _ _ _).mono ?_
                    rintro e w4 ⟨rfl, rfl⟩
                    rw [hv2]
                    go_wp2_with fail
                    go_roundw
                    case rel => exact ⟨k + 1, by omega, by go_num, Lib.hid ⟨KR.out, fun j c hj hc => by
                      by_cases e : j = k
                      · subst e; rw [HX.out] at hc; cases hc; exact HO.out
                      · exact HI.out.2 j c (by omega) hc⟩⟩
                    case measure => simp [intOf]; omega
              · obtain rfl : k = o.cases.length := by omega
                have HN : Hid (true = q) := Lib.hid (HS.out fun j c hc => HI.out.2 j c (List.getElem?_eq_some_iff.1 hc).1 hc)
                go_wp2_with fail
                go_ret
                exact ⟨ret_bool HN.out, HI.out.1⟩
        · have h9' : (o.kind != 9) = true := by simp [h9]
          have HP := Lib.hid (Pn.right_plain hk1 hk9 hw1 hw2 hw3 h9)
          clear h9
          cases hl : decide (o.cases.length = 0) with
          | false =>
            have HN : Hid (false = q) := Lib.hid (by rw [← HQ.out, HP.out, hl]; rfl)
            have hl' : ((o.cases.length : Int) == 0) = false := by simpa using hl
            clear hl
            go_enter Tryd.func23, Tryd.ntmps23
            go_wp2_with fail
            go_quiet ((first | (go_at_call 40; exact quiet_own (plan_hasCh _ _)) | (go_at_call 41; exact quiet_own (plan_hasV _ _)) | (go_at_call 39; exact quiet_own (plan_within _ _ _ _))))
            go_wp2_with fail
            refine (plan_within _ _ _ _).mono ?_
            rintro e w3 ⟨rfl, rfl⟩
            rw [hw3]
            go_wp2_with fail
            all_goals
              go_ret
              exact ⟨ret_bool HN.out, KA.out.drewN _⟩
          | true =>
            have HN : Hid ((!o.els) = q) := Lib.hid (by rw [← HQ.out, HP.out, hl]; rfl)
            have hl' : ((o.cases.length : Int) == 0) = true := by simpa using hl
            clear hl
            go_enter Tryd.func23, Tryd.ntmps23
            go_wp2_with fail
            go_quiet ((first | (go_at_call 40; exact quiet_own (plan_hasCh _ _)) | (go_at_call 41; exact quiet_own (plan_hasV _ _)) | (go_at_call 39; exact quiet_own (plan_within _ _ _ _))))
            go_wp2_with fail
            refine (plan_within _ _ _ _).mono ?_
            rintro e w3 ⟨rfl, rfl⟩
            rw [hw3]
            go_wp2_with fail
            all_goals
              go_ret
              exact ⟨ret_bool HN.out, KA.out.drewN _⟩
end Go.Proofs.YtbjnbngpjdoejaaDoor
namespace Go.Proofs.YtbjnbngpjdoejaaDoor
open Go.RowKit
set_option linter.unusedVariables false
set_option linter.unusedSimpArgs false
set_option linter.unnecessarySimpa false
namespace Pn
theorem ref_case {o : Op} {j : Nat} {c : Cs} (h : o.cases[j]? = some c) (hc : rightCs c = false) : rightOp o = false := right_case h (by rw [okCs_right]; exact hc)
end Pn

set_option maxRecDepth 100000 in
set_option maxHeartbeats 3200000 in
theorem ref10_rightOp_no (w : World) (o : Pn.Op) (va : Value) (SA : List Nat) (ha : GV caseE 3 w va o.cases SA) (hb : ¬ (1 ≤ o.kind ∧ o.kind ≤ 9 ∧ 0 ≤ o.ch ∧ o.ch ≤ 8 ∧ 0 ≤ o.n ∧ o.n ≤ 4 ∧ 0 ≤ o.v ∧ o.v ≤ 255 ∧ o.cases.length ≤ 6)) :
    Calls Tryd.prog 19 #[.agg #[.int .i64 o.kind, .int .i64 o.ch, .int .i64 o.n, .int .i64 o.v, va, .bool o.els]] w fun e w' => e = .returned (.bool (Pn.rightOp o)) ∧ Keeps [] w w' := by
  have hla := ha.le
  unfold maxLen at hla
  obtain ⟨ao, cap, rfl⟩ := ha.shape
  have HA := Lib.hid ha
  obtain ⟨q, hq0⟩ : ∃ q, Pn.rightOp o = q := ⟨_, rfl⟩
  rw [hq0]
  have HQ := Lib.hid hq0
  have KA : Hid (Keeps [] w (w.alloc (.cells #[.int .i64 o.kind, .int .i64 o.ch, .int .i64 o.n, .int .i64 o.v, .slice ao o.cases.length cap, .bool o.els] 36))) := Lib.hid ((Keeps.refl [] w).alloc _)
  clear ha hq0
  have HN : Hid (false = q) := Lib.hid (by
    rw [← HQ.out, eq_comm]; unfold Pn.rightOp; rw [decide_eq_false_iff_not]; rintro ⟨h1, h2, h3, h4, h5, h6, h7, h8, h9, _⟩; exact hb ⟨h1, h2, h3, h4, h5, h6, h7, h8, h9⟩)
  have HB := Lib.hid hb
  clear hb
  go_enter Tryd.func19, Tryd.ntmps19
  go_upto_if 48 with fail
  all_goals
    go_wp2_with fail
    all_goals
      first
        | (exfalso; have h := HB.out; omega)
        | (go_ret; exact ⟨ret_bool HN.out, (Keeps.refl [] w).alloc _⟩)
end Go.Proofs.YtbjnbngpjdoejaaDoor
namespace Go.Proofs.YtbjnbngpjdoejaaDoor
open Go.RowKit
set_option linter.unusedVariables false
set_option linter.unusedSimpArgs false
set_option linter.unnecessarySimpa false
namespace Pn
theorem ref_case1 {o : Op} {j : Nat} {c : Cs} (h : o.cases[j]? = some c) (hc : rightCs c = false) : rightOp o = false := right_case h (by rw [okCs_right]; exact hc)
end Pn

set_option maxRecDepth 100000 in
set_option maxHeartbeats 3200000 in
theorem ref10_rightOp_1 (w : World) (o : Pn.Op) (va : Value) (SA : List Nat) (ha : GV caseE 3 w va o.cases SA) (hb : 1 ≤ o.kind ∧ o.kind ≤ 9 ∧ 0 ≤ o.ch ∧ o.ch ≤ 8 ∧ 0 ≤ o.n ∧ o.n ≤ 4 ∧ 0 ≤ o.v ∧ o.v ≤ 255 ∧ o.cases.length ≤ 6) (hk : o.kind = 1) :
    Calls Tryd.prog 19 #[.agg #[.int .i64 o.kind, .int .i64 o.ch, .int .i64 o.n, .int .i64 o.v, va, .bool o.els]] w fun e w' => e = .returned (.bool (Pn.rightOp o)) ∧ Keeps [] w w' := by
  have hla := ha.le
  unfold maxLen at hla
  obtain ⟨ao, cap, rfl⟩ := ha.shape
  have HA := Lib.hid ha
  obtain ⟨q, hq0⟩ : ∃ q, Pn.rightOp o = q := ⟨_, rfl⟩
  rw [hq0]
  have HQ := Lib.hid hq0
  have KA : Hid (Keeps [] w (w.alloc (.cells #[.int .i64 o.kind, .int .i64 o.ch, .int .i64 o.n, .int .i64 o.v, .slice ao o.cases.length cap, .bool o.els] 36))) := Lib.hid ((Keeps.refl [] w).alloc _)
  clear ha hq0
  obtain ⟨b1, b2, b3, b4, b5, b6, b7, b8, b9⟩ := hb
  obtain ⟨k, ch, n, v, cs, els⟩ := o
  simp only at *
  have HS : Hid ((Pn.hasCh k = false → ch = 0) → (Pn.hasV k = false → v = 0) → (k ≠ 1 → n = 0) → (k ≠ 9 → cs = [] ∧ els = false) → (∀ (j : Nat) (c : Pn.Cs), cs[j]? = some c → Pn.rightCs c = true) → true = q) := Lib.hid (fun d1 d2 d3 d4 h => by
    rw [← HQ.out, eq_comm]; unfold Pn.rightOp; rw [decide_eq_true_iff]
    refine ⟨b1, b2, b3, b4, b5, b6, b7, b8, b9, d1, d2, d3, d4, fun c hc => ?_⟩
    obtain ⟨j, hj, rfl⟩ := List.getElem_of_mem hc
    exact h j _ (List.getElem?_eq_getElem hj))
  have HF : Hid (¬ ((Pn.hasCh k = false → ch = 0) ∧ (Pn.hasV k = false → v = 0) ∧ (k ≠ 1 → n = 0) ∧ (k ≠ 9 → cs = [] ∧ els = false)) → false = q) := Lib.hid (fun hn => by
    rw [← HQ.out, eq_comm]; unfold Pn.rightOp; rw [decide_eq_false_iff_not]; rintro ⟨h1, h2, h3, h4, h5, h6, h7, h8, h9, h10, h11, h12, h13, _⟩; exact hn ⟨h10, h11, h12, h13⟩)
  subst hk
  have HCV : Hid (Pn.hasCh 1 = false ∧ Pn.hasV 1 = false) := Lib.hid (by constructor <;> simp [Pn.hasCh, Pn.hasV] <;> omega)
  by_cases hcl : ch = 0 ∧ v = 0 ∧ els = false ∧ cs.length = 0
  · obtain ⟨e0, e1, e2, e3⟩ := hcl
    subst e0 e1 e2
    have e9 : cs.length ≤ 0 := by omega
    have HS2 := Lib.hid (HS.out (fun _ => rfl) (fun _ => rfl) (fun h => absurd rfl h) (fun _ => ⟨List.eq_nil_of_length_eq_zero (by omega), rfl⟩))
    clear HS HF
    try clear e3
    try clear e2
    go_enter Tryd.func19, Tryd.ntmps19
    go_wp2_with fail
    refine (ref10_hasCh _ _).mono ?_
    rintro e w3 ⟨rfl, rfl⟩
    rw [HCV.out.1]
    go_wp2_with (go_at_call 34; refine (ref10_hasV _ _).mono ?_; rintro e w4 ⟨rfl, rfl⟩; rw [HCV.out.2])
    go_loopw [97] (fun u wr => ∃ j : Nat, j ≤ cs.length ∧ u = .int .i64 j ∧ Hid (Keeps [] w wr ∧ ∀ (i : Nat) (c : Pn.Cs), i < j → cs[i]? = some c → Pn.rightCs c = true)) (fun u _ => cs.length - (intOf u).toNat)
    case atStart => exact ⟨0, Nat.zero_le _, rfl, Lib.hid ⟨KA.out, fun i c hi => by omega⟩⟩
    case round =>
      obtain ⟨j, hj, rfl, HI⟩ := hrel
      obtain ⟨wo, rfl⟩ : ∃ wo : World, wo = wr := ⟨_, rfl⟩
      obtain rfl : j = cs.length := by omega
      have HN : Hid (true = q) := Lib.hid (HS2.out fun i c hc => HI.out.2 i c (List.getElem?_eq_some_iff.1 hc).1 hc)
      go_wp2_with fail
      go_ret
      exact ⟨ret_bool HN.out, HI.out.1⟩
  · have HN : Hid (false = q) := Lib.hid (HF.out (by rintro ⟨d1, d2, d3, d4⟩; have q1 := HCV.out.1; have q2 := HCV.out.2; exact hcl ⟨d1 q1, d2 q2, (d4 (by omega)).2, by simp [(d4 (by omega)).1]⟩))
    have HC : Hid (ch = 0 → v = 0 → els = false → cs.length = 0 → False) := Lib.hid (fun e0 e1 e2 e3 => hcl ⟨e0, e1, e2, e3⟩)
    clear hcl
    go_enter Tryd.func19, Tryd.ntmps19
    go_wp2_with fail
    refine (ref10_hasCh _ _).mono ?_
    rintro e w3 ⟨rfl, rfl⟩
    rw [HCV.out.1]
    go_upto_if 93 with (go_at_call 34; refine (ref10_hasV _ _).mono ?_; rintro e w4 ⟨rfl, rfl⟩; rw [HCV.out.2])
    all_goals
      go_wp2_with fail
      all_goals
        first
          | (exfalso; refine HC.out ?_ ?_ ?_ ?_ <;> (first | assumption | omega | (simpa using ‹¬els = true›)); done)
          | (go_ret; exact ⟨ret_bool HN.out, (Keeps.refl [] w).alloc _⟩)
end Go.Proofs.YtbjnbngpjdoejaaDoor
namespace Go.Proofs.YtbjnbngpjdoejaaDoor
open Go.RowKit
set_option linter.unusedVariables false
set_option linter.unusedSimpArgs false
set_option linter.unnecessarySimpa false
namespace Pn
theorem ref_caseV {o : Op} {j : Nat} {c : Cs} (h : o.cases[j]? = some c) (hc : rightCs c = false) : rightOp o = false := right_case h (by rw [okCs_right]; exact hc)
end Pn

set_option maxRecDepth 100000 in
set_option maxHeartbeats 3200000 in
theorem ref10_rightOp_V (w : World) (o : Pn.Op) (va : Value) (SA : List Nat) (ha : GV caseE 3 w va o.cases SA) (hb : 1 ≤ o.kind ∧ o.kind ≤ 9 ∧ 0 ≤ o.ch ∧ o.ch ≤ 8 ∧ 0 ≤ o.n ∧ o.n ≤ 4 ∧ 0 ≤ o.v ∧ o.v ≤ 255 ∧ o.cases.length ≤ 6) (hv : o.kind = 2 ∨ o.kind = 4) (hk : ¬ o.kind = 1) :
    Calls Tryd.prog 19 #[.agg #[.int .i64 o.kind, .int .i64 o.ch, .int .i64 o.n, .int .i64 o.v, va, .bool o.els]] w fun e w' => e = .returned (.bool (Pn.rightOp o)) ∧ Keeps [] w w' := by
  have hla := ha.le
  unfold maxLen at hla
  obtain ⟨ao, cap, rfl⟩ := ha.shape
  have HA := Lib.hid ha
  obtain ⟨q, hq0⟩ : ∃ q, Pn.rightOp o = q := ⟨_, rfl⟩
  rw [hq0]
  have HQ := Lib.hid hq0
  have KA : Hid (Keeps [] w (w.alloc (.cells #[.int .i64 o.kind, .int .i64 o.ch, .int .i64 o.n, .int .i64 o.v, .slice ao o.cases.length cap, .bool o.els] 36))) := Lib.hid ((Keeps.refl [] w).alloc _)
  clear ha hq0
  obtain ⟨b1, b2, b3, b4, b5, b6, b7, b8, b9⟩ := hb
  obtain ⟨k, ch, n, v, cs, els⟩ := o
  simp only at *
  have HS : Hid ((Pn.hasCh k = false → ch = 0) → (Pn.hasV k = false → v = 0) → (k ≠ 1 → n = 0) → (k ≠ 9 → cs = [] ∧ els = false) → (∀ (j : Nat) (c : Pn.Cs), cs[j]? = some c → Pn.rightCs c = true) → true = q) := Lib.hid (fun d1 d2 d3 d4 h => by
    rw [← HQ.out, eq_comm]; unfold Pn.rightOp; rw [decide_eq_true_iff]
    refine ⟨b1, b2, b3, b4, b5, b6, b7, b8, b9, d1, d2, d3, d4, fun c hc => ?_⟩
    obtain ⟨j, hj, rfl⟩ := List.getElem_of_mem hc
    exact h j _ (List.getElem?_eq_getElem hj))
  have HF : Hid (¬ ((Pn.hasCh k = false → ch = 0) ∧ (Pn.hasV k = false → v = 0) ∧ (k ≠ 1 → n = 0) ∧ (k ≠ 9 → cs = [] ∧ els = false)) → false = q) := Lib.hid (fun hn => by
    rw [← HQ.out, eq_comm]; unfold Pn.rightOp; rw [decide_eq_false_iff_not]; rintro ⟨h1, h2, h3, h4, h5, h6, h7, h8, h9, h10, h11, h12, h13, _⟩; exact hn ⟨h10, h11, h12, h13⟩)
  have q1 : (k != 1) = true := by simp; omega
  have q9 : (k != 9) = true := by simp; omega
  have HCV : Hid (Pn.hasCh k = true ∧ Pn.hasV k = true) := Lib.hid (by constructor <;> simp [Pn.hasCh, Pn.hasV] <;> omega)
  by_cases hcl : n = 0 ∧ els = false ∧ cs.length = 0
  · obtain ⟨e0, e1, e2⟩ := hcl
    subst e0 e1
    have e9 : cs.length ≤ 0 := by omega
    have HS2 := Lib.hid (HS.out (fun h => by rw [HCV.out.1] at h; cases h) (fun h => by rw [HCV.out.2] at h; cases h) (fun _ => rfl) (fun _ => ⟨List.eq_nil_of_length_eq_zero (by omega), rfl⟩))
    clear HS HF
    try clear e3
    try clear e2
    go_enter Tryd.func19, Tryd.ntmps19
    go_wp2_with fail
    refine (ref10_hasCh _ _).mono ?_
    rintro e w3 ⟨rfl, rfl⟩
    rw [HCV.out.1]
    go_wp2_with (go_at_call 34; refine (ref10_hasV _ _).mono ?_; rintro e w4 ⟨rfl, rfl⟩; rw [HCV.out.2])
    go_loopw [97] (fun u wr => ∃ j : Nat, j ≤ cs.length ∧ u = .int .i64 j ∧ Hid (Keeps [] w wr ∧ ∀ (i : Nat) (c : Pn.Cs), i < j → cs[i]? = some c → Pn.rightCs c = true)) (fun u _ => cs.length - (intOf u).toNat)
    case atStart => exact ⟨0, Nat.zero_le _, rfl, Lib.hid ⟨KA.out, fun i c hi => by omega⟩⟩
    case round =>
      obtain ⟨j, hj, rfl, HI⟩ := hrel
      obtain ⟨wo, rfl⟩ : ∃ wo : World, wo = wr := ⟨_, rfl⟩
      obtain rfl : j = cs.length := by omega
      have HN : Hid (true = q) := Lib.hid (HS2.out fun i c hc => HI.out.2 i c (List.getElem?_eq_some_iff.1 hc).1 hc)
      go_wp2_with fail
      go_ret
      exact ⟨ret_bool HN.out, HI.out.1⟩
  · have HN : Hid (false = q) := Lib.hid (HF.out (by rintro ⟨d1, d2, d3, d4⟩; have q1 := HCV.out.1; have q2 := HCV.out.2; exact hcl ⟨d3 (by omega), (d4 (by omega)).2, by simp [(d4 (by omega)).1]⟩))
    have HC : Hid (n = 0 → els = false → cs.length = 0 → False) := Lib.hid (fun e0 e1 e2 => hcl ⟨e0, e1, e2⟩)
    clear hcl
    go_enter Tryd.func19, Tryd.ntmps19
    go_wp2_with fail
    refine (ref10_hasCh _ _).mono ?_
    rintro e w3 ⟨rfl, rfl⟩
    rw [HCV.out.1]
    go_upto_if 93 with (go_at_call 34; refine (ref10_hasV _ _).mono ?_; rintro e w4 ⟨rfl, rfl⟩; rw [HCV.out.2])
    all_goals
      go_wp2_with fail
      all_goals
        first
          | (exfalso; refine HC.out ?_ ?_ ?_ <;> (first | assumption | omega | (simpa using ‹¬els = true›)); done)
          | (go_ret; exact ⟨ret_bool HN.out, (Keeps.refl [] w).alloc _⟩)
end Go.Proofs.YtbjnbngpjdoejaaDoor
namespace Go.Proofs.YtbjnbngpjdoejaaDoor
open Go.RowKit
set_option linter.unusedVariables false
set_option linter.unusedSimpArgs false
set_option linter.unnecessarySimpa false
namespace Pn
theorem ref_case9 {o : Op} {j : Nat} {c : Cs} (h : o.cases[j]? = some c) (hc : rightCs c = false) : rightOp o = false := right_case h (by rw [okCs_right]; exact hc)
end Pn

set_option maxRecDepth 100000 in
set_option maxHeartbeats 3200000 in
theorem ref10_rightOp_9 (w : World) (o : Pn.Op) (va : Value) (SA : List Nat) (ha : GV caseE 3 w va o.cases SA) (hb : 1 ≤ o.kind ∧ o.kind ≤ 9 ∧ 0 ≤ o.ch ∧ o.ch ≤ 8 ∧ 0 ≤ o.n ∧ o.n ≤ 4 ∧ 0 ≤ o.v ∧ o.v ≤ 255 ∧ o.cases.length ≤ 6) (hk : o.kind = 9) :
    Calls Tryd.prog 19 #[.agg #[.int .i64 o.kind, .int .i64 o.ch, .int .i64 o.n, .int .i64 o.v, va, .bool o.els]] w fun e w' => e = .returned (.bool (Pn.rightOp o)) ∧ Keeps [] w w' := by
  have hla := ha.le
  unfold maxLen at hla
  obtain ⟨ao, cap, rfl⟩ := ha.shape
  have HA := Lib.hid ha
  obtain ⟨q, hq0⟩ : ∃ q, Pn.rightOp o = q := ⟨_, rfl⟩
  rw [hq0]
  have HQ := Lib.hid hq0
  have KA : Hid (Keeps [] w (w.alloc (.cells #[.int .i64 o.kind, .int .i64 o.ch, .int .i64 o.n, .int .i64 o.v, .slice ao o.cases.length cap, .bool o.els] 36))) := Lib.hid ((Keeps.refl [] w).alloc _)
  clear ha hq0
  obtain ⟨b1, b2, b3, b4, b5, b6, b7, b8, b9⟩ := hb
  obtain ⟨k, ch, n, v, cs, els⟩ := o
  simp only at *
  have HS : Hid ((Pn.hasCh k = false → ch = 0) → (Pn.hasV k = false → v = 0) → (k ≠ 1 → n = 0) → (k ≠ 9 → cs = [] ∧ els = false) → (∀ (j : Nat) (c : Pn.Cs), cs[j]? = some c → Pn.rightCs c = true) → true = q) := Lib.hid (fun d1 d2 d3 d4 h => by
    rw [← HQ.out, eq_comm]; unfold Pn.rightOp; rw [decide_eq_true_iff]
    refine ⟨b1, b2, b3, b4, b5, b6, b7, b8, b9, d1, d2, d3, d4, fun c hc => ?_⟩
    obtain ⟨j, hj, rfl⟩ := List.getElem_of_mem hc
    exact h j _ (List.getElem?_eq_getElem hj))
  have HF : Hid (¬ ((Pn.hasCh k = false → ch = 0) ∧ (Pn.hasV k = false → v = 0) ∧ (k ≠ 1 → n = 0) ∧ (k ≠ 9 → cs = [] ∧ els = false)) → false = q) := Lib.hid (fun hn => by
    rw [← HQ.out, eq_comm]; unfold Pn.rightOp; rw [decide_eq_false_iff_not]; rintro ⟨h1, h2, h3, h4, h5, h6, h7, h8, h9, h10, h11, h12, h13, _⟩; exact hn ⟨h10, h11, h12, h13⟩)
  subst hk
  have HCV : Hid (Pn.hasCh 9 = false ∧ Pn.hasV 9 = false) := Lib.hid (by constructor <;> simp [Pn.hasCh, Pn.hasV] <;> omega)
  by_cases hcl : ch = 0 ∧ v = 0 ∧ n = 0
  · obtain ⟨e0, e1, e2⟩ := hcl
    subst e0 e1 e2
    have HS2 := Lib.hid (HS.out (fun _ => rfl) (fun _ => rfl) (fun _ => rfl) (fun h => absurd rfl h))
    clear HS HF
    try clear e3
    try clear e2
    go_enter Tryd.func19, Tryd.ntmps19
    go_wp2_with fail
    refine (ref10_hasCh _ _).mono ?_
    rintro e w3 ⟨rfl, rfl⟩
    rw [HCV.out.1]
    go_wp2_with (go_at_call 34; refine (ref10_hasV _ _).mono ?_; rintro e w4 ⟨rfl, rfl⟩; rw [HCV.out.2])
    go_loopw [97] (fun u wr => ∃ j : Nat, j ≤ cs.length ∧ u = .int .i64 j ∧ Hid (Keeps [] w wr ∧ ∀ (i : Nat) (c : Pn.Cs), i < j → cs[i]? = some c → Pn.rightCs c = true)) (fun u _ => cs.length - (intOf u).toNat)
    case atStart => exact ⟨0, Nat.zero_le _, rfl, Lib.hid ⟨KA.out, fun i c hi => by omega⟩⟩
    case round =>
      obtain ⟨j, hj, rfl, HI⟩ := hrel
      obtain ⟨wo, rfl⟩ : ∃ wo : World, wo = wr := ⟨_, rfl⟩
      by_cases hlt : j < cs.length
      · obtain ⟨x, hx⟩ : ∃ x, cs[j]? = some x := ⟨_, List.getElem?_eq_getElem hlt⟩
        obtain ⟨g1, off1, rfl, _, hg1, a0, a1, a2⟩ := (HA.out.then caseE_kept HI.out.1).case hx
        have HX := Lib.hid hx
        clear hx
        obtain ⟨xs, xc, xv⟩ := x
        simp only at a0 a1 a2
        have KR : Hid (Keeps [] w (wo.alloc (.cells #[.bool xs, .int .i64 xc, .int .i64 xv] 33))) := Lib.hid (HI.out.1.alloc _)
        by_cases hr : 0 ≤ xc ∧ xc ≤ 8 ∧ 0 ≤ xv ∧ xv ≤ 255 ∧ (xs = false → xv = 0)
        · have HO : Hid (Pn.rightCs ⟨xs, xc, xv⟩ = true) := Lib.hid (by unfold Pn.rightCs; rw [decide_eq_true_iff]; exact hr)
          obtain ⟨e1, e2, e3, e4, e5⟩ := hr
          cases xs with
          | true =>
            clear e5
            go_wp2_with fail
            go_roundw
            case rel => exact ⟨j + 1, by omega, by go_num, Lib.hid ⟨KR.out, fun i c hi hc => by
              by_cases e : i = j
              · subst e; rw [HX.out] at hc; cases hc; exact HO.out
              · exact HI.out.2 i c (by omega) hc⟩⟩
            case measure => simp [intOf]; omega
          | false =>
            have e6 := e5 rfl
            subst e6
            clear e5
            go_wp2_with fail
            go_roundw
            case rel => exact ⟨j + 1, by omega, by go_num, Lib.hid ⟨KR.out, fun i c hi hc => by
              by_cases e : i = j
              · subst e; rw [HX.out] at hc; cases hc; exact HO.out
              · exact HI.out.2 i c (by omega) hc⟩⟩
            case measure => simp [intOf]; omega
        · have HN : Hid (false = q) := Lib.hid (by rw [← HQ.out, Pn.ref_case9 HX.out (by unfold Pn.rightCs; rw [decide_eq_false_iff_not]; exact hr)])
          have HR := Lib.hid hr
          clear hr
          cases xs with
          | true =>
            have HR2 : Hid (0 ≤ xc → xc ≤ 8 → 0 ≤ xv → xv ≤ 255 → False) := Lib.hid (fun a b c d => HR.out ⟨a, b, c, d, fun h => by cases h⟩)
            clear HR
            go_upto_if 128 with fail
            all_goals
              go_wp2_with fail
              all_goals
                first
                  | (exfalso; refine HR2.out ?_ ?_ ?_ ?_ <;> omega)
                  | (go_ret; exact ⟨ret_bool HN.out, HI.out.1.alloc _⟩)
          | false =>
            have HR2 : Hid (0 ≤ xc → xc ≤ 8 → 0 ≤ xv → xv ≤ 255 → xv ≠ 0) := Lib.hid (fun a b c d e => HR.out ⟨a, b, c, d, fun _ => e⟩)
            clear HR
            go_upto_if 128 with fail
            all_goals
              go_wp2_with fail
              all_goals
                first
                  | (exfalso; refine HR2.out ?_ ?_ ?_ ?_ ?_ <;> (first | omega | (have h := (show ((((0 ≤ xc ∧ xc ≤ 8) ∧ 0 ≤ xv) ∧ xv ≤ 255) ∧ (xv != 0) = false) by assumption).2; simpa using h)))
                  | (go_ret; exact ⟨ret_bool HN.out, HI.out.1.alloc _⟩)
      · obtain rfl : j = cs.length := by omega
        have HN : Hid (true = q) := Lib.hid (HS2.out fun i c hc => HI.out.2 i c (List.getElem?_eq_some_iff.1 hc).1 hc)
        go_wp2_with fail
        go_ret
        exact ⟨ret_bool HN.out, HI.out.1⟩
  · have HN : Hid (false = q) := Lib.hid (HF.out (by rintro ⟨d1, d2, d3, d4⟩; have q1 := HCV.out.1; have q2 := HCV.out.2; exact hcl ⟨d1 q1, d2 q2, d3 (by omega)⟩))
    have HC : Hid (ch = 0 → v = 0 → n = 0 → False) := Lib.hid (fun e0 e1 e2 => hcl ⟨e0, e1, e2⟩)
    clear hcl
    go_enter Tryd.func19, Tryd.ntmps19
    go_wp2_with fail
    refine (ref10_hasCh _ _).mono ?_
    rintro e w3 ⟨rfl, rfl⟩
    rw [HCV.out.1]
    go_upto_if 93 with (go_at_call 34; refine (ref10_hasV _ _).mono ?_; rintro e w4 ⟨rfl, rfl⟩; rw [HCV.out.2])
    all_goals
      go_wp2_with fail
      all_goals
        first
          | (exfalso; refine HC.out ?_ ?_ ?_ <;> (first | assumption | omega | (simpa using ‹¬els = true›)); done)
          | (go_ret; exact ⟨ret_bool HN.out, (Keeps.refl [] w).alloc _⟩)
end Go.Proofs.YtbjnbngpjdoejaaDoor
namespace Go.Proofs.YtbjnbngpjdoejaaDoor
open Go.RowKit
set_option linter.unusedVariables false
set_option linter.unusedSimpArgs false
set_option linter.unnecessarySimpa false
namespace Pn
theorem ref_caseC {o : Op} {j : Nat} {c : Cs} (h : o.cases[j]? = some c) (hc : rightCs c = false) : rightOp o = false := right_case h (by rw [okCs_right]; exact hc)
end Pn

set_option maxRecDepth 100000 in
set_option maxHeartbeats 3200000 in
theorem ref10_rightOp_C (w : World) (o : Pn.Op) (va : Value) (SA : List Nat) (ha : GV caseE 3 w va o.cases SA) (hb : 1 ≤ o.kind ∧ o.kind ≤ 9 ∧ 0 ≤ o.ch ∧ o.ch ≤ 8 ∧ 0 ≤ o.n ∧ o.n ≤ 4 ∧ 0 ≤ o.v ∧ o.v ≤ 255 ∧ o.cases.length ≤ 6) (hk : ¬ o.kind = 1) (hv : ¬ (o.kind = 2 ∨ o.kind = 4)) (hk9 : ¬ o.kind = 9) :
    Calls Tryd.prog 19 #[.agg #[.int .i64 o.kind, .int .i64 o.ch, .int .i64 o.n, .int .i64 o.v, va, .bool o.els]] w fun e w' => e = .returned (.bool (Pn.rightOp o)) ∧ Keeps [] w w' := by
  have hla := ha.le
  unfold maxLen at hla
  obtain ⟨ao, cap, rfl⟩ := ha.shape
  have HA := Lib.hid ha
  obtain ⟨q, hq0⟩ : ∃ q, Pn.rightOp o = q := ⟨_, rfl⟩
  rw [hq0]
  have HQ := Lib.hid hq0
  have KA : Hid (Keeps [] w (w.alloc (.cells #[.int .i64 o.kind, .int .i64 o.ch, .int .i64 o.n, .int .i64 o.v, .slice ao o.cases.length cap, .bool o.els] 36))) := Lib.hid ((Keeps.refl [] w).alloc _)
  clear ha hq0
  obtain ⟨b1, b2, b3, b4, b5, b6, b7, b8, b9⟩ := hb
  obtain ⟨k, ch, n, v, cs, els⟩ := o
  simp only at *
  have HS : Hid ((Pn.hasCh k = false → ch = 0) → (Pn.hasV k = false → v = 0) → (k ≠ 1 → n = 0) → (k ≠ 9 → cs = [] ∧ els = false) → (∀ (j : Nat) (c : Pn.Cs), cs[j]? = some c → Pn.rightCs c = true) → true = q) := Lib.hid (fun d1 d2 d3 d4 h => by
    rw [← HQ.out, eq_comm]; unfold Pn.rightOp; rw [decide_eq_true_iff]
    refine ⟨b1, b2, b3, b4, b5, b6, b7, b8, b9, d1, d2, d3, d4, fun c hc => ?_⟩
    obtain ⟨j, hj, rfl⟩ := List.getElem_of_mem hc
    exact h j _ (List.getElem?_eq_getElem hj))
  have HF : Hid (¬ ((Pn.hasCh k = false → ch = 0) ∧ (Pn.hasV k = false → v = 0) ∧ (k ≠ 1 → n = 0) ∧ (k ≠ 9 → cs = [] ∧ els = false)) → false = q) := Lib.hid (fun hn => by
    rw [← HQ.out, eq_comm]; unfold Pn.rightOp; rw [decide_eq_false_iff_not]; rintro ⟨h1, h2, h3, h4, h5, h6, h7, h8, h9, h10, h11, h12, h13, _⟩; exact hn ⟨h10, h11, h12, h13⟩)
  have q1 : (k != 1) = true := by simp; omega
  have q9 : (k != 9) = true := by simp; omega
  have HCV : Hid (Pn.hasCh k = true ∧ Pn.hasV k = false) := Lib.hid (by constructor <;> simp [Pn.hasCh, Pn.hasV] <;> omega)
  by_cases hcl : v = 0 ∧ n = 0 ∧ els = false ∧ cs.length = 0
  · obtain ⟨e0, e1, e2, e3⟩ := hcl
    subst e0 e1 e2
    have e9 : cs.length ≤ 0 := by omega
    have HS2 := Lib.hid (HS.out (fun h => by rw [HCV.out.1] at h; cases h) (fun _ => rfl) (fun _ => rfl) (fun _ => ⟨List.eq_nil_of_length_eq_zero (by omega), rfl⟩))
    clear HS HF
    try clear e3
    try clear e2
    go_enter Tryd.func19, Tryd.ntmps19
    go_wp2_with fail
    refine (ref10_hasCh _ _).mono ?_
    rintro e w3 ⟨rfl, rfl⟩
    rw [HCV.out.1]
    go_wp2_with (go_at_call 34; refine (ref10_hasV _ _).mono ?_; rintro e w4 ⟨rfl, rfl⟩; rw [HCV.out.2])
    go_loopw [97] (fun u wr => ∃ j : Nat, j ≤ cs.length ∧ u = .int .i64 j ∧ Hid (Keeps [] w wr ∧ ∀ (i : Nat) (c : Pn.Cs), i < j → cs[i]? = some c → Pn.rightCs c = true)) (fun u _ => cs.length - (intOf u).toNat)
    case atStart => exact ⟨0, Nat.zero_le _, rfl, Lib.hid ⟨KA.out, fun i c hi => by omega⟩⟩
    case round =>
      obtain ⟨j, hj, rfl, HI⟩ := hrel
      obtain ⟨wo, rfl⟩ : ∃ wo : World, wo = wr := ⟨_, rfl⟩
      obtain rfl : j = cs.length := by omega
      have HN : Hid (true = q) := Lib.hid (HS2.out fun i c hc => HI.out.2 i c (List.getElem?_eq_some_iff.1 hc).1 hc)
      go_wp2_with fail
      go_ret
      exact ⟨ret_bool HN.out, HI.out.1⟩
  · have HN : Hid (false = q) := Lib.hid (HF.out (by rintro ⟨d1, d2, d3, d4⟩; have q1 := HCV.out.1; have q2 := HCV.out.2; exact hcl ⟨d2 q2, d3 (by omega), (d4 (by omega)).2, by simp [(d4 (by omega)).1]⟩))
    have HC : Hid (v = 0 → n = 0 → els = false → cs.length = 0 → False) := Lib.hid (fun e0 e1 e2 e3 => hcl ⟨e0, e1, e2, e3⟩)
    clear hcl
    go_enter Tryd.func19, Tryd.ntmps19
    go_wp2_with fail
    refine (ref10_hasCh _ _).mono ?_
    rintro e w3 ⟨rfl, rfl⟩
    rw [HCV.out.1]
    go_upto_if 93 with (go_at_call 34; refine (ref10_hasV _ _).mono ?_; rintro e w4 ⟨rfl, rfl⟩; rw [HCV.out.2])
    all_goals
      go_wp2_with fail
      all_goals
        first
          | (exfalso; refine HC.out ?_ ?_ ?_ ?_ <;> (first | assumption | omega | (simpa using ‹¬els = true›)); done)
          | (go_ret; exact ⟨ret_bool HN.out, (Keeps.refl [] w).alloc _⟩)
end Go.Proofs.YtbjnbngpjdoejaaDoor
namespace Go.Proofs.YtbjnbngpjdoejaaDoor
open Go.RowKit
set_option linter.unusedVariables false
set_option linter.unusedSimpArgs false
set_option linter.unnecessarySimpa false
set_option maxRecDepth 100000 in
set_option maxHeartbeats 3200000 in
theorem ref10_rightOp (w : World) (o : Pn.Op) (va : Value) (SA : List Nat) (ha : GV caseE 3 w va o.cases SA) :
    Calls Tryd.prog 19 #[.agg #[.int .i64 o.kind, .int .i64 o.ch, .int .i64 o.n, .int .i64 o.v, va, .bool o.els]] w fun e w' => e = .returned (.bool (Pn.rightOp o)) ∧ Keeps [] w w' := by
  by_cases hb : 1 ≤ o.kind ∧ o.kind ≤ 9 ∧ 0 ≤ o.ch ∧ o.ch ≤ 8 ∧ 0 ≤ o.n ∧ o.n ≤ 4 ∧ 0 ≤ o.v ∧ o.v ≤ 255 ∧ o.cases.length ≤ 6
  · by_cases hk : o.kind = 1
    · exact ref10_rightOp_1 w o va SA ha hb hk
    by_cases hv : o.kind = 2 ∨ o.kind = 4
    · exact ref10_rightOp_V w o va SA ha hb hv hk
    by_cases hk9 : o.kind = 9
    · exact ref10_rightOp_9 w o va SA ha hb hk9
    · exact ref10_rightOp_C w o va SA ha hb hk hv hk9
  · exact ref10_rightOp_no w o va SA ha hb
end Go.Proofs.YtbjnbngpjdoejaaDoor
