/-
  Plans told in Fl's words: Right of the program and of the document.
  Conditions: none.
-/
import Derived.Test.YtgjpdogjekmemaaDoorOpn
import Derived.Test.YtgjpdogjekmemaaDoorPlanX
namespace Go.Proofs.YtgjpdogjekmemaaDoor
open Go.RowKit
set_option linter.unusedVariables false
set_option linter.unusedSimpArgs false
set_option linter.unnecessarySimpa false
namespace Fl
section
variable {P : Program} {F : FuncId} {ds : List D}
theorem RDs.nil_ {ok : Nat → Prop} {w : World} {xs : List Value} (h : RDs ok w [] xs) : xs = [] := by unfold RDs at h; exact h
/-- a function that only reckons, or makes memory -/
theorem Con.plain {d : D} (h : ∀ ok e xs, RDs ok e ds xs → Calls P F xs.toArray e fun en w' => ∃ x, en = .returned x ∧ Keeps [] e w' ∧ RD (fun g => ok g ∨ e.heap.size ≤ g) w' d x) : Pure P F ds d := ⟨fun ok e xs hd _ _ _ => by
  refine Calls.mono (h ok e xs hd) ?_
  rintro en w' ⟨x, rfl, kp, hx⟩
  refine ⟨(), x, rfl, by simpa [foots] using kp, by simp [foots], List.Pairwise.nil, by simp, ?_⟩
  have : okr ok e [] [] = fun g => ok g ∨ e.heap.size ≤ g := by
    funext g; unfold okr; simp [foots]
  rw [this]; exact hx⟩
end
def opsA (p : List (List Pn.Op)) : A := .r 1 (p.map fun ops => [.r 6 (ops.map eOp)])
section
variable {α : Type} {E : World → List Value → α → List Nat → Prop} {enc : α → List A}
/-- an element told in Fl's words is one in the older words -/
def Is (enc : α → List A) (E : World → List Value → α → List Nat → Prop) : Prop :=
  ∀ (ok : Nat → Prop) (w : World) (cs : List Value) (a : α), RC ok w (enc a) cs → ∃ U, E w cs a U ∧ ∀ x ∈ U, ok x ∧ x < w.heap.size
theorem Is.parts (h : Is enc E) {ok : Nat → Prop} {w : World} {sz : Nat} : ∀ {l : List α} {xs : List Value}, RX ok w sz (l.map enc) xs → ∃ S, Parts E sz w xs l S ∧ ∀ x ∈ S, ok x ∧ x < w.heap.size
  | [], xs, r => ⟨[], fun k a hk => by simp at hk, by simp⟩
  | a :: l, xs, r => by
    obtain ⟨vs, ys, rfl, h2, h3, h4⟩ := r
    obtain ⟨U, u1, u2⟩ := h ok w vs a h3
    obtain ⟨S, s1, s2⟩ := Is.parts h h4
    refine ⟨U ++ S, fun k b hk => ?_, fun x hx => (List.mem_append.1 hx).elim (u2 x) (s2 x)⟩
    cases k with
    | zero =>
      simp at hk; subst hk
      refine ⟨U, ?_, fun x hx => List.mem_append_left _ hx⟩
      have : chunk (vs ++ ys) sz 0 = vs := by unfold chunk; simp [← h2]
      rw [this]; exact u1
    | succ k =>
      simp at hk
      obtain ⟨V, v1, v2⟩ := s1 k b hk
      refine ⟨V, ?_, fun x hx => List.mem_append_right _ (v2 x hx)⟩
      have : chunk (vs ++ ys) sz (k + 1) = chunk ys sz k := by
        unfold chunk
        rw [show (k + 1) * sz = vs.length + k * sz by rw [h2, Nat.add_mul]; omega, List.drop_length_add_append]
      rw [this]; exact v1
theorem RA.blk {ok : Nat → Prop} {w : World} {sz : Nat} {l : List (List A)} {x : Value} (h : RA ok w (.r sz l) x) : ∃ ys S, View w x sz l.length ys S ∧ RX ok w sz l ys ∧ ∀ g ∈ S, ok g ∧ g < w.heap.size := by
  obtain ⟨ys, S, v1, v2, v3⟩ := h.view
  exact ⟨ys, S, v1, v2, fun g hg => ⟨v3 g hg, v1.lt g hg⟩⟩
theorem Is.gv (h : Is enc E) {ok : Nat → Prop} {w : World} {sz : Nat} {l : List α} {v : Value} (r : RA ok w (.r sz (l.map enc)) v) : ∃ S, GV E sz w v l S ∧ ∀ x ∈ S, ok x ∧ x < w.heap.size := by
  obtain ⟨ys, T, v1, v2, v3⟩ := r.blk
  rw [List.length_map] at v1
  obtain ⟨S, s1, s2⟩ := h.parts v2
  exact ⟨T ++ S, ⟨ys, T, v1, s1.mono fun x hx => List.mem_append_right _ hx, fun x hx => List.mem_append_left _ hx, fun x hx => (List.mem_append.1 hx).elim (fun h => (v3 x h).2) (fun h => (s2 x h).2), v2.one⟩, fun x hx => (List.mem_append.1 hx).elim (v3 x) (s2 x)⟩
/-- a slice in one cell -/
theorem Is.row (h : Is enc E) {sz : Nat} : Is (fun l : List α => [A.r sz (l.map enc)]) (rowE E sz) := fun ok w cs l r => by
  unfold RC at r
  obtain ⟨x, xs, rfl, r1, r2⟩ := r
  unfold RC at r2
  subst r2
  obtain ⟨S, s1, s2⟩ := h.gv r1
  exact ⟨S, ⟨x, rfl, s1⟩, s2⟩
end
theorem RC.c1 {ok : Nat → Prop} {w : World} {v : Value} {as_ : List A} {cs : List Value} (h : RC ok w (.v v :: as_) cs) : ∃ ys, cs = v :: ys ∧ RC ok w as_ ys := by
  unfold RC at h
  obtain ⟨x, xs, rfl, h1, h2⟩ := h
  unfold RA at h1
  exact ⟨xs, by rw [h1.1], h2⟩
theorem RC.n0 {ok : Nat → Prop} {w : World} {cs : List Value} (h : RC ok w [] cs) : cs = [] := by unfold RC at h; exact h
theorem is_num : Is (fun n : Int => [nI n]) rawE := fun ok w cs n r => by
  obtain ⟨ys, e1, r1⟩ := RC.c1 (as_ := []) r
  have e2 := r1.n0
  subst e2
  exact ⟨[], ⟨e1, rfl⟩, by simp⟩
theorem is_case : Is eCs caseE := fun ok w cs c r => by
  obtain ⟨y1, e1, r1⟩ := RC.c1 (as_ := [nI c.ch, nI c.v]) r
  obtain ⟨y2, e2, r2⟩ := r1.c1
  obtain ⟨y3, e3, r3⟩ := r2.c1
  have e4 := r3.n0
  subst e4 e3 e2
  exact ⟨[], ⟨e1, rfl⟩, by simp⟩
theorem is_op : Is eOp opE := fun ok w cs o r => by
  obtain ⟨y1, e1, r1⟩ := RC.c1 (as_ := [nI o.ch, nI o.n, nI o.v, .r 3 (o.cases.map eCs), bI o.els]) r
  obtain ⟨y2, e2, r2⟩ := r1.c1
  obtain ⟨y3, e3, r3⟩ := r2.c1
  obtain ⟨y4, e4, r4⟩ := r3.c1
  unfold RC at r4
  obtain ⟨x, y5, e5, r5, r6⟩ := r4
  obtain ⟨y6, e6, r7⟩ := r6.c1
  have e7 := r7.n0
  obtain ⟨S, s1, s2⟩ := is_case.gv r5
  subst e7 e6 e5 e4 e3 e2
  exact ⟨S, ⟨x, e1, s1⟩, s2⟩
theorem is_ops : Is (fun l : List Pn.Op => [A.r 6 (l.map eOp)]) opsE := is_op.row
theorem gv_plan {ok : Nat → Prop} {w : World} {p : List (List Pn.Op)} {v : Value} (r : RA ok w (opsA p) v) : ∃ S, GV opsE 1 w v p S ∧ ∀ x ∈ S, ok x ∧ x < w.heap.size := is_ops.gv r
theorem RDs.c {ok : Nat → Prop} {w : World} {a : A} {ds : List D} {xs : List Value} (h : RDs ok w (.c a :: ds) xs) : ∃ x ys, xs = x :: ys ∧ RA ok w a x ∧ RDs ok w ds ys := by
  unfold RDs at h
  obtain ⟨x, ys, rfl, h1, h2⟩ := h
  unfold RD at h1
  exact ⟨x, ys, rfl, h1, h2⟩
set_option maxHeartbeats 2000000 in
theorem c_wRight (p : List (List Pn.Op)) : Pure Tryd.prog 18 [.c (opsA p)] (.c (bI (Pn.right p))) :=
  Con.plain fun ok e xs hd => by
    obtain ⟨v, ys, rfl, r, h⟩ := hd.c
    rw [h.nil_]
    obtain ⟨S, s1, s2⟩ := gv_plan r
    refine (plan_right e v p S s1).mono ?_
    rintro en w' ⟨rfl, k⟩
    exact ⟨_, rfl, k, RD.v rfl⟩
set_option maxHeartbeats 2000000 in
theorem c_right10 (p : List (List Pn.Op)) : Pure Tryd.prog 17 [.c (opsA p)] (.c (bI (Pn.right p))) :=
  Con.plain fun ok e xs hd => by
    obtain ⟨v, ys, rfl, r, h⟩ := hd.c
    rw [h.nil_]
    obtain ⟨S, s1, s2⟩ := gv_plan r
    refine (ref10_right e v p S s1).mono ?_
    rintro en w' ⟨rfl, k⟩
    exact ⟨_, rfl, k, RD.v rfl⟩
theorem RDs.ag {ok : Nat → Prop} {w : World} {as_ : List A} {ds : List D} {xs : List Value} (h : RDs ok w (.agg as_ :: ds) xs) : ∃ (vs : List Value) (ys : List Value), xs = .agg vs.toArray :: ys ∧ RC ok w as_ vs ∧ RDs ok w ds ys := by
  unfold RDs at h
  obtain ⟨x, ys, rfl, h1, h2⟩ := h
  unfold RD at h1
  obtain ⟨vs, rfl, h1⟩ := h1
  exact ⟨vs, ys, rfl, h1, h2⟩
theorem op_cells {ok : Nat → Prop} {w : World} {o : Pn.Op} {vs : List Value} (r : RC ok w (eOp o) vs) : ∃ va U, vs = [.int .i64 o.kind, .int .i64 o.ch, .int .i64 o.n, .int .i64 o.v, va, .bool o.els] ∧ GV caseE 3 w va o.cases U := by
  obtain ⟨U, ⟨va, h1, h2⟩, _⟩ := is_op ok w vs o r
  exact ⟨va, U, h1, h2⟩
set_option maxHeartbeats 2000000 in
theorem c_wRightOp (o : Pn.Op) : Pure Tryd.prog 21 [.agg (eOp o)] (.c (bI (Pn.rightOp o))) :=
  Con.plain fun ok e xs hd => by
    obtain ⟨vs, ys, rfl, r, h⟩ := hd.ag
    rw [h.nil_]
    obtain ⟨va, U, rfl, g⟩ := op_cells r
    refine (plan_rightOp e o va U g).mono ?_
    rintro en w' ⟨rfl, k⟩
    exact ⟨_, rfl, k, RD.v rfl⟩
set_option maxHeartbeats 2000000 in
theorem c_rightOp10 (o : Pn.Op) : Pure Tryd.prog 25 [.agg (eOp o)] (.c (bI (Pn.rightOp o))) :=
  Con.plain fun ok e xs hd => by
    obtain ⟨vs, ys, rfl, r, h⟩ := hd.ag
    rw [h.nil_]
    obtain ⟨va, U, rfl, g⟩ := op_cells r
    refine (ref10_rightOp e o va U g).mono ?_
    rintro en w' ⟨rfl, k⟩
    exact ⟨_, rfl, k, RD.v rfl⟩
end Fl
end Go.Proofs.YtgjpdogjekmemaaDoor
