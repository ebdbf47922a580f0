/-
  plan.decodeOp: its contract.
  Conditions: none.
-/
import Derived.Test.YtopkfhmdgheghaaPlanN
namespace Go.Proofs.Ytopkfhmdgheghaa
open Go.RowKit
set_option linter.unusedVariables false
set_option linter.unusedSimpArgs false
set_option linter.unnecessarySimpa false

def zeroOp : List Value := [.int .i64 0, .int .i64 0, .int .i64 0, .int .i64 0, .slice none 0 0, .bool false]
def OpPost (B bu bb : Nat) (l : List Int) (r : Pn.Op × Nat) (w : World) (e : Ending) (w' : World) : Prop :=
  ∃ vc U, e = .returned (.agg #[.int .i64 r.1.kind, .int .i64 r.1.ch, .int .i64 r.1.n, .int .i64 r.1.v, vc, .bool r.1.els]) ∧ GV caseE 3 w' vc r.1.cases U ∧ (∀ x ∈ U, w.heap.size ≤ x) ∧ Src B w' bu bb l r.2 ∧ Keeps [bu] w w'
/-- within decodeOp: the result's block b0, the op's block bo -/
def D2 (B bu bb : Nat) (l : List Int) (w wr : World) (i b0 bo : Nat) (cs : List Value) : Prop :=
  Keeps [bu] w wr ∧ Src B wr bu bb l i ∧ Blk wr b0 zeroOp 33 ∧ Blk wr bo cs 33 ∧ b0 ≠ bo ∧ w.heap.size ≤ b0 ∧ w.heap.size ≤ bo ∧ B ≤ w.heap.size ∧ bu < B
section
variable {B bu bb : Nat} {l : List Int} {w wr w' : World} {i b0 bo : Nat} {cs : List Value}
theorem D2.step {j : Nat} (h : D2 B bu bb l w wr i b0 bo cs) (s : Src B w' bu bb l j) (k : Keeps [bu] wr w') : D2 B bu bb l w w' j b0 bo cs := by
  obtain ⟨h1, h2, h3, h4, h5, h6, h7, h8, h9⟩ := h
  exact ⟨h1.trans k (by simp), s, h3.keep k (by simp; omega), h4.keep k (by simp; omega), h5, h6, h7, h8, h9⟩
theorem D2.put (h : D2 B bu bb l w wr i b0 bo cs) (j : Nat) (v : Value) : D2 B bu bb l w (wr.setCell ⟨bo, j, none⟩ v) i b0 bo (cs.set j v) := by
  obtain ⟨h1, h2, h3, h4, h5, h6, h7, h8, h9⟩ := h
  have k : Keeps [bo] wr (wr.setCell ⟨bo, j, none⟩ v) := (Keeps.refl _ wr).setCell (by simp) _
  exact ⟨h1.trans k (by simp; omega), h2.keep k (by simp; omega), h3.keep k (by simpa using h5), h4.set j v, h5, h6, h7, h8, h9⟩
theorem D2.then (h : D2 B bu bb l w wr i b0 bo cs) (k : Keeps [] wr w') : D2 B bu bb l w w' i b0 bo cs := by
  obtain ⟨h1, h2, h3, h4, h5, h6, h7, h8, h9⟩ := h
  exact ⟨h1.then k, h2.keep k (by simp), h3.keep k (by simp), h4.keep k (by simp), h5, h6, h7, h8, h9⟩
theorem D2.src (h : D2 B bu bb l w wr i b0 bo cs) : Src B wr bu bb l i := h.2.1
theorem D2.first (h : Src B w bu bb l i) (hB : B ≤ w.heap.size) {w1 : World} {v : Value} (s : Src B w1 bu bb l (i + 1)) (k : Keeps [bu] (w.alloc (.cells zeroOp.toArray 33)) w1) (cs : List Value) :
    D2 B bu bb l w (w1.alloc (.cells cs.toArray 33)) (i + 1) w.heap.size w1.heap.size cs := by
  have hbu := h.2.2.2.1
  have hsz := k.size
  simp at hsz
  have ka : Keeps [] w1 (w1.alloc (.cells cs.toArray 33)) := (Keeps.refl _ w1).alloc _
  refine ⟨(((Keeps.refl [bu] w).alloc _).trans k (by simp)).then ka, s.keep ka (by simp), ((Blk.fresh w zeroOp _ _ rfl).keep k (by simp; omega)).keep ka (by simp), Blk.fresh w1 cs _ _ rfl, by omega, Nat.le_refl _, by omega, hB, hbu⟩
/-- the end: the op is copied into the result's block -/
theorem D2.fin (h : D2 B bu bb l w wr i b0 bo cs) (v0 v1 v2 v3 v4 v5 : Value) {U : List Nat} {C : List Pn.Cs} {vc : Value} (hv : GV caseE 3 wr vc C U) (hU : ∀ x ∈ U, w.heap.size ≤ x) (hU2 : b0 ∉ U) :
    Keeps [bu] w ((((((wr.setCell ⟨b0, 0, none⟩ v0).setCell ⟨b0, 1, none⟩ v1).setCell ⟨b0, 2, none⟩ v2).setCell ⟨b0, 3, none⟩ v3).setCell ⟨b0, 4, none⟩ v4).setCell ⟨b0, 5, none⟩ v5) ∧
    Src B ((((((wr.setCell ⟨b0, 0, none⟩ v0).setCell ⟨b0, 1, none⟩ v1).setCell ⟨b0, 2, none⟩ v2).setCell ⟨b0, 3, none⟩ v3).setCell ⟨b0, 4, none⟩ v4).setCell ⟨b0, 5, none⟩ v5) bu bb l i ∧
    GV caseE 3 ((((((wr.setCell ⟨b0, 0, none⟩ v0).setCell ⟨b0, 1, none⟩ v1).setCell ⟨b0, 2, none⟩ v2).setCell ⟨b0, 3, none⟩ v3).setCell ⟨b0, 4, none⟩ v4).setCell ⟨b0, 5, none⟩ v5) vc C U := by
  obtain ⟨h1, h2, h3, h4, h5, h6, h7, h8, h9⟩ := h
  have k : Keeps [b0] wr ((((((wr.setCell ⟨b0, 0, none⟩ v0).setCell ⟨b0, 1, none⟩ v1).setCell ⟨b0, 2, none⟩ v2).setCell ⟨b0, 3, none⟩ v3).setCell ⟨b0, 4, none⟩ v4).setCell ⟨b0, 5, none⟩ v5) :=
    ((((((Keeps.refl _ wr).setCell (by simp) _).setCell (by simp) _).setCell (by simp) _).setCell (by simp) _).setCell (by simp) _).setCell (by simp) _
  exact ⟨h1.trans k (by simp; omega), h2.keep k (by simp; omega), hv.keep caseE_kept k (fun x hx hm => by simp at hm; subst hm; exact hU2 hx)⟩
end

theorem op_ret {r : Pn.Op × Nat} {o : Pn.Op} {j : Nat} (h : r = (o, j)) {B bu bb : Nat} {l : List Int} {w w' : World} {e : Ending} {vc : Value} {U : List Nat} (he : e = .returned (.agg #[.int .i64 o.kind, .int .i64 o.ch, .int .i64 o.n, .int .i64 o.v, vc, .bool o.els])) (hv : GV caseE 3 w' vc o.cases U) (hU : ∀ x ∈ U, w.heap.size ≤ x) (hs : Src B w' bu bb l j) (k : Keeps [bu] w w') : OpPost B bu bb l r w e w' := by
  subst h; exact ⟨vc, U, he, hv, hU, hs, k⟩

theorem elemCase : Elem Try.prog 31 131 3 24 (.agg #[.bool false, .int .i64 0, .int .i64 0]) := ⟨Try.underlying31, by kernel_rfl, rfl, by decide, by decide⟩

/-- the cases, one behind the other -/
def DCases (B bu bb : Nat) (l : List Int) (w : World) (i0 b0 bo : Nat) (els : Bool) (k : Nat) (wr : World) : Prop :=
  ∃ vc T, D2 B bu bb l w wr (Pn.runTo (Pn.cs1 l) i0 k).2 b0 bo [.int .i64 9, .int .i64 0, .int .i64 0, .int .i64 0, vc, .bool els] ∧ GR caseE 3 wr vc 131 (Pn.runTo (Pn.cs1 l) i0 k).1 T [] ∧ ∀ x ∈ T, w.heap.size ≤ x ∧ x ≠ b0 ∧ x ≠ bo
/-- within a round: the case's block bc -/
def RC (B bu bb : Nat) (l : List Int) (w wr : World) (j b0 bo : Nat) (els : Bool) (vc : Value) (R : List Pn.Cs) (T : List Nat) (bc : Nat) (cc : List Value) : Prop :=
  D2 B bu bb l w wr j b0 bo [.int .i64 9, .int .i64 0, .int .i64 0, .int .i64 0, vc, .bool els] ∧ GR caseE 3 wr vc 131 R T [] ∧ (∀ x ∈ T, w.heap.size ≤ x ∧ x ≠ b0 ∧ x ≠ bo ∧ x ≠ bc) ∧ Blk wr bc cc 131 ∧ w.heap.size ≤ bc ∧ bc ≠ b0 ∧ bc ≠ bo
section
variable {B bu bb : Nat} {l : List Int} {w wr w' : World} {j b0 bo bc : Nat} {els : Bool} {vc : Value} {R : List Pn.Cs} {T : List Nat} {cc : List Value}
theorem RC.start (h : D2 B bu bb l w wr j b0 bo [.int .i64 9, .int .i64 0, .int .i64 0, .int .i64 0, vc, .bool els]) (hg : GR caseE 3 wr vc 131 R T []) (hT : ∀ x ∈ T, w.heap.size ≤ x ∧ x ≠ b0 ∧ x ≠ bo) {w1 : World} (s : Src B w1 bu bb l (j + 1)) (k : Keeps [bu] wr w1) (cc : List Value) :
    RC B bu bb l w (w1.alloc (.cells cc.toArray 131)) (j + 1) b0 bo els vc R T w1.heap.size cc := by
  have h1 := h.step s k
  have ka : Keeps [] w1 (w1.alloc (.cells cc.toArray 131)) := (Keeps.refl _ w1).alloc _
  have hbu : bu < B := h.2.2.2.2.2.2.2.2
  have hB : B ≤ w.heap.size := h.2.2.2.2.2.2.2.1
  have hg1 := hg.keep caseE_kept k (fun x hx hm => by simp at hm; have := hT x hx; omega) (by simp)
  have hlt := hg1.lt.1
  have hz0 : b0 < w1.heap.size := h1.2.2.1.lt
  have hzo : bo < w1.heap.size := h1.2.2.2.1.lt
  have hzw := h1.1.size
  exact ⟨h1.then ka, hg1.then caseE_kept ka, fun x hx => ⟨(hT x hx).1, (hT x hx).2.1, (hT x hx).2.2, by have := hlt x hx; omega⟩, Blk.fresh w1 cc _ _ rfl, hzw, by omega, by omega⟩
theorem RC.step {j' : Nat} (h : RC B bu bb l w wr j b0 bo els vc R T bc cc) (s : Src B w' bu bb l j') (k : Keeps [bu] wr w') : RC B bu bb l w w' j' b0 bo els vc R T bc cc := by
  obtain ⟨h1, h2, h3, h4, h5, h6, h7⟩ := h
  have hbu : bu < B := h1.2.2.2.2.2.2.2.2
  have hB : B ≤ w.heap.size := h1.2.2.2.2.2.2.2.1
  exact ⟨h1.step s k, h2.keep caseE_kept k (fun x hx hm => by simp at hm; have := h3 x hx; omega) (by simp), h3, h4.keep k (by simp; omega), h5, h6, h7⟩
theorem RC.put (h : RC B bu bb l w wr j b0 bo els vc R T bc cc) (f : Nat) (v : Value) : RC B bu bb l w (wr.setCell ⟨bc, f, none⟩ v) j b0 bo els vc R T bc (cc.set f v) := by
  obtain ⟨⟨d1, d2, d3, d4, d5, d6, d7, d8, d9⟩, h2, h3, h4, h5, h6, h7⟩ := h
  have k : Keeps [bc] wr (wr.setCell ⟨bc, f, none⟩ v) := (Keeps.refl _ wr).setCell (by simp) _
  exact ⟨⟨d1.trans k (by simp; omega), d2.keep k (by simp; omega), d3.keep k (by simpa using Ne.symm h6), d4.keep k (by simpa using Ne.symm h7), d5, d6, d7, d8, d9⟩, h2.keep caseE_kept k (fun x hx hm => by simp at hm; exact (h3 x hx).2.2.2 hm) (by simp), h3, h4.set f v, h5, h6, h7⟩
theorem RC.src (h : RC B bu bb l w wr j b0 bo els vc R T bc cc) : Src B wr bu bb l j := h.1.2.1
theorem RC.blks (h : RC B bu bb l w wr j b0 bo els vc R T bc cc) : Blk wr bc cc 131 ∧ Blk wr bo [.int .i64 9, .int .i64 0, .int .i64 0, .int .i64 0, vc, .bool els] 33 := ⟨h.2.2.2.1, h.1.2.2.2.1⟩
/-- behind the append, its new slice stored -/
theorem RC.app (h : RC B bu bb l w wr j b0 bo els vc R T bc cc) {c : Pn.Cs} {w1 : World} {v' : Value} {T' : List Nat} (r : GR caseE 3 w1 v' 131 (R ++ [c]) T' []) (k : Keeps T wr w1) (hT' : ∀ x ∈ T', x ∈ T ∨ wr.heap.size ≤ x) :
    Blk w1 bo [.int .i64 9, .int .i64 0, .int .i64 0, .int .i64 0, vc, .bool els] 33 ∧ D2 B bu bb l w (w1.setCell ⟨bo, 4, none⟩ v') j b0 bo [.int .i64 9, .int .i64 0, .int .i64 0, .int .i64 0, v', .bool els] ∧ GR caseE 3 (w1.setCell ⟨bo, 4, none⟩ v') v' 131 (R ++ [c]) T' [] ∧ ∀ x ∈ T', w.heap.size ≤ x ∧ x ≠ b0 ∧ x ≠ bo := by
  obtain ⟨h1, h2, h3, h4, h5, h6, h7⟩ := h
  obtain ⟨d1, d2, d3, d4, d5, d6, d7, d8, d9⟩ := h1
  have hz0 := d3.lt
  have hzo := d4.lt
  have hzw := d1.size
  have hx : ∀ x ∈ T', w.heap.size ≤ x ∧ x ≠ b0 ∧ x ≠ bo := fun x hx => by
    rcases hT' x hx with h | h
    · exact ⟨(h3 x h).1, (h3 x h).2.1, (h3 x h).2.2.1⟩
    · omega
  have hD : D2 B bu bb l w w1 j b0 bo [.int .i64 9, .int .i64 0, .int .i64 0, .int .i64 0, vc, .bool els] :=
    ⟨d1.trans k (fun x hx => .inr (h3 x hx).1), d2.keep k (fun x hx => by have := (h3 x hx).1; omega), d3.keep k (fun hm => (h3 _ hm).2.1 rfl), d4.keep k (fun hm => (h3 _ hm).2.2.1 rfl), d5, d6, d7, d8, d9⟩
  have k2 : Keeps [bo] w1 (w1.setCell ⟨bo, 4, none⟩ v') := (Keeps.refl _ w1).setCell (by simp) _
  exact ⟨hD.2.2.2.1, by have := hD.put 4 v'; simpa using this, r.keep caseE_kept k2 (fun x hx' hm => by simp at hm; exact (hx x hx').2.2 hm) (by simp), hx⟩
end

theorem DCases.next {B bu bb : Nat} {l : List Int} {w wr : World} {i0 b0 bo j j' : Nat} {els : Bool} {k : Nat} {R : List Pn.Cs} {c : Pn.Cs} {v : Value} {T : List Nat} (hR : (Pn.runTo (Pn.cs1 l) i0 k).1 = R) (hj : (Pn.runTo (Pn.cs1 l) i0 k).2 = j) (hc : Pn.cs1 l j = (c, j'))
    (h1 : D2 B bu bb l w wr j' b0 bo [.int .i64 9, .int .i64 0, .int .i64 0, .int .i64 0, v, .bool els]) (h2 : GR caseE 3 wr v 131 (R ++ [c]) T []) (h3 : ∀ x ∈ T, w.heap.size ≤ x ∧ x ≠ b0 ∧ x ≠ bo) : DCases B bu bb l w i0 b0 bo els (k + 1) wr := by
  subst hR hj
  refine ⟨v, T, ?_, ?_, h3⟩
  · show D2 B bu bb l w wr (Pn.cs1 l (Pn.runTo (Pn.cs1 l) i0 k).2).2 b0 bo _
    rw [hc]; exact h1
  · show GR caseE 3 wr v _ ((Pn.runTo (Pn.cs1 l) i0 k).1 ++ [(Pn.cs1 l (Pn.runTo (Pn.cs1 l) i0 k).2).1]) T []
    rw [hc]; exact h2

set_option maxHeartbeats 1600000 in
theorem plan_decodeOp (B : Nat) (w : World) (bu bb : Nat) (l : List Int) (i : Nat) (h : Src B w bu bb l i) (hB : B ≤ w.heap.size) :
    Calls Try.prog 87 #[.func (.func 86) #[] #[.pointer (some ⟨bu, 0, none⟩), .pointer (some ⟨bb, 0, none⟩)]] w (OpPost B bu bb l (Pn.one l i) w) := by
  have hr0 := Pn.byte_range h.range i
  have hr1 := Pn.byte_range h.range (i + 1)
  have hr2 := Pn.byte_range h.range (i + 2)
  have hbu : bu < B := h.2.2.2.1
  have HS := Lib.hid h
  have HR := Lib.hid h.range
  clear h
  by_cases c1 : Pn.byte l i % 9 = 0
  · have HO : Hid (Pn.one l i = (⟨1, 0, Pn.byte l (i + 1) % 5, 0, [], false⟩, i + 2)) := Lib.hid (by unfold Pn.one; rw [if_pos c1])
    obtain ⟨r0, r1⟩ := hr0
    obtain ⟨r2, r3⟩ := hr1
    clear hr2
    go_enter Try.func87, Try.ntmps87
    go_wp2_with fail
    refine (plan_next B _ bu bb l i (HS.out.keep ((Keeps.refl [] w).alloc _) (by simp))).mono ?_
    rintro e w1 ⟨rfl, s1, k1⟩
    have D1 := Lib.hid (D2.first (v := .bool true) HS.out hB s1 k1 [.int .i64 1, .int .i64 0, .int .i64 0, .int .i64 0, .slice none 0 0, .bool false])
    clear s1 k1
    generalize Pn.byte l i = x at *
    go_wp2_with fail
    refine (plan_hasCh _ _).mono ?_
    rintro e w2 ⟨rfl, rfl⟩
    rw [show Pn.hasCh 1 = false from rfl]
    go_wp2_with fail
    refine (plan_next B _ bu bb l (i + 1) D1.out.src).mono ?_
    rintro e w2 ⟨rfl, s2, k2⟩
    have D2' := Lib.hid (D1.out.step s2 k2)
    obtain ⟨⟨b0, b1, b2, b3, b4, b5⟩, f0, f1, f2, f3, f4, f5⟩ := D2'.out.2.2.2.1.six
    clear s2 k2
    generalize Pn.byte l (i + 1) = y at *
    go_wp2_with fail
    refine (plan_hasV _ _).mono ?_
    rintro e w3 ⟨rfl, rfl⟩
    rw [show Pn.hasV 1 = false from rfl]
    have D3 := Lib.hid (D2'.out.put 2 (.int .i64 (y % 5)))
    obtain ⟨⟨z0, z1, z2, z3, z4, z5⟩, g0, g1, g2, g3, g4, g5⟩ := Blk.six D3.out.2.2.1
    go_wp2_with fail
    refine bodyPost_ret (v := .agg #[.int .i64 1, .int .i64 0, .int .i64 (y % 5), .int .i64 0, .slice none 0 0, .bool false]) (by simp [results, Try.results87, go_sem, z0, z1, z2, z3, z4, z5]) rfl ?_
    have hf := D3.out.fin (.int .i64 1) (.int .i64 0) (.int .i64 (y % 5)) (.int .i64 0) (.slice none 0 0) (.bool false) (GV.nil caseE 3 _) (by simp) (by simp)
    exact op_ret HO.out rfl hf.2.2 (by simp) hf.2.1 hf.1
  by_cases c2 : Pn.byte l i % 9 = 1 ∨ Pn.byte l i % 9 = 3
  · have HO : Hid (Pn.one l i = (⟨Pn.byte l i % 9 + 1, Pn.byte l (i + 1) % 9, 0, Pn.byte l (i + 2), [], false⟩, i + 3)) := Lib.hid (by unfold Pn.one; rw [if_neg c1, if_pos c2])
    obtain ⟨r0, r1⟩ := hr0
    obtain ⟨r2, r3⟩ := hr1
    obtain ⟨r4, r5⟩ := hr2
    have HC : Hid (Pn.hasCh (Pn.byte l i % 9 + 1) = true) := Lib.hid (by simp [Pn.hasCh]; omega)
    have HV : Hid (Pn.hasV (Pn.byte l i % 9 + 1) = true) := Lib.hid (by simp [Pn.hasV]; omega)
    have q1 : (Pn.byte l i % 9 + 1 == 1) = false := by simp; omega
    have q9 : (Pn.byte l i % 9 + 1 != 9) = true := by simp; omega
    clear c1 c2
    go_enter Try.func87, Try.ntmps87
    go_wp2_with fail
    refine (plan_next B _ bu bb l i (HS.out.keep ((Keeps.refl [] w).alloc _) (by simp))).mono ?_
    rintro e w1 ⟨rfl, s1, k1⟩
    have D1 := Lib.hid (D2.first (v := .bool true) HS.out hB s1 k1 [.int .i64 (Pn.byte l i % 9 + 1), .int .i64 0, .int .i64 0, .int .i64 0, .slice none 0 0, .bool false])
    clear s1 k1
    generalize Pn.byte l i = x at *
    obtain ⟨kd, hkd⟩ : ∃ kd, x % 9 + 1 = kd := ⟨_, rfl⟩
    rw [hkd] at D1 HC HV HO q1 q9
    go_wp2_with fail
    clear hkd r0 r1
    refine (plan_hasCh _ _).mono ?_
    rintro e w2 ⟨rfl, rfl⟩
    rw [HC.out]
    go_wp2_with fail
    refine (plan_next B _ bu bb l (i + 1) D1.out.src).mono ?_
    rintro e w2 ⟨rfl, s2, k2⟩
    have D2' := Lib.hid (D1.out.step s2 k2)
    obtain ⟨⟨b0, b1, b2, b3, b4, b5⟩, f0, f1, f2, f3, f4, f5⟩ := D2'.out.2.2.2.1.six
    clear s2 k2
    generalize Pn.byte l (i + 1) = y at *
    go_wp2_with fail
    refine (plan_hasV _ _).mono ?_
    rintro e w3 ⟨rfl, rfl⟩
    rw [HV.out]
    have D3 := Lib.hid (D2'.out.put 1 (.int .i64 (y % 9)))
    go_wp2_with fail
    refine (plan_next B _ bu bb l (i + 1 + 1) D3.out.src).mono ?_
    rintro e w3 ⟨rfl, s3, k3⟩
    have D4 := Lib.hid (D3.out.step s3 k3)
    clear s3 k3 b0 b1 b2 b3 b4 b5 f0 f1 f2 f3 f4 f5
    have hb := D4.out.2.2.2.1
    simp only [List.set_cons_succ, List.set_cons_zero] at hb
    obtain ⟨⟨b0, b1, b2, b3, b4, b5⟩, f0, f1, f2, f3, f4, f5⟩ := hb.six
    clear hb
    generalize Pn.byte l (i + 1 + 1) = z at *
    have D5 := Lib.hid (D4.out.put 3 (.int .i64 z))
    obtain ⟨⟨z0, z1, z2, z3, z4, z5⟩, g0, g1, g2, g3, g4, g5⟩ := Blk.six D5.out.2.2.1
    go_wp2_with fail
    refine bodyPost_ret (v := .agg #[.int .i64 kd, .int .i64 (y % 9), .int .i64 0, .int .i64 z, .slice none 0 0, .bool false]) (by simp [results, Try.results87, go_sem, z0, z1, z2, z3, z4, z5]) rfl ?_
    have hf := D5.out.fin (.int .i64 kd) (.int .i64 (y % 9)) (.int .i64 0) (.int .i64 z) (.slice none 0 0) (.bool false) (GV.nil caseE 3 _) (by simp) (by simp)
    exact op_ret HO.out rfl hf.2.2 (by simp) hf.2.1 hf.1
  by_cases c3 : Pn.byte l i % 9 = 8
  · have HO : Hid (Pn.one l i = (⟨9, 0, 0, 0, (Pn.runTo (Pn.cs1 l) (i + 3) (Pn.byte l (i + 1) % 7).toNat).1, Pn.byte l (i + 2) % 2 == 1⟩, (Pn.runTo (Pn.cs1 l) (i + 3) (Pn.byte l (i + 1) % 7).toNat).2)) := Lib.hid (by unfold Pn.one; rw [if_neg c1, if_neg c2, if_pos c3])
    obtain ⟨r0, r1⟩ := hr0
    obtain ⟨r2, r3⟩ := hr1
    obtain ⟨r4, r5⟩ := hr2
    clear c1 c2
    go_enter Try.func87, Try.ntmps87
    go_wp2_with fail
    refine (plan_next B _ bu bb l i (HS.out.keep ((Keeps.refl [] w).alloc _) (by simp))).mono ?_
    rintro e w1 ⟨rfl, s1, k1⟩
    have D1 := Lib.hid (D2.first (v := .bool true) HS.out hB s1 k1 [.int .i64 9, .int .i64 0, .int .i64 0, .int .i64 0, .slice none 0 0, .bool false])
    clear s1 k1
    generalize Pn.byte l i = x at *
    go_wp2_with fail
    clear c3 r0 r1
    refine (plan_hasCh _ _).mono ?_
    rintro e w2 ⟨rfl, rfl⟩
    rw [show Pn.hasCh 9 = false from rfl]
    go_wp2_with fail
    refine (plan_hasV _ _).mono ?_
    rintro e w3 ⟨rfl, rfl⟩
    rw [show Pn.hasV 9 = false from rfl]
    go_wp2_with fail
    refine (plan_next B _ bu bb l (i + 1) D1.out.src).mono ?_
    rintro e w2 ⟨rfl, s2, k2⟩
    have D2' := Lib.hid (D1.out.step s2 k2)
    clear s2 k2
    obtain ⟨cnt, hcnt⟩ : ∃ cnt : Nat, Pn.byte l (i + 1) % 7 = (cnt : Int) := ⟨(Pn.byte l (i + 1) % 7).toNat, by omega⟩
    have HCN : Hid ((Pn.byte l (i + 1) % 7).toNat = cnt) := Lib.hid (by omega)
    have hc7 : cnt < 7 := by omega
    rw [HCN.out] at HO
    generalize Pn.byte l (i + 1) = y at *
    go_wp2_with fail
    rw [hcnt]
    clear hcnt r2 r3 HCN
    refine (plan_next B _ bu bb l (i + 1 + 1) D2'.out.src).mono ?_
    rintro e w3 ⟨rfl, s3, k3⟩
    have D3 := Lib.hid (D2'.out.step s3 k3)
    obtain ⟨⟨b0, b1, b2, b3, b4, b5⟩, f0, f1, f2, f3, f4, f5⟩ := D3.out.2.2.2.1.six
    clear s3 k3
    obtain ⟨els, hels⟩ : ∃ els : Bool, (Pn.byte l (i + 2) % 2 == 1) = els := ⟨_, rfl⟩
    rw [hels] at HO
    have hels' : (Pn.byte l (i + 1 + 1) % 2 == 1) = els := hels
    clear hels
    generalize Pn.byte l (i + 1 + 1) = z at *
    have D4 : Hid (DCases B bu bb l w (i + 3) w.heap.size w1.heap.size els 0 (w3.setCell ⟨w1.heap.size, 5, none⟩ (.bool els))) := Lib.hid ⟨.slice none 0 0, [], (by
      have := D3.out.put 5 (.bool els)
      exact (by simpa using this : D2 B bu bb l w (w3.setCell ⟨w1.heap.size, 5, none⟩ (.bool els)) (i + 3) w.heap.size w1.heap.size [.int .i64 9, .int .i64 0, .int .i64 0, .int .i64 0, .slice none 0 0, .bool els])), GR.nil _ _ _ _, by simp⟩
    go_wp2_with fail
    clear hels' r4 r5 b0 b1 b2 b3 b4 b5 f0 f1 f2 f3 f4 f5 D1 D2' D3
    generalize w1.heap.size = bo at *
    go_loopw [44] (fun u wr => ∃ k : Nat, k ≤ cnt ∧ u = .int .i64 k ∧ DCases B bu bb l w (i + 3) w.heap.size bo els k wr) (fun u _ => cnt - (intOf u).toNat)
    case atStart => exact ⟨0, Nat.zero_le _, rfl, D4.out⟩
    case round =>
      obtain ⟨k, hk, rfl, vc, T, hd, hg, hT⟩ := hrel
      obtain ⟨wo, rfl⟩ : ∃ wo : World, wo = wr := ⟨_, rfl⟩
      obtain ⟨R, hRq⟩ : ∃ R, (Pn.runTo (Pn.cs1 l) (i + 3) k).1 = R := ⟨_, rfl⟩
      obtain ⟨j, hjq⟩ : ∃ j, (Pn.runTo (Pn.cs1 l) (i + 3) k).2 = j := ⟨_, rfl⟩
      have HL : Hid (R.length = k) := Lib.hid (by rw [← hRq]; exact Pn.runTo_len _ _)
      rw [hRq] at hg
      rw [hjq] at hd
      have HRq := Lib.hid hRq
      have Hjq := Lib.hid hjq
      have HD := Lib.hid hd
      have HG := Lib.hid hg
      have HT := Lib.hid hT
      obtain ⟨ao, cap, rfl⟩ := hg.shape
      clear hd hg hT hRq hjq D4
      by_cases hlt : k < cnt
      · cases hp : (Pn.byte l j % 2 == 1) with
        | true =>
          have hrj := Pn.byte_range HR.out j
          have hrj1 := Pn.byte_range HR.out (j + 1)
          have hrj2 := Pn.byte_range HR.out (j + 1 + 1)
          have HCS : Hid (Pn.cs1 l j = (⟨true, Pn.byte l (j + 1) % 9, Pn.byte l (j + 1 + 1)⟩, j + 1 + 1 + 1)) := Lib.hid (by unfold Pn.cs1; rw [hp]; rfl)
          obtain ⟨p0, p1⟩ := hrj
          obtain ⟨p2, p3⟩ := hrj1
          obtain ⟨p4, p5⟩ := hrj2
          go_wp2_with fail
          refine (plan_next B _ bu bb l j HD.out.src).mono ?_
          rintro e w4 ⟨rfl, s4, k4⟩
          have R1 := Lib.hid (RC.start HD.out HG.out HT.out s4 k4 [.bool true, .int .i64 0, .int .i64 0])
          clear s4 k4
          generalize Pn.byte l j = x at *
          go_wp2_with fail
          clear hp p0 p1
          refine (plan_next B _ bu bb l (j + 1) R1.out.src).mono ?_
          rintro e w5 ⟨rfl, s5, k5⟩
          have R2 := Lib.hid (R1.out.step s5 k5)
          obtain ⟨⟨c0, c1, c2⟩, f0, f1, f2⟩ := R2.out.blks.1.three
          clear s5 k5
          generalize Pn.byte l (j + 1) = y at *
          have R3 := Lib.hid (R2.out.put 1 (.int .i64 (y % 9)))
          go_wp2_with fail
          refine (plan_next B _ bu bb l (j + 1 + 1) R3.out.src).mono ?_
          rintro e w6 ⟨rfl, s6, k6⟩
          have R4 := Lib.hid (R3.out.step s6 k6)
          clear s6 k6 c0 c1 c2 f0 f1 f2
          have hb := R4.out.blks.1
          simp only [List.set_cons_succ, List.set_cons_zero] at hb
          obtain ⟨⟨c0, c1, c2⟩, f0, f1, f2⟩ := hb.three
          obtain ⟨⟨b0, b1, b2, b3, b4, b5⟩, g0, g1, g2, g3, g4, g5⟩ := R4.out.blks.2.six
          clear hb
          generalize Pn.byte l (j + 1 + 1) = z at *
          have R5 := Lib.hid (R4.out.put 2 (.int .i64 z))
          have hne : bo ≠ w4.heap.size := Ne.symm R5.out.2.2.2.2.2.2
          go_wp2_with (at_builtin; go_must (refine wp_gapp1 elemCase caseE_kept R5.out.2.1 (show caseE _ [.bool true, .int .i64 (y % 9), .int .i64 z] (⟨true, y % 9, z⟩ : Pn.Cs) [] from ⟨rfl, rfl⟩) rfl (by simp) (by simp [Value.oneCell']) (by rw [HL.out]; omega) ?_))
          intro ao7 cap7 w7 T7 r7 k7 s7
          obtain ⟨q1, q2, q3, q4⟩ := R5.out.app r7 k7 (fun x hx => by have := s7 x hx; simpa [World.setCell] using this)
          clear c0 c1 c2 f0 f1 f2 b0 b1 b2 b3 b4 b5 g0 g1 g2 g3 g4 g5 r7 k7 s7
          obtain ⟨⟨b0, b1, b2, b3, b4, b5⟩, g0, g1, g2, g3, g4, g5⟩ := q1.six
          have HN : Hid (DCases B bu bb l w (i + 3) w.heap.size bo els (k + 1) (w7.setCell ⟨bo, 4, none⟩ (.slice ao7 (R.length + 1) cap7))) := Lib.hid (DCases.next HRq.out Hjq.out HCS.out q2 q3 q4)
          clear q1 q2 q3 q4
          go_wp2_with fail
          go_roundw
          case rel => exact ⟨k + 1, by omega, by go_num, HN.out⟩
          case measure => simp [intOf]; omega
        | false =>
          have hrj := Pn.byte_range HR.out j
          have hrj1 := Pn.byte_range HR.out (j + 1)
          have hrj2 := Pn.byte_range HR.out (j + 1 + 1)
          have HCS : Hid (Pn.cs1 l j = (⟨false, Pn.byte l (j + 1) % 9, 0⟩, j + 1 + 1)) := Lib.hid (by unfold Pn.cs1; rw [hp]; rfl)
          obtain ⟨p0, p1⟩ := hrj
          obtain ⟨p2, p3⟩ := hrj1
          obtain ⟨p4, p5⟩ := hrj2
          go_wp2_with fail
          refine (plan_next B _ bu bb l j HD.out.src).mono ?_
          rintro e w4 ⟨rfl, s4, k4⟩
          have R1 := Lib.hid (RC.start HD.out HG.out HT.out s4 k4 [.bool false, .int .i64 0, .int .i64 0])
          clear s4 k4
          generalize Pn.byte l j = x at *
          go_wp2_with fail
          clear hp p0 p1
          refine (plan_next B _ bu bb l (j + 1) R1.out.src).mono ?_
          rintro e w5 ⟨rfl, s5, k5⟩
          have R2 := Lib.hid (R1.out.step s5 k5)
          obtain ⟨⟨c0, c1, c2⟩, f0, f1, f2⟩ := R2.out.blks.1.three
          clear s5 k5
          generalize Pn.byte l (j + 1) = y at *
          have R3 := Lib.hid (R2.out.put 1 (.int .i64 (y % 9)))
          obtain ⟨⟨b0, b1, b2, b3, b4, b5⟩, g0, g1, g2, g3, g4, g5⟩ := R2.out.blks.2.six
          have hne : bo ≠ w4.heap.size := Ne.symm R3.out.2.2.2.2.2.2
          go_wp2_with (at_builtin; go_must (refine wp_gapp1 elemCase caseE_kept R3.out.2.1 (show caseE _ [.bool false, .int .i64 (y % 9), .int .i64 0] (⟨false, y % 9, 0⟩ : Pn.Cs) [] from ⟨rfl, rfl⟩) rfl (by simp) (by simp [Value.oneCell']) (by rw [HL.out]; omega) ?_))
          intro ao7 cap7 w7 T7 r7 k7 s7
          obtain ⟨q1, q2, q3, q4⟩ := R3.out.app r7 k7 (fun x hx => by have := s7 x hx; simpa [World.setCell] using this)
          clear c0 c1 c2 f0 f1 f2 b0 b1 b2 b3 b4 b5 g0 g1 g2 g3 g4 g5 r7 k7 s7
          obtain ⟨⟨b0, b1, b2, b3, b4, b5⟩, g0, g1, g2, g3, g4, g5⟩ := q1.six
          have HN : Hid (DCases B bu bb l w (i + 3) w.heap.size bo els (k + 1) (w7.setCell ⟨bo, 4, none⟩ (.slice ao7 (R.length + 1) cap7))) := Lib.hid (DCases.next HRq.out Hjq.out HCS.out q2 q3 q4)
          clear q1 q2 q3 q4
          go_wp2_with fail
          go_roundw
          case rel => exact ⟨k + 1, by omega, by go_num, HN.out⟩
          case measure => simp [intOf]; omega
      · obtain rfl : k = cnt := by omega
        rw [HRq.out, Hjq.out] at HO
        obtain ⟨⟨b0, b1, b2, b3, b4, b5⟩, g0, g1, g2, g3, g4, g5⟩ := HD.out.2.2.2.1.six
        obtain ⟨⟨z0, z1, z2, z3, z4, z5⟩, y0, y1, y2, y3, y4, y5⟩ := Blk.six HD.out.2.2.1
        have hgv := HG.out.gv
        rw [List.append_nil] at hgv
        have HGV := Lib.hid hgv
        clear hgv
        go_wp2_with fail
        refine bodyPost_ret (v := .agg #[.int .i64 9, .int .i64 0, .int .i64 0, .int .i64 0, .slice ao R.length cap, .bool els]) (by simp [results, Try.results87, go_sem, z0, z1, z2, z3, z4, z5]) rfl ?_
        have hf := HD.out.fin (.int .i64 9) (.int .i64 0) (.int .i64 0) (.int .i64 0) (.slice ao R.length cap) (.bool els) HGV.out (fun x hx => (HT.out x hx).1) (fun hx => (HT.out _ hx).2.1 rfl)
        exact op_ret HO.out rfl hf.2.2 (fun x hx => (HT.out x hx).1) hf.2.1 hf.1
  · have HO : Hid (Pn.one l i = (⟨Pn.byte l i % 9 + 1, Pn.byte l (i + 1) % 9, 0, 0, [], false⟩, i + 2)) := Lib.hid (by unfold Pn.one; rw [if_neg c1, if_neg c2, if_neg c3])
    obtain ⟨r0, r1⟩ := hr0
    obtain ⟨r2, r3⟩ := hr1
    clear hr2
    have HC : Hid (Pn.hasCh (Pn.byte l i % 9 + 1) = true) := Lib.hid (by simp [Pn.hasCh]; omega)
    have HV : Hid (Pn.hasV (Pn.byte l i % 9 + 1) = false) := Lib.hid (by simp [Pn.hasV]; omega)
    have q1 : (Pn.byte l i % 9 + 1 == 1) = false := by simp; omega
    have q9 : (Pn.byte l i % 9 + 1 != 9) = true := by simp; omega
    clear c1 c2 c3
    go_enter Try.func87, Try.ntmps87
    go_wp2_with fail
    refine (plan_next B _ bu bb l i (HS.out.keep ((Keeps.refl [] w).alloc _) (by simp))).mono ?_
    rintro e w1 ⟨rfl, s1, k1⟩
    have D1 := Lib.hid (D2.first (v := .bool true) HS.out hB s1 k1 [.int .i64 (Pn.byte l i % 9 + 1), .int .i64 0, .int .i64 0, .int .i64 0, .slice none 0 0, .bool false])
    clear s1 k1
    generalize Pn.byte l i = x at *
    obtain ⟨kd, hkd⟩ : ∃ kd, x % 9 + 1 = kd := ⟨_, rfl⟩
    rw [hkd] at D1 HC HV HO q1 q9
    go_wp2_with fail
    clear hkd r0 r1
    refine (plan_hasCh _ _).mono ?_
    rintro e w2 ⟨rfl, rfl⟩
    rw [HC.out]
    go_wp2_with fail
    refine (plan_next B _ bu bb l (i + 1) D1.out.src).mono ?_
    rintro e w2 ⟨rfl, s2, k2⟩
    have D2' := Lib.hid (D1.out.step s2 k2)
    obtain ⟨⟨b0, b1, b2, b3, b4, b5⟩, f0, f1, f2, f3, f4, f5⟩ := D2'.out.2.2.2.1.six
    clear s2 k2
    generalize Pn.byte l (i + 1) = y at *
    go_wp2_with fail
    refine (plan_hasV _ _).mono ?_
    rintro e w3 ⟨rfl, rfl⟩
    rw [HV.out]
    have D3 := Lib.hid (D2'.out.put 1 (.int .i64 (y % 9)))
    obtain ⟨⟨z0, z1, z2, z3, z4, z5⟩, g0, g1, g2, g3, g4, g5⟩ := Blk.six D3.out.2.2.1
    go_wp2_with fail
    refine bodyPost_ret (v := .agg #[.int .i64 kd, .int .i64 (y % 9), .int .i64 0, .int .i64 0, .slice none 0 0, .bool false]) (by simp [results, Try.results87, go_sem, z0, z1, z2, z3, z4, z5]) rfl ?_
    have hf := D3.out.fin (.int .i64 kd) (.int .i64 (y % 9)) (.int .i64 0) (.int .i64 0) (.slice none 0 0) (.bool false) (GV.nil caseE 3 _) (by simp) (by simp)
    exact op_ret HO.out rfl hf.2.2 (by simp) hf.2.1 hf.1
end Go.Proofs.Ytopkfhmdgheghaa
