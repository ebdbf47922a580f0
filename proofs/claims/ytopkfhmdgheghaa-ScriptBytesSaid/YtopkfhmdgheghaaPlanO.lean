/-
  handoffref10.one: its contract.
  Conditions: none.
-/
import Derived.Test.YtopkfhmdgheghaaPlanD
namespace Go.Proofs.Ytopkfhmdgheghaa
open Go.RowKit
set_option linter.unusedVariables false
set_option linter.unusedSimpArgs false
set_option linter.unnecessarySimpa false

theorem ref10_at_of (w : World) (v : Value) (l : List Int) (S : List Nat) (n : Int) (i : Nat) (hn : n = (i : Int)) (h : GV (numE .u8) 1 w v l S) :
    Calls Try.prog 88 #[v, .int .i64 n] w fun e w' => e = .returned (.int .i64 (Pn.byte l i)) ∧ w = w' := by
  subst hn; exact ref10_at w v l S i h

def OnePost (r : Pn.Op × Nat) (w : World) (e : Ending) (w' : World) : Prop :=
  ∃ vc U, e = .returned (.tuple #[.agg #[.int .i64 r.1.kind, .int .i64 r.1.ch, .int .i64 r.1.n, .int .i64 r.1.v, vc, .bool r.1.els], .int .i64 r.2]) ∧ GV caseE 3 w' vc r.1.cases U ∧ (∀ x ∈ U, w.heap.size ≤ x) ∧ Keeps [] w w'
/-- within one: the result's block b0, the op's block bo -/
def E2 (w wr : World) (b0 bo : Nat) (cs : List Value) : Prop :=
  Keeps [] w wr ∧ Blk wr b0 zeroOp 33 ∧ Blk wr bo cs 33 ∧ b0 ≠ bo ∧ w.heap.size ≤ b0 ∧ w.heap.size ≤ bo
section
variable {w wr w' : World} {b0 bo : Nat} {cs : List Value}
theorem E2.put (h : E2 w wr b0 bo cs) (j : Nat) (v : Value) : E2 w (wr.setCell ⟨bo, j, none⟩ v) b0 bo (cs.set j v) := by
  obtain ⟨h1, h3, h4, h5, h6, h7⟩ := h
  have k : Keeps [bo] wr (wr.setCell ⟨bo, j, none⟩ v) := (Keeps.refl _ wr).setCell (by simp) _
  exact ⟨h1.trans k (by simp; omega), h3.keep k (by simpa using h5), h4.set j v, h5, h6, h7⟩
theorem E2.then (h : E2 w wr b0 bo cs) (k : Keeps [] wr w') : E2 w w' b0 bo cs := by
  obtain ⟨h1, h3, h4, h5, h6, h7⟩ := h
  exact ⟨h1.then k, h3.keep k (by simp), h4.keep k (by simp), h5, h6, h7⟩
theorem E2.first (w : World) (cs : List Value) : E2 w ((w.alloc (.cells zeroOp.toArray 33)).alloc (.cells cs.toArray 33)) w.heap.size (w.heap.size + 1) cs := by
  refine ⟨((Keeps.refl [] w).alloc _).alloc _, (Blk.fresh w zeroOp _ _ rfl).alloc _, Blk.fresh _ cs _ _ (by simp), by omega, Nat.le_refl _, by omega⟩
theorem E2.fin (h : E2 w wr b0 bo cs) (v0 v1 v2 v3 v4 v5 : Value) {U : List Nat} {C : List Pn.Cs} {vc : Value} (hv : GV caseE 3 wr vc C U) (hU2 : b0 ∉ U) :
    Keeps [] w ((((((wr.setCell ⟨b0, 0, none⟩ v0).setCell ⟨b0, 1, none⟩ v1).setCell ⟨b0, 2, none⟩ v2).setCell ⟨b0, 3, none⟩ v3).setCell ⟨b0, 4, none⟩ v4).setCell ⟨b0, 5, none⟩ v5) ∧
    GV caseE 3 ((((((wr.setCell ⟨b0, 0, none⟩ v0).setCell ⟨b0, 1, none⟩ v1).setCell ⟨b0, 2, none⟩ v2).setCell ⟨b0, 3, none⟩ v3).setCell ⟨b0, 4, none⟩ v4).setCell ⟨b0, 5, none⟩ v5) vc C U := by
  obtain ⟨h1, h3, h4, h5, h6, h7⟩ := h
  have k : Keeps [b0] wr ((((((wr.setCell ⟨b0, 0, none⟩ v0).setCell ⟨b0, 1, none⟩ v1).setCell ⟨b0, 2, none⟩ v2).setCell ⟨b0, 3, none⟩ v3).setCell ⟨b0, 4, none⟩ v4).setCell ⟨b0, 5, none⟩ v5) :=
    ((((((Keeps.refl _ wr).setCell (by simp) _).setCell (by simp) _).setCell (by simp) _).setCell (by simp) _).setCell (by simp) _).setCell (by simp) _
  exact ⟨h1.trans k (by simp; omega), hv.keep caseE_kept k (fun x hx hm => by simp at hm; subst hm; exact hU2 hx)⟩
end
/-- the cases, one behind the other -/
def ECases (l : List Int) (w : World) (i0 b0 bo : Nat) (els : Bool) (k : Nat) (i : Value) (wr : World) : Prop :=
  ∃ vc T, E2 w wr b0 bo [.int .i64 9, .int .i64 0, .int .i64 0, .int .i64 0, vc, .bool els] ∧ GR caseE 3 wr vc 131 (Pn.runTo (Pn.cs1 l) i0 k).1 T [] ∧ (∀ x ∈ T, w.heap.size ≤ x ∧ x ≠ b0 ∧ x ≠ bo) ∧ i = .int .i64 ((Pn.runTo (Pn.cs1 l) i0 k).2 : Nat)
def RE (w wr : World) (b0 bo : Nat) (els : Bool) (vc : Value) (R : List Pn.Cs) (T : List Nat) (bc : Nat) (cc : List Value) : Prop :=
  E2 w wr b0 bo [.int .i64 9, .int .i64 0, .int .i64 0, .int .i64 0, vc, .bool els] ∧ GR caseE 3 wr vc 131 R T [] ∧ (∀ x ∈ T, w.heap.size ≤ x ∧ x ≠ b0 ∧ x ≠ bo ∧ x ≠ bc) ∧ Blk wr bc cc 131 ∧ w.heap.size ≤ bc ∧ bc ≠ b0 ∧ bc ≠ bo
section
variable {l : List Int} {w wr w' : World} {j b0 bo bc : Nat} {els : Bool} {vc : Value} {R : List Pn.Cs} {T : List Nat} {cc : List Value}
theorem RE.start (h : E2 w wr b0 bo [.int .i64 9, .int .i64 0, .int .i64 0, .int .i64 0, vc, .bool els]) (hg : GR caseE 3 wr vc 131 R T []) (hT : ∀ x ∈ T, w.heap.size ≤ x ∧ x ≠ b0 ∧ x ≠ bo) (cc : List Value) :
    RE w (wr.alloc (.cells cc.toArray 131)) b0 bo els vc R T wr.heap.size cc := by
  have ka : Keeps [] wr (wr.alloc (.cells cc.toArray 131)) := (Keeps.refl _ wr).alloc _
  have hlt := hg.lt.1
  have hz0 : b0 < wr.heap.size := h.2.1.lt
  have hzo : bo < wr.heap.size := h.2.2.1.lt
  have hzw := h.1.size
  exact ⟨h.then ka, hg.then caseE_kept ka, fun x hx => ⟨(hT x hx).1, (hT x hx).2.1, (hT x hx).2.2, by have := hlt x hx; omega⟩, Blk.fresh wr cc _ _ rfl, hzw, by omega, by omega⟩
theorem RE.put (h : RE w wr b0 bo els vc R T bc cc) (f : Nat) (v : Value) : RE w (wr.setCell ⟨bc, f, none⟩ v) b0 bo els vc R T bc (cc.set f v) := by
  obtain ⟨⟨d1, d3, d4, d5, d6, d7⟩, h2, h3, h4, h5, h6, h7⟩ := h
  have k : Keeps [bc] wr (wr.setCell ⟨bc, f, none⟩ v) := (Keeps.refl _ wr).setCell (by simp) _
  exact ⟨⟨d1.trans k (by simp; omega), d3.keep k (by simpa using Ne.symm h6), d4.keep k (by simpa using Ne.symm h7), d5, d6, d7⟩, h2.keep caseE_kept k (fun x hx hm => by simp at hm; exact (h3 x hx).2.2.2 hm) (by simp), h3, h4.set f v, h5, h6, h7⟩
theorem RE.blks (h : RE w wr b0 bo els vc R T bc cc) : Blk wr bc cc 131 ∧ Blk wr bo [.int .i64 9, .int .i64 0, .int .i64 0, .int .i64 0, vc, .bool els] 33 := ⟨h.2.2.2.1, h.1.2.2.1⟩
theorem RE.app (h : RE w wr b0 bo els vc R T bc cc) {c : Pn.Cs} {w1 : World} {v' : Value} {T' : List Nat} (r : GR caseE 3 w1 v' 131 (R ++ [c]) T' []) (k : Keeps T wr w1) (hT' : ∀ x ∈ T', x ∈ T ∨ wr.heap.size ≤ x) :
    Blk w1 bo [.int .i64 9, .int .i64 0, .int .i64 0, .int .i64 0, vc, .bool els] 33 ∧ E2 w (w1.setCell ⟨bo, 4, none⟩ v') b0 bo [.int .i64 9, .int .i64 0, .int .i64 0, .int .i64 0, v', .bool els] ∧ GR caseE 3 (w1.setCell ⟨bo, 4, none⟩ v') v' 131 (R ++ [c]) T' [] ∧ ∀ x ∈ T', w.heap.size ≤ x ∧ x ≠ b0 ∧ x ≠ bo := by
  obtain ⟨h1, h2, h3, h4, h5, h6, h7⟩ := h
  obtain ⟨d1, d3, d4, d5, d6, d7⟩ := h1
  have hz0 := d3.lt
  have hzo := d4.lt
  have hzw := d1.size
  have hx : ∀ x ∈ T', w.heap.size ≤ x ∧ x ≠ b0 ∧ x ≠ bo := fun x hx => by
    rcases hT' x hx with h | h
    · exact ⟨(h3 x h).1, (h3 x h).2.1, (h3 x h).2.2.1⟩
    · omega
  have hD : E2 w w1 b0 bo [.int .i64 9, .int .i64 0, .int .i64 0, .int .i64 0, vc, .bool els] :=
    ⟨d1.trans k (fun x hx => .inr (h3 x hx).1), d3.keep k (fun hm => (h3 _ hm).2.1 rfl), d4.keep k (fun hm => (h3 _ hm).2.2.1 rfl), d5, d6, d7⟩
  have k2 : Keeps [bo] w1 (w1.setCell ⟨bo, 4, none⟩ v') := (Keeps.refl _ w1).setCell (by simp) _
  exact ⟨hD.2.2.1, by have := hD.put 4 v'; simpa using this, r.keep caseE_kept k2 (fun x hx' hm => by simp at hm; exact (hx x hx').2.2 hm) (by simp), hx⟩
end
theorem ECases.next {l : List Int} {w wr : World} {i0 b0 bo j j' : Nat} {els : Bool} {k : Nat} {R : List Pn.Cs} {c : Pn.Cs} {v iv : Value} {T : List Nat} (hR : (Pn.runTo (Pn.cs1 l) i0 k).1 = R) (hj : (Pn.runTo (Pn.cs1 l) i0 k).2 = j) (hc : Pn.cs1 l j = (c, j'))
    (h1 : E2 w wr b0 bo [.int .i64 9, .int .i64 0, .int .i64 0, .int .i64 0, v, .bool els]) (h2 : GR caseE 3 wr v 131 (R ++ [c]) T []) (h3 : ∀ x ∈ T, w.heap.size ≤ x ∧ x ≠ b0 ∧ x ≠ bo) (hi : iv = .int .i64 (j' : Int)) : ECases l w i0 b0 bo els (k + 1) iv wr := by
  subst hR hj
  refine ⟨v, T, h1, ?_, h3, ?_⟩
  · show GR caseE 3 wr v _ ((Pn.runTo (Pn.cs1 l) i0 k).1 ++ [(Pn.cs1 l (Pn.runTo (Pn.cs1 l) i0 k).2).1]) T []
    rw [hc]; exact h2
  · show iv = .int .i64 ((Pn.cs1 l (Pn.runTo (Pn.cs1 l) i0 k).2).2 : Nat)
    rw [hc]; exact hi
theorem one_ret {r : Pn.Op × Nat} {o : Pn.Op} {j : Nat} (h : r = (o, j)) {w w' : World} {e : Ending} {vc : Value} {U : List Nat} (he : e = .returned (.tuple #[.agg #[.int .i64 o.kind, .int .i64 o.ch, .int .i64 o.n, .int .i64 o.v, vc, .bool o.els], .int .i64 j])) (hv : GV caseE 3 w' vc o.cases U) (hU : ∀ x ∈ U, w.heap.size ≤ x) (k : Keeps [] w w') : OnePost r w e w' := by
  subst h; exact ⟨vc, U, he, hv, hU, k⟩
theorem cs1_le (l : List Int) (i : Nat) : (Pn.cs1 l i).2 ≤ i + 3 := by
  unfold Pn.cs1; split <;> simp_all

set_option maxRecDepth 100000 in
set_option maxHeartbeats 3200000 in
theorem ref10_one (w : World) (v : Value) (l : List Int) (S : List Nat) (n : Int) (i : Nat) (hn : n = (i : Int)) (hi : i ≤ 1000000) (h : GV (numE .u8) 1 w v l S) :
    Calls Try.prog 89 #[v, .int .i64 n] w (OnePost (Pn.one l i) w) := by
  subst hn
  have hrg : ∀ x ∈ l, 0 ≤ x ∧ x ≤ 255 := fun x hx => wf8 (h.wf x hx)
  have hr0 := Pn.byte_range hrg i
  have hr1 := Pn.byte_range hrg (i + 1)
  have hr2 := Pn.byte_range hrg (i + 2)
  have HS := Lib.hid h
  have HR := Lib.hid hrg
  clear h hrg
  by_cases c1 : Pn.byte l i % 9 = 0
  · have HO : Hid (Pn.one l i = (⟨1, 0, Pn.byte l (i + 1) % 5, 0, [], false⟩, i + 2)) := Lib.hid (by unfold Pn.one; rw [if_pos c1])
    obtain ⟨r0, r1⟩ := hr0
    obtain ⟨r2, r3⟩ := hr1
    clear hr2
    go_enter Try.func89, Try.ntmps89
    go_wp2_with fail
    refine (ref10_at_of _ _ l S _ i rfl (HS.out.then (numE_kept _) ((Keeps.refl [] w).alloc _))).mono ?_
    rintro e w1 ⟨rfl, rfl⟩
    generalize Pn.byte l i = x at *
    go_wp2_with fail
    refine (ref10_hasCh _ _).mono ?_
    rintro e w2 ⟨rfl, hw2⟩
    rw [show Pn.hasCh 1 = false from rfl]
    have D1 : Hid (E2 w w2 w.heap.size (w.heap.size + 1) [.int .i64 1, .int .i64 0, .int .i64 0, .int .i64 0, .slice none 0 0, .bool false]) := Lib.hid (by rw [← hw2]; exact E2.first w [.int .i64 1, .int .i64 0, .int .i64 0, .int .i64 0, .slice none 0 0, .bool false])
    clear hw2
    have hb := D1.out.2.2.1
    try simp only [List.set_cons_succ, List.set_cons_zero] at hb
    obtain ⟨⟨b0, b1, b2, b3, b4, b5⟩, f0, f1, f2, f3, f4, f5⟩ := hb.six
    clear hb
    go_wp2_with fail
    refine (ref10_at_of _ _ l S _ (i + 1) (by omega) (HS.out.then (numE_kept _) D1.out.1)).mono ?_
    rintro e w5 ⟨rfl, rfl⟩
    generalize Pn.byte l (i + 1) = y at *
    go_wp2_with fail
    refine (ref10_hasV _ _).mono ?_
    rintro e w3 ⟨rfl, rfl⟩
    rw [show Pn.hasV 1 = false from rfl]
    have D3 := Lib.hid (D1.out.put 2 (.int .i64 (y % 5)))
    clear b0 b1 b2 b3 b4 b5 f0 f1 f2 f3 f4 f5
    obtain ⟨⟨z0, z1, z2, z3, z4, z5⟩, g0, g1, g2, g3, g4, g5⟩ := Blk.six D3.out.2.1
    have hb := D3.out.2.2.1
    try simp only [List.set_cons_succ, List.set_cons_zero] at hb
    obtain ⟨⟨b0, b1, b2, b3, b4, b5⟩, f0, f1, f2, f3, f4, f5⟩ := hb.six
    clear hb
    go_wp2_with fail
    refine bodyPost_ret (v := .tuple #[.agg #[.int .i64 1, .int .i64 0, .int .i64 (y % 5), .int .i64 0, .slice none 0 0, .bool false], .int .i64 ((i : Int) + 1 + 1)]) (by simp [results, Try.results89, go_sem, z0, z1, z2, z3, z4, z5]) rfl ?_
    have hf := D3.out.fin (.int .i64 1) (.int .i64 0) (.int .i64 (y % 5)) (.int .i64 0) (.slice none 0 0) (.bool false) (GV.nil caseE 3 _) (by simp)
    exact one_ret HO.out (by simp; try omega) hf.2 (by simp) hf.1
  by_cases c2 : Pn.byte l i % 9 = 1 ∨ Pn.byte l i % 9 = 3
  · have HO : Hid (Pn.one l i = (⟨Pn.byte l i % 9 + 1, Pn.byte l (i + 1) % 9, 0, Pn.byte l (i + 2), [], false⟩, i + 3)) := Lib.hid (by unfold Pn.one; rw [if_neg c1, if_pos c2])
    obtain ⟨r0, r1⟩ := hr0
    obtain ⟨r2, r3⟩ := hr1
    obtain ⟨r4, r5⟩ := hr2
    have HC : Hid (Pn.hasCh (Pn.byte l i % 9 + 1) = true) := Lib.hid (by simp [Pn.hasCh]; omega)
    have HV : Hid (Pn.hasV (Pn.byte l i % 9 + 1) = true) := Lib.hid (by simp [Pn.hasV]; omega)
    have q1 : (Pn.byte l i % 9 + 1 == 1) = false := by simp; omega
    have q9 : (Pn.byte l i % 9 + 1 != 9) = true := by simp; omega
    clear c1 c2
    go_enter Try.func89, Try.ntmps89
    go_wp2_with fail
    refine (ref10_at_of _ _ l S _ i rfl (HS.out.then (numE_kept _) ((Keeps.refl [] w).alloc _))).mono ?_
    rintro e w1 ⟨rfl, rfl⟩
    generalize Pn.byte l i = x at *
    obtain ⟨kd, hkd⟩ : ∃ kd, x % 9 + 1 = kd := ⟨_, rfl⟩
    rw [hkd] at HC HV HO q1 q9
    go_wp2_with fail
    clear hkd r0 r1
    refine (ref10_hasCh _ _).mono ?_
    rintro e w2 ⟨rfl, hw2⟩
    rw [HC.out]
    have D1 : Hid (E2 w w2 w.heap.size (w.heap.size + 1) [.int .i64 kd, .int .i64 0, .int .i64 0, .int .i64 0, .slice none 0 0, .bool false]) := Lib.hid (by rw [← hw2]; exact E2.first w [.int .i64 kd, .int .i64 0, .int .i64 0, .int .i64 0, .slice none 0 0, .bool false])
    clear hw2
    have hb := D1.out.2.2.1
    try simp only [List.set_cons_succ, List.set_cons_zero] at hb
    obtain ⟨⟨b0, b1, b2, b3, b4, b5⟩, f0, f1, f2, f3, f4, f5⟩ := hb.six
    clear hb
    go_wp2_with fail
    refine (ref10_at_of _ _ l S _ (i + 1) (by omega) (HS.out.then (numE_kept _) D1.out.1)).mono ?_
    rintro e w5 ⟨rfl, rfl⟩
    generalize Pn.byte l (i + 1) = y at *
    go_wp2_with fail
    refine (ref10_hasV _ _).mono ?_
    rintro e w3 ⟨rfl, rfl⟩
    rw [HV.out]
    have D3 := Lib.hid (D1.out.put 1 (.int .i64 (y % 9)))
    clear b0 b1 b2 b3 b4 b5 f0 f1 f2 f3 f4 f5
    have hb := D3.out.2.2.1
    try simp only [List.set_cons_succ, List.set_cons_zero] at hb
    obtain ⟨⟨b0, b1, b2, b3, b4, b5⟩, f0, f1, f2, f3, f4, f5⟩ := hb.six
    clear hb
    go_wp2_with fail
    refine (ref10_at_of _ _ l S _ (i + 2) (by omega) (HS.out.then (numE_kept _) D3.out.1)).mono ?_
    rintro e w3 ⟨rfl, rfl⟩
    generalize Pn.byte l (i + 2) = z at *
    have D5 := Lib.hid (D3.out.put 3 (.int .i64 z))
    go_upto_if 49 with fail
    clear b0 b1 b2 b3 b4 b5 f0 f1 f2 f3 f4 f5
    obtain ⟨⟨z0, z1, z2, z3, z4, z5⟩, g0, g1, g2, g3, g4, g5⟩ := Blk.six D5.out.2.1
    have hb := D5.out.2.2.1
    try simp only [List.set_cons_succ, List.set_cons_zero] at hb
    obtain ⟨⟨b0, b1, b2, b3, b4, b5⟩, f0, f1, f2, f3, f4, f5⟩ := hb.six
    clear hb
    go_wp2_with fail
    refine bodyPost_ret (v := .tuple #[.agg #[.int .i64 kd, .int .i64 (y % 9), .int .i64 0, .int .i64 z, .slice none 0 0, .bool false], .int .i64 ((i : Int) + 1 + 1 + 1)]) (by simp [results, Try.results89, go_sem, z0, z1, z2, z3, z4, z5]) rfl ?_
    have hf := D5.out.fin (.int .i64 kd) (.int .i64 (y % 9)) (.int .i64 0) (.int .i64 z) (.slice none 0 0) (.bool false) (GV.nil caseE 3 _) (by simp)
    exact one_ret HO.out (by simp; try omega) hf.2 (by simp) hf.1
  by_cases c3 : Pn.byte l i % 9 = 8
  · have HO : Hid (Pn.one l i = (⟨9, 0, 0, 0, (Pn.runTo (Pn.cs1 l) (i + 3) (Pn.byte l (i + 1) % 7).toNat).1, Pn.byte l (i + 2) % 2 == 1⟩, (Pn.runTo (Pn.cs1 l) (i + 3) (Pn.byte l (i + 1) % 7).toNat).2)) := Lib.hid (by unfold Pn.one; rw [if_neg c1, if_neg c2, if_pos c3])
    obtain ⟨r0, r1⟩ := hr0
    obtain ⟨r2, r3⟩ := hr1
    obtain ⟨r4, r5⟩ := hr2
    clear c1 c2
    go_enter Try.func89, Try.ntmps89
    go_wp2_with fail
    refine (ref10_at_of _ _ l S _ i rfl (HS.out.then (numE_kept _) ((Keeps.refl [] w).alloc _))).mono ?_
    rintro e w1 ⟨rfl, rfl⟩
    generalize Pn.byte l i = x at *
    go_wp2_with fail
    clear c3 r0 r1
    refine (ref10_hasCh _ _).mono ?_
    rintro e w2 ⟨rfl, hw2⟩
    rw [show Pn.hasCh 9 = false from rfl]
    have D1 : Hid (E2 w w2 w.heap.size (w.heap.size + 1) [.int .i64 9, .int .i64 0, .int .i64 0, .int .i64 0, .slice none 0 0, .bool false]) := Lib.hid (by rw [← hw2]; exact E2.first w [.int .i64 9, .int .i64 0, .int .i64 0, .int .i64 0, .slice none 0 0, .bool false])
    clear hw2
    have hb := D1.out.2.2.1
    try simp only [List.set_cons_succ, List.set_cons_zero] at hb
    obtain ⟨⟨b0, b1, b2, b3, b4, b5⟩, f0, f1, f2, f3, f4, f5⟩ := hb.six
    clear hb
    go_wp2_with fail
    refine (ref10_hasV _ _).mono ?_
    rintro e w3 ⟨rfl, rfl⟩
    rw [show Pn.hasV 9 = false from rfl]
    go_wp2_with fail
    refine (ref10_at_of _ _ l S _ (i + 1) (by omega) (HS.out.then (numE_kept _) D1.out.1)).mono ?_
    rintro e w5 ⟨rfl, rfl⟩
    obtain ⟨cnt, hcnt⟩ : ∃ cnt : Nat, Pn.byte l (i + 1) % 7 = (cnt : Int) := ⟨(Pn.byte l (i + 1) % 7).toNat, by omega⟩
    have HCN : Hid ((Pn.byte l (i + 1) % 7).toNat = cnt) := Lib.hid (by omega)
    have hc7 : cnt < 7 := by omega
    rw [HCN.out] at HO
    generalize Pn.byte l (i + 1) = y at *
    go_wp2_with fail
    rw [hcnt]
    clear hcnt r2 r3 HCN
    refine (ref10_at_of _ _ l S _ (i + 2) (by omega) (HS.out.then (numE_kept _) D1.out.1)).mono ?_
    rintro e w3 ⟨rfl, rfl⟩
    obtain ⟨els, hels⟩ : ∃ els : Bool, (Pn.byte l (i + 2) % 2 == 1) = els := ⟨_, rfl⟩
    rw [hels] at HO
    generalize Pn.byte l (i + 2) = z at *
    have D4 : Hid (ECases l w (i + 3) w.heap.size (w.heap.size + 1) els 0 (.int .i64 ((i : Int) + 1 + 2)) (w2.setCell ⟨w.heap.size + 1, 5, none⟩ (.bool els))) := Lib.hid ⟨.slice none 0 0, [], (by have := D1.out.put 5 (.bool els); simpa using this), GR.nil _ _ _ _, by simp, by simp [Pn.runTo]; omega⟩
    go_wp2_with fail
    clear hels r4 r5 b0 b1 b2 b3 b4 b5 f0 f1 f2 f3 f4 f5 D1
    go_loopw [8, 1] (fun u iv wr => ∃ k : Nat, k ≤ cnt ∧ u = .int .i64 k ∧ ECases l w (i + 3) w.heap.size (w.heap.size + 1) els k iv wr) (fun u _ _ => cnt - (intOf u).toNat)
    case atStart => exact ⟨0, Nat.zero_le _, rfl, D4.out⟩
    case round =>
      obtain ⟨k, hk, rfl, vc, T, hd, hg, hT, rfl⟩ := hrel
      obtain ⟨wo, rfl⟩ : ∃ wo : World, wo = wr := ⟨_, rfl⟩
      obtain ⟨R, hRq⟩ : ∃ R, (Pn.runTo (Pn.cs1 l) (i + 3) k).1 = R := ⟨_, rfl⟩
      have hjle := Pn.runTo_ge (cs1_le l) (i + 3) k
      obtain ⟨j, hjq⟩ : ∃ j, (Pn.runTo (Pn.cs1 l) (i + 3) k).2 = j := ⟨_, rfl⟩
      rw [hjq] at hjle
      have hj2 : j ≤ 2000000 := by omega
      have HL : Hid (R.length = k) := Lib.hid (by rw [← hRq]; exact Pn.runTo_len _ _)
      rw [hRq] at hg
      rw [hjq]
      have HRq := Lib.hid hRq
      have Hjq := Lib.hid hjq
      have HD := Lib.hid hd
      have HG := Lib.hid hg
      have HT := Lib.hid hT
      obtain ⟨ao, cap, rfl⟩ := hg.shape
      clear hd hg hT hRq hjq D4 hjle
      by_cases hlt : k < cnt
      · cases hp : (Pn.byte l j % 2 == 1) with
        | true =>
          have hrj := Pn.byte_range HR.out j
          have hrj1 := Pn.byte_range HR.out (j + 1)
          have hrj2 := Pn.byte_range HR.out (j + 2)
          have HCS : Hid (Pn.cs1 l j = (⟨true, Pn.byte l (j + 1) % 9, Pn.byte l (j + 2)⟩, j + 3)) := Lib.hid (by unfold Pn.cs1; rw [hp]; rfl)
          obtain ⟨p0, p1⟩ := hrj
          obtain ⟨p2, p3⟩ := hrj1
          obtain ⟨p4, p5⟩ := hrj2
          go_wp2_with fail
          refine (ref10_at_of _ _ l S _ j rfl (HS.out.then (numE_kept _) HD.out.1)).mono ?_
          rintro e w4 ⟨rfl, rfl⟩
          generalize Pn.byte l j = x at *
          go_wp2_with fail
          refine (ref10_at_of _ _ l S _ (j + 1) (by omega) (HS.out.then (numE_kept _) HD.out.1)).mono ?_
          rintro e w4 ⟨rfl, rfl⟩
          generalize Pn.byte l (j + 1) = y at *
          have R3 := Lib.hid (RE.start HD.out HG.out HT.out [.bool true, .int .i64 (y % 9), .int .i64 0])
          obtain ⟨⟨c0, c1, c2⟩, f0, f1, f2⟩ := R3.out.blks.1.three
          go_wp2_with fail
          refine (ref10_at_of _ _ l S _ (j + 2) (by omega) (HS.out.then (numE_kept _) R3.out.1.1)).mono ?_
          rintro e w6 ⟨rfl, rfl⟩
          generalize Pn.byte l (j + 2) = z at *
          have R5 := Lib.hid (RE.start HD.out HG.out HT.out [.bool true, .int .i64 (y % 9), .int .i64 z])
          obtain ⟨⟨b0, b1, b2, b3, b4, b5⟩, g0, g1, g2, g3, g4, g5⟩ := R5.out.blks.2.six
          have hne : w.heap.size + 1 ≠ wo.heap.size := Ne.symm R5.out.2.2.2.2.2.2
          go_wp2_with (at_builtin; go_must (refine wp_gapp1 elemCase caseE_kept R5.out.2.1 (show caseE _ [.bool true, .int .i64 (y % 9), .int .i64 z] (⟨true, y % 9, z⟩ : Pn.Cs) [] from ⟨rfl, rfl⟩) rfl (by simp) (by simp [Value.oneCell']) (by rw [HL.out]; omega) ?_))
          intro ao7 cap7 w7 T7 r7 k7 s7
          obtain ⟨q1, q2, q3, q4⟩ := R5.out.app r7 k7 (fun x hx => by have := s7 x hx; simpa [World.setCell] using this)
          clear c0 c1 c2 f0 f1 f2 b0 b1 b2 b3 b4 b5 g0 g1 g2 g3 g4 g5 r7 k7 s7
          obtain ⟨⟨b0, b1, b2, b3, b4, b5⟩, g0, g1, g2, g3, g4, g5⟩ := q1.six
          have HN : Hid (ECases l w (i + 3) w.heap.size (w.heap.size + 1) els (k + 1) (.int .i64 ((j : Int) + 2 + 1)) (w7.setCell ⟨w.heap.size + 1, 4, none⟩ (.slice ao7 (R.length + 1) cap7))) := Lib.hid (ECases.next HRq.out Hjq.out HCS.out q2 q3 q4 (by simp; try omega))
          clear q1 q2 q3 q4
          go_wp2_with fail
          go_roundw
          case rel => exact ⟨k + 1, by omega, by go_num, HN.out⟩
          case measure => simp [intOf]; omega
        | false =>
          have hrj := Pn.byte_range HR.out j
          have hrj1 := Pn.byte_range HR.out (j + 1)
          have hrj2 := Pn.byte_range HR.out (j + 2)
          have HCS : Hid (Pn.cs1 l j = (⟨false, Pn.byte l (j + 1) % 9, 0⟩, j + 2)) := Lib.hid (by unfold Pn.cs1; rw [hp]; rfl)
          obtain ⟨p0, p1⟩ := hrj
          obtain ⟨p2, p3⟩ := hrj1
          obtain ⟨p4, p5⟩ := hrj2
          go_wp2_with fail
          refine (ref10_at_of _ _ l S _ j rfl (HS.out.then (numE_kept _) HD.out.1)).mono ?_
          rintro e w4 ⟨rfl, rfl⟩
          generalize Pn.byte l j = x at *
          go_wp2_with fail
          refine (ref10_at_of _ _ l S _ (j + 1) (by omega) (HS.out.then (numE_kept _) HD.out.1)).mono ?_
          rintro e w4 ⟨rfl, rfl⟩
          generalize Pn.byte l (j + 1) = y at *
          have R3 := Lib.hid (RE.start HD.out HG.out HT.out [.bool false, .int .i64 (y % 9), .int .i64 0])
          obtain ⟨⟨c0, c1, c2⟩, f0, f1, f2⟩ := R3.out.blks.1.three
          obtain ⟨⟨b0, b1, b2, b3, b4, b5⟩, g0, g1, g2, g3, g4, g5⟩ := R3.out.blks.2.six
          have hne : w.heap.size + 1 ≠ wo.heap.size := Ne.symm R3.out.2.2.2.2.2.2
          go_wp2_with (at_builtin; go_must (refine wp_gapp1 elemCase caseE_kept R3.out.2.1 (show caseE _ [.bool false, .int .i64 (y % 9), .int .i64 0] (⟨false, y % 9, 0⟩ : Pn.Cs) [] from ⟨rfl, rfl⟩) rfl (by simp) (by simp [Value.oneCell']) (by rw [HL.out]; omega) ?_))
          intro ao7 cap7 w7 T7 r7 k7 s7
          obtain ⟨q1, q2, q3, q4⟩ := R3.out.app r7 k7 (fun x hx => by have := s7 x hx; simpa [World.setCell] using this)
          clear c0 c1 c2 f0 f1 f2 b0 b1 b2 b3 b4 b5 g0 g1 g2 g3 g4 g5 r7 k7 s7
          obtain ⟨⟨b0, b1, b2, b3, b4, b5⟩, g0, g1, g2, g3, g4, g5⟩ := q1.six
          have HN : Hid (ECases l w (i + 3) w.heap.size (w.heap.size + 1) els (k + 1) (.int .i64 ((j : Int) + 2)) (w7.setCell ⟨w.heap.size + 1, 4, none⟩ (.slice ao7 (R.length + 1) cap7))) := Lib.hid (ECases.next HRq.out Hjq.out HCS.out q2 q3 q4 (by simp; try omega))
          clear q1 q2 q3 q4
          go_wp2_with fail
          go_roundw
          case rel => exact ⟨k + 1, by omega, by go_num, HN.out⟩
          case measure => simp [intOf]; omega
      · obtain rfl : k = cnt := by omega
        rw [HRq.out, Hjq.out] at HO
        obtain ⟨⟨b0, b1, b2, b3, b4, b5⟩, g0, g1, g2, g3, g4, g5⟩ := HD.out.2.2.1.six
        obtain ⟨⟨z0, z1, z2, z3, z4, z5⟩, y0, y1, y2, y3, y4, y5⟩ := Blk.six HD.out.2.1
        have hgv := HG.out.gv
        rw [List.append_nil] at hgv
        have HGV := Lib.hid hgv
        clear hgv
        go_wp2_with fail
        refine bodyPost_ret (v := .tuple #[.agg #[.int .i64 9, .int .i64 0, .int .i64 0, .int .i64 0, .slice ao R.length cap, .bool els], .int .i64 j]) (by simp [results, Try.results89, go_sem, z0, z1, z2, z3, z4, z5]) rfl ?_
        have hf := HD.out.fin (.int .i64 9) (.int .i64 0) (.int .i64 0) (.int .i64 0) (.slice ao R.length cap) (.bool els) HGV.out (fun hx => (HT.out _ hx).2.1 rfl)
        exact one_ret HO.out rfl hf.2 (fun x hx => (HT.out x hx).1) hf.1
  · have HO : Hid (Pn.one l i = (⟨Pn.byte l i % 9 + 1, Pn.byte l (i + 1) % 9, 0, 0, [], false⟩, i + 2)) := Lib.hid (by unfold Pn.one; rw [if_neg c1, if_neg c2, if_neg c3])
    obtain ⟨r0, r1⟩ := hr0
    obtain ⟨r2, r3⟩ := hr1
    clear hr2
    have HC : Hid (Pn.hasCh (Pn.byte l i % 9 + 1) = true) := Lib.hid (by simp [Pn.hasCh]; omega)
    have HV : Hid (Pn.hasV (Pn.byte l i % 9 + 1) = false) := Lib.hid (by simp [Pn.hasV]; omega)
    have q1 : (Pn.byte l i % 9 + 1 == 1) = false := by simp; omega
    have q9 : (Pn.byte l i % 9 + 1 != 9) = true := by simp; omega
    clear c1 c2 c3
    go_enter Try.func89, Try.ntmps89
    go_wp2_with fail
    refine (ref10_at_of _ _ l S _ i rfl (HS.out.then (numE_kept _) ((Keeps.refl [] w).alloc _))).mono ?_
    rintro e w1 ⟨rfl, rfl⟩
    generalize Pn.byte l i = x at *
    obtain ⟨kd, hkd⟩ : ∃ kd, x % 9 + 1 = kd := ⟨_, rfl⟩
    rw [hkd] at HC HV HO q1 q9
    go_wp2_with fail
    clear hkd r0 r1
    refine (ref10_hasCh _ _).mono ?_
    rintro e w2 ⟨rfl, hw2⟩
    rw [HC.out]
    have D1 : Hid (E2 w w2 w.heap.size (w.heap.size + 1) [.int .i64 kd, .int .i64 0, .int .i64 0, .int .i64 0, .slice none 0 0, .bool false]) := Lib.hid (by rw [← hw2]; exact E2.first w [.int .i64 kd, .int .i64 0, .int .i64 0, .int .i64 0, .slice none 0 0, .bool false])
    clear hw2
    have hb := D1.out.2.2.1
    try simp only [List.set_cons_succ, List.set_cons_zero] at hb
    obtain ⟨⟨b0, b1, b2, b3, b4, b5⟩, f0, f1, f2, f3, f4, f5⟩ := hb.six
    clear hb
    go_wp2_with fail
    refine (ref10_at_of _ _ l S _ (i + 1) (by omega) (HS.out.then (numE_kept _) D1.out.1)).mono ?_
    rintro e w5 ⟨rfl, rfl⟩
    generalize Pn.byte l (i + 1) = y at *
    go_wp2_with fail
    refine (ref10_hasV _ _).mono ?_
    rintro e w3 ⟨rfl, rfl⟩
    rw [HV.out]
    have D3 := Lib.hid (D1.out.put 1 (.int .i64 (y % 9)))
    clear b0 b1 b2 b3 b4 b5 f0 f1 f2 f3 f4 f5
    obtain ⟨⟨z0, z1, z2, z3, z4, z5⟩, g0, g1, g2, g3, g4, g5⟩ := Blk.six D3.out.2.1
    have hb := D3.out.2.2.1
    try simp only [List.set_cons_succ, List.set_cons_zero] at hb
    obtain ⟨⟨b0, b1, b2, b3, b4, b5⟩, f0, f1, f2, f3, f4, f5⟩ := hb.six
    clear hb
    go_wp2_with fail
    refine bodyPost_ret (v := .tuple #[.agg #[.int .i64 kd, .int .i64 (y % 9), .int .i64 0, .int .i64 0, .slice none 0 0, .bool false], .int .i64 ((i : Int) + 1 + 1)]) (by simp [results, Try.results89, go_sem, z0, z1, z2, z3, z4, z5]) rfl ?_
    have hf := D3.out.fin (.int .i64 kd) (.int .i64 (y % 9)) (.int .i64 0) (.int .i64 0) (.slice none 0 0) (.bool false) (GV.nil caseE 3 _) (by simp)
    exact one_ret HO.out (by simp; try omega) hf.2 (by simp) hf.1
end Go.Proofs.Ytopkfhmdgheghaa
