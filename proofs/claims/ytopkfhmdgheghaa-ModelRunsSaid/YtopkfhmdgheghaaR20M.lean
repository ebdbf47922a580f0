/-
  handoffref20.Fire: its contract.
  Conditions: rows of no more than 100000.
-/
import Derived.Test.YtopkfhmdgheghaaR20H
import Derived.Test.YtopkfhmdgheghaaR20I
import Derived.Test.YtopkfhmdgheghaaModelK
import Derived.Test.YtopkfhmdgheghaaCore
namespace Go.Proofs.Ytopkfhmdgheghaa
open Go.RowKit
set_option linter.unusedVariables false
set_option linter.unusedSimpArgs false
set_option linter.unnecessarySimpa false

def z5 : List Value := [.int .i64 0, .int .i64 0, .int .i64 0, .bool false, .int .i64 0]
def resL (r : Md.Res) : List Value := [.int .i64 r.code, .int .i64 r.cs, .int .i64 r.v, .bool r.ok, .int .i64 r.n]
/-- the blocks of Fire: model, op, the two results, r -/
def FiA (w : World) (vc vw va : Value) (o : Pn.Op) (rr : Md.Res) (wx : World) : Prop :=
  Keeps [] w wx ∧ Blk wx w.heap.size [vc, vw] 67 ∧ Blk wx (w.heap.size + 1) (opL o va) 33 ∧ Blk wx (w.heap.size + 1 + 1) [.slice none 0 0, .slice none 0 0] 67 ∧
  Blk wx (w.heap.size + 1 + 1 + 1) z5 28 ∧ Blk wx (w.heap.size + 1 + 1 + 1 + 1) (resL rr) 28
theorem FiA.keep {w wx wy : World} {vc vw va : Value} {o : Pn.Op} {rr : Md.Res} {T : List Nat} (h : FiA w vc vw va o rr wx) (k : Keeps T wx wy) (hT : ∀ x ∈ T, w.heap.size + 5 ≤ x) : FiA w vc vw va o rr wy :=
  ⟨h.1.trans k (fun x hx => .inr (by have := hT x hx; omega)), h.2.1.keep k (fun hm => by have := hT _ hm; omega), h.2.2.1.keep k (fun hm => by have := hT _ hm; omega), h.2.2.2.1.keep k (fun hm => by have := hT _ hm; omega), h.2.2.2.2.1.keep k (fun hm => by have := hT _ hm; omega), h.2.2.2.2.2.keep k (fun hm => by have := hT _ hm; omega)⟩
theorem FiA.then {w wx wy : World} {vc vw va : Value} {o : Pn.Op} {rr : Md.Res} (h : FiA w vc vw va o rr wx) (k : Keeps [] wx wy) : FiA w vc vw va o rr wy := h.keep k (by simp)
theorem FiA.lt {w wx : World} {vc vw va : Value} {o : Pn.Op} {rr : Md.Res} (h : FiA w vc vw va o rr wx) : w.heap.size + 5 ≤ wx.heap.size := h.2.2.2.2.2.lt
/-- a field of r is stored -/
theorem FiA.put {w wx : World} {vc vw va : Value} {o : Pn.Op} {rr rr' : Md.Res} (h : FiA w vc vw va o rr wx) (j : Nat) (v : Value) (hl : resL rr' = (resL rr).set j v) : FiA w vc vw va o rr' (wx.setCell ⟨w.heap.size + 1 + 1 + 1 + 1, j, none⟩ v) := by
  have k : Keeps [w.heap.size + 1 + 1 + 1 + 1] wx (wx.setCell ⟨w.heap.size + 1 + 1 + 1 + 1, j, none⟩ v) := (Keeps.refl _ wx).setCell (by simp) v
  refine ⟨h.1.trans k (fun x hx => by simp at hx; exact .inr (by omega)), h.2.1.keep k (by simp <;> omega), h.2.2.1.keep k (by simp <;> omega), h.2.2.2.1.keep k (by simp), h.2.2.2.2.1.keep k (by simp), ?_⟩
  rw [hl]
  exact h.2.2.2.2.2.set j v
theorem Blk.res {w : World} {g : Nat} {r : Md.Res} {t : TypeId} (h : Blk w g (resL r) t) : (w.cell? ⟨g, 0, none⟩ = some (.int .i64 r.code) ∧ w.cell? ⟨g, 1, none⟩ = some (.int .i64 r.cs) ∧ w.cell? ⟨g, 2, none⟩ = some (.int .i64 r.v) ∧ w.cell? ⟨g, 3, none⟩ = some (.bool r.ok) ∧ w.cell? ⟨g, 4, none⟩ = some (.int .i64 r.n)) ∧ ∀ j, w.frozen? ⟨g, j, none⟩ = false :=
  ⟨⟨h.cell 0, h.cell 1, h.cell 2, h.cell 3, h.cell 4⟩, fun j => h.free j⟩
/-- 'still' is made: its block, who waits still -/
def FiS (w : World) (vc vw va : Value) (o : Pn.Op) (S : List Nat) (l : List (Int × Pn.Op)) (v12 : Value) (wx : World) : Prop :=
  ∃ b vs SW, v12 = .pointer (some ⟨b, 0, none⟩) ∧ FiA w vc vw va o ⟨1, -1, 0, true, 0⟩ wx ∧ w.heap.size + 5 ≤ b ∧ Blk wx b [vc, vs] 67 ∧ GV wtE 7 wx vs l SW ∧ ∀ x ∈ SW, x ∈ S ∨ (w.heap.size + 5 ≤ x ∧ x ≠ b)
theorem FiS.s2 {w wx : World} {vc vw va : Value} {o : Pn.Op} {S : List Nat} {l : List (Int × Pn.Op)} {v12 : Value} (h : FiS w vc vw va o S l v12 wx) : wx.cell? ⟨w.heap.size, 0, none⟩ = some vc ∧ wx.cell? ⟨w.heap.size, 1, none⟩ = some vw := by
  obtain ⟨_, _, _, _, h, _⟩ := h
  exact ⟨h.2.1.cell 0, h.2.1.cell 1⟩
def RFirePost (w : World) (D : Md.St × Option Md.Res) (n : Nat) (R : Nat → Prop) (e : Ending) (w' : World) : Prop :=
  ∃ v, e = .returned (.tuple #[v, .agg (resV (D.2.getD Md.noRes)), .bool D.2.isSome]) ∧ RTo w D.1 n R v w'

/-- all blocks of Fire, and who waits still; vx: the channels of 'still' -/
def FiU (w : World) (vc vw va : Value) (o : Pn.Op) (rr : Md.Res) (b : Nat) (vx vs : Value) (l : List (Int × Pn.Op)) (SW : List Nat) (wx : World) : Prop :=
  FiA w vc vw va o rr wx ∧ Blk wx b [vx, vs] 67 ∧ GV wtE 7 wx vs l SW
theorem FiU.then {w wx wy : World} {vc vw va vx vs : Value} {o : Pn.Op} {rr : Md.Res} {SW : List Nat} {b : Nat} {l : List (Int × Pn.Op)} (h : FiU w vc vw va o rr b vx vs l SW wx) (k : Keeps [] wx wy) : FiU w vc vw va o rr b vx vs l SW wy :=
  ⟨h.1.then k, h.2.1.keep k (by simp), h.2.2.then wtE_kept k⟩
theorem FiU.keep {w wx wy : World} {vc vw va vx vs : Value} {o : Pn.Op} {rr : Md.Res} {SW T : List Nat} {b : Nat} {l : List (Int × Pn.Op)} (h : FiU w vc vw va o rr b vx vs l SW wx) (k : Keeps T wx wy) (hT : ∀ x ∈ T, w.heap.size + 5 ≤ x) (hb : b ∉ T) (hS : ∀ x ∈ SW, x ∉ T) : FiU w vc vw va o rr b vx vs l SW wy :=
  ⟨h.1.keep k hT, h.2.1.keep k hb, h.2.2.keep wtE_kept k hS⟩
theorem FiU.put {w wx W : World} {vc vw va vx vs : Value} {o : Pn.Op} {rr : Md.Res} {SW S : List Nat} {b : Nat} {l : List (Int × Pn.Op)} (rr' : Md.Res) (j : Nat) (v : Value) (h : FiU w vc vw va o rr b vx vs l SW wx) (hb : w.heap.size + 5 ≤ b) (hS : ∀ x ∈ SW, x ∈ S ∨ (w.heap.size + 5 ≤ x ∧ x ≠ b)) (hl : ∀ x ∈ S, x < w.heap.size) (hr : resL rr' = (resL rr).set j v)
    (hW : wx.setCell ⟨w.heap.size + 1 + 1 + 1 + 1, j, none⟩ v = W) : FiU w vc vw va o rr' b vx vs l SW W := by
  subst hW
  have k : Keeps [w.heap.size + 1 + 1 + 1 + 1] wx (wx.setCell ⟨w.heap.size + 1 + 1 + 1 + 1, j, none⟩ v) := (Keeps.refl _ wx).setCell (by simp) v
  refine ⟨h.1.put j v hr, h.2.1.keep k (by simp; omega), h.2.2.keep wtE_kept k (fun x hx hm => ?_)⟩
  simp at hm
  subst hm
  rcases hS _ hx with h | h
  · have := hl _ h; omega
  · omega
/-- another list of channels is stored into 'still' -/
theorem FiU.chans {w wx W : World} {vc vw va vx vs : Value} {o : Pn.Op} {rr : Md.Res} {SW S : List Nat} {b : Nat} {l : List (Int × Pn.Op)} (v : Value) (h : FiU w vc vw va o rr b vx vs l SW wx) (hb : w.heap.size + 5 ≤ b) (hS : ∀ x ∈ SW, x ∈ S ∨ (w.heap.size + 5 ≤ x ∧ x ≠ b)) (hl : ∀ x ∈ S, x < w.heap.size)
    (hW : wx.setCell ⟨b, 0, none⟩ v = W) : FiU w vc vw va o rr b v vs l SW W := by
  subst hW
  have k : Keeps [b] wx (wx.setCell ⟨b, 0, none⟩ v) := (Keeps.refl _ wx).setCell (by simp) v
  refine ⟨h.1.keep k (fun x hx => by simp at hx; omega), h.2.1.set 0 v, h.2.2.keep wtE_kept k (fun x hx hm => ?_)⟩
  simp at hm
  subst hm
  rcases hS _ hx with h | h
  · have := hl _ h; omega
  · omega
/-- 'still' has got a channel more -/
def FiN (w : World) (vc vw va : Value) (o : Pn.Op) (rr : Md.Res) (b : Nat) (vs : Value) (l : List (Int × Pn.Op)) (SW S : List Nat) (cs : List Md.Ch) (wx : World) : Prop :=
  ∃ v9 T9, FiU w vc vw va o rr b v9 vs l SW wx ∧ GV chE 3 wx v9 cs (T9 ++ S) ∧ ∀ x ∈ T9, w.heap.size + 5 ≤ x ∧ x ≠ b
theorem fin_of {w w5 w9 : World} {vc vw va vx vs v9 : Value} {o : Pn.Op} {rr : Md.Res} {b : Nat} {l : List (Int × Pn.Op)} {SW S U T9 : List Nat} {cs : List Md.Ch} {e : TypeId} (hu : FiU w vc vw va o rr b vx vs l SW w5) (h : App chE 3 e w5 w9 v9 cs T9 U) (hb : w.heap.size + 5 ≤ b) (hS : ∀ x ∈ SW, x ∈ S ∨ (w.heap.size + 5 ≤ x ∧ x ≠ b)) (hl : ∀ x ∈ S, x < w.heap.size) (hU : ∀ x ∈ U, x ∈ S ∨ w5.heap.size ≤ x) (hz : w.heap.size + 5 ≤ w5.heap.size) (hq : b < w5.heap.size) :
    FiN w vc vw va o rr b vs l SW S cs (w9.setCell ⟨b, 0, none⟩ v9) := by
  have k : Keeps [b] w9 (w9.setCell ⟨b, 0, none⟩ v9) := (Keeps.refl _ w9).setCell (by simp) v9
  refine ⟨v9, T9 ++ U.filter (fun x => decide (w5.heap.size ≤ x)), (hu.then h.1).chans v9 hb hS hl rfl, ?_, fun x hx => ?_⟩
  · refine (h.2.1.gv.mono (S2 := (T9 ++ U.filter (fun x => decide (w5.heap.size ≤ x))) ++ S) (fun x hx => ?_) (fun x hx => ?_)).keep chE_kept k (fun x hx hm => ?_)
    · rcases List.mem_append.1 hx with h1 | h1
      · simp [h1]
      · rcases hU x h1 with h2 | h2
        · simp [h2]
        · simp [h1, h2]
    · have := h.1.size
      simp only [List.mem_append, List.mem_filter] at hx
      rcases hx with (h1 | h1) | h1
      · exact h.lt x (by simp [h1])
      · exact h.lt x (by simp [h1.1])
      · have := hl x h1; omega
    · simp only [List.mem_append, List.mem_filter, List.mem_singleton, decide_eq_true_eq] at hx hm
      subst hm
      rcases hx with (h1 | h1) | h1
      · have := h.2.2 _ h1; omega
      · omega
      · have := hl _ h1; omega
  · simp only [List.mem_append, List.mem_filter, decide_eq_true_eq] at hx
    rcases hx with h1 | h1
    · have := h.2.2 x h1; omega
    · omega
theorem kc7 {T : List Nat} {w : World} {a0 a1 a2 a3 a4 a5 a6 : Addr} {v0 v1 v2 v3 v4 v5 v6 : Value} (h0 : a0.block ∈ T) (h1 : a1.block ∈ T) (h2 : a2.block ∈ T) (h3 : a3.block ∈ T) (h4 : a4.block ∈ T) (h5 : a5.block ∈ T) (h6 : a6.block ∈ T) : Keeps T w (((((((w.setCell a0 v0).setCell a1 v1).setCell a2 v2).setCell a3 v3).setCell a4 v4).setCell a5 v5).setCell a6 v6) :=
  ((((((((Keeps.refl T w).setCell (.inl h0) v0).setCell (.inl h1) v1).setCell (.inl h2) v2).setCell (.inl h3) v3).setCell (.inl h4) v4).setCell (.inl h5) v5).setCell (.inl h6) v6)
/-- the channel's new buffer -/
def FiB (w : World) (vc vw va : Value) (o : Pn.Op) (rr : Md.Res) (b : Nat) (vx vs : Value) (l : List (Int × Pn.Op)) (SW : List Nat) (sb cbk : Nat) (sl : List Value) (cap : Int) (cl : Bool) (buf : List Int) (S : List Nat) (wx : World) : Prop :=
  ∃ v9 T9, FiU w vc vw va o rr b vx vs l SW wx ∧ Blk wx sb sl 131 ∧ Blk wx cbk [.int .i64 cap, v9, .bool cl] 139 ∧ GV rawE 1 wx v9 buf T9 ∧ ∀ x ∈ T9, x ∈ S ∨ w.heap.size + 5 ≤ x
theorem fib_of {w w10 w9 : World} {vc vw va vx vs v9 v0 : Value} {o : Pn.Op} {rr : Md.Res} {b sb cbk : Nat} {l : List (Int × Pn.Op)} {SW S U T9 : List Nat} {sl : List Value} {cap : Int} {cl : Bool} {buf : List Int} {e : TypeId} (hu : FiU w vc vw va o rr b vx vs l SW w10) (h : App rawE 1 e w10 w9 v9 buf T9 U) (hs : Blk w10 sb sl 131) (hc : Blk w10 cbk [.int .i64 cap, v0, .bool cl] 139) (h6 : w.heap.size + 5 ≤ sb) (h8 : w.heap.size + 5 ≤ cbk) (hU : ∀ x ∈ U, x ∈ S ∨ w10.heap.size ≤ x) (hl : ∀ x ∈ S, x < w.heap.size) (hS : ∀ x ∈ SW, x ∈ S ∨ (w.heap.size + 5 ≤ x ∧ x ≠ b)) (hb : ¬ b = cbk) (hsc : sb ≠ cbk) (hw : cbk ∉ SW) :
    FiB w vc vw va o rr b vx vs l SW sb cbk sl cap cl buf S (w9.setCell ⟨cbk, 1, none⟩ v9) := by
  have k : Keeps [cbk] w9 (w9.setCell ⟨cbk, 1, none⟩ v9) := (Keeps.refl _ w9).setCell (by simp) v9
  have hz := hu.1.lt
  have hcl := hc.lt
  have hT : ∀ x ∈ T9 ++ U, x ∈ S ∨ w10.heap.size ≤ x := fun x hx => by
    rcases List.mem_append.1 hx with h1 | h1
    · exact .inr (h.2.2 x h1)
    · exact hU x h1
  refine ⟨v9, T9 ++ U, (hu.then h.1).keep k (fun x hx => by simp at hx; omega) (by simpa using hb) (fun x hx hm => by simp at hm; subst hm; exact hw hx), (hs.keep h.1 (by simp)).keep k (by simpa using hsc), (hc.keep h.1 (by simp)).set 1 v9, h.2.1.gv.keep rawE_kept k (fun x hx hm => ?_), fun x hx => ?_⟩
  · simp at hm
    subst hm
    rcases hT _ hx with h1 | h1
    · have := hl _ h1; omega
    · omega
  · rcases hT x hx with h1 | h1
    · exact .inl h1
    · exact .inr (by omega)
theorem mem2 {a b c : Nat} (h1 : a ≠ b) (h2 : a ≠ c) : a ∉ [b, c] := by simp [h1, h2]
theorem kcA {p q : Nat} {a w : World} {u0 u1 : Value} {x0 x1 : Nat} (k : Keeps [] a w) : Keeps [p, q] a ((w.setCell ⟨p, x0, none⟩ u0).setCell ⟨p, x1, none⟩ u1) :=
  (((k.mono (by simp) : Keeps [p, q] a w).setCell (.inl (by simp)) u0).setCell (.inl (by simp)) u1)
theorem kcB {p q : Nat} {a w : World} {u0 u1 v0 v1 v2 v3 v4 : Value} {x0 x1 y0 y1 y2 y3 y4 : Nat} (k : Keeps [] a w) : Keeps [p, q] a (((((((w.setCell ⟨p, x0, none⟩ u0).setCell ⟨p, x1, none⟩ u1).setCell ⟨q, y0, none⟩ v0).setCell ⟨q, y1, none⟩ v1).setCell ⟨q, y2, none⟩ v2).setCell ⟨q, y3, none⟩ v3).setCell ⟨q, y4, none⟩ v4) :=
  ((((((kcA k).setCell (.inl (by simp)) v0).setCell (.inl (by simp)) v1).setCell (.inl (by simp)) v2).setCell (.inl (by simp)) v3).setCell (.inl (by simp)) v4)
/-- an exit with 'still' -/
theorem fire_new {w wx W : World} {vc vw va vx vs : Value} {o : Pn.Op} {SX SW : List Nat} {b : Nat} {cs : List Md.Ch} {st : Md.St} {r : Mr.St} {D : Md.St × Option Md.Res} {rq rr : Md.Res} {gi : Int} {R : Nat → Prop} (hD : D = (⟨cs, Md.drops st.waits gi⟩, some rr)) (hr : Mr.Rel st r) (hu : FiU w vc vw va o rq b vx vs (keepsG gi r.waits) SW wx) (hx : GV chE 3 wx vx cs SX) (hR : ∀ x ∈ SX ++ SW, (x < w.heap.size ∧ R x) ∨ w.heap.size + 5 ≤ x)
    (kf : Keeps [w.heap.size + 1 + 1, w.heap.size + 1 + 1 + 1, w.heap.size + 1 + 1 + 1 + 1] wx W) : RFirePost w D r.waits.length R (.returned (.tuple #[.agg #[vx, vs], .agg (resV rr), .bool true])) W := by
  subst hD
  have kk : Keeps [] w W := hu.1.1.trans kf (fun x hx => by simp at hx; exact .inr (by omega))
  have hlt : ∀ x ∈ SX ++ SW, x < wx.heap.size := fun x hm => by
    rcases List.mem_append.1 hm with h2 | h2
    · exact hx.lt x h2
    · exact hu.2.2.lt x h2
  have hne : ∀ x ∈ SX ++ SW, x ∉ [w.heap.size + 1 + 1, w.heap.size + 1 + 1 + 1, w.heap.size + 1 + 1 + 1 + 1] := fun x hx hm => by
    have hm2 : x = w.heap.size + 1 + 1 ∨ x = w.heap.size + 1 + 1 + 1 ∨ x = w.heap.size + 1 + 1 + 1 + 1 := by simpa using hm
    rcases hR x hx with h2 | h2 <;> omega
  refine ⟨_, rfl, ⟨cs, keepsG gi r.waits⟩, ⟨rfl, (rel_drop hr).2⟩, keepsG_le _ _, vx, vs, SX ++ SW, rfl, ⟨(hx.mono (fun x hx => by simp [hx]) hlt).keep chE_kept kf hne, (hu.2.2.mono (fun x hx => by simp [hx]) hlt).keep wtE_kept kf hne⟩, kk, fun x hx => ?_, fun x hx => Nat.lt_of_lt_of_le (hlt x hx) kf.size⟩
  rcases hR x hx with h2 | h2
  · exact .inl h2.2
  · exact .inr (by omega)
theorem fire_still {w wx W : World} {vc vw va vs : Value} {o : Pn.Op} {S SW : List Nat} {b : Nat} {st : Md.St} {r : Mr.St} {D : Md.St × Option Md.Res} {rq rr : Md.Res} {gi : Int} {R : Nat → Prop} (hD : D = (⟨st.chans, Md.drops st.waits gi⟩, some rr)) (h : MR w vc vw r S) (hr : Mr.Rel st r) (hR : ∀ x ∈ S, R x) (hu : FiU w vc vw va o rq b vc vs (keepsG gi r.waits) SW wx) (hS : ∀ x ∈ SW, x ∈ S ∨ (w.heap.size + 5 ≤ x ∧ x ≠ b))
    (kf : Keeps [w.heap.size + 1 + 1, w.heap.size + 1 + 1 + 1, w.heap.size + 1 + 1 + 1 + 1] wx W) : RFirePost w D r.waits.length R (.returned (.tuple #[.agg #[vc, vs], .agg (resV rr), .bool true])) W :=
  fire_new (cs := r.chans) (by rw [hD, hr.1]) hr hu (h.then hu.1.1).1 (fun x hx => by
    rcases List.mem_append.1 hx with h2 | h2
    · exact .inl ⟨h.lt x h2, hR x h2⟩
    · rcases hS x h2 with h3 | h3
      · exact .inl ⟨h.lt x h3, hR x h3⟩
      · exact .inr h3.1) kf
/-- an exit that did nothing -/
theorem fire_none {w wx W : World} {vc vw va vx vs : Value} {o : Pn.Op} {S SW : List Nat} {b : Nat} {l : List (Int × Pn.Op)} {st : Md.St} {r : Mr.St} {D : Md.St × Option Md.Res} {rq : Md.Res} {R : Nat → Prop} (hD : D = (st, none)) (h : MR w vc vw r S) (hr : Mr.Rel st r) (hR : ∀ x ∈ S, R x) (hu : FiU w vc vw va o rq b vx vs l SW wx)
    (kf : Keeps [w.heap.size + 1 + 1, w.heap.size + 1 + 1 + 1, w.heap.size + 1 + 1 + 1 + 1] wx W) : RFirePost w D r.waits.length R (.returned (.tuple #[.agg #[vc, vw], .agg (resV Md.noRes), .bool false])) W := by
  subst hD
  have kk : Keeps [] w W := hu.1.1.trans kf (fun x hx => by simp at hx; exact .inr (by omega))
  exact ⟨_, rfl, r, hr, Nat.le_refl _, (h.then kk).to kk hR⟩
/-- an exit with another channel -/
theorem fire_with {w wx w8 W : World} {vc vw va vx vs v : Value} {o : Pn.Op} {SW : List Nat} {b : Nat} {cs : List Md.Ch} {l : List (Int × Pn.Op)} {st : Md.St} {r : Mr.St} {D : Md.St × Option Md.Res} {rq rr : Md.Res} {gi : Int} {R R' : Nat → Prop} (hD : D = (⟨cs, Md.drops st.waits gi⟩, some rr)) (hr : Mr.Rel st r) (hu : FiU w vc vw va o rq b vx vs l SW wx) (hm : MRto wx ⟨cs, keepsG gi r.waits⟩ R' v w8) (hR : ∀ x, R' x → (x < w.heap.size ∧ R x) ∨ w.heap.size + 5 ≤ x)
    (kf : Keeps [w.heap.size + 1 + 1, w.heap.size + 1 + 1 + 1, w.heap.size + 1 + 1 + 1 + 1] w8 W) : RFirePost w D r.waits.length R (.returned (.tuple #[v, .agg (resV rr), .bool true])) W := by
  subst hD
  obtain ⟨vc', vw', S', rfl, h1, h2, h3, h4⟩ := hm
  have kk : Keeps [] w W := (hu.1.1.then h2).trans kf (fun x hx => by simp at hx; exact .inr (by omega))
  have hz := hu.1.lt
  have hcl : ∀ x ∈ S', (x < w.heap.size ∧ R x) ∨ w.heap.size + 5 ≤ x := fun x hx => by
    rcases h3 x hx with h | h
    · exact hR x h
    · exact .inr (by omega)
  have hne : ∀ x ∈ S', x ∉ [w.heap.size + 1 + 1, w.heap.size + 1 + 1 + 1, w.heap.size + 1 + 1 + 1 + 1] := fun x hx hm => by
    have hm2 : x = w.heap.size + 1 + 1 ∨ x = w.heap.size + 1 + 1 + 1 ∨ x = w.heap.size + 1 + 1 + 1 + 1 := by simpa using hm
    rcases hcl x hx with h2 | h2 <;> omega
  refine ⟨_, rfl, ⟨cs, keepsG gi r.waits⟩, ⟨rfl, (rel_drop hr).2⟩, keepsG_le _ _, vc', vw', S', rfl, h1.keep kf hne, kk, fun x hx => ?_, fun x hx => Nat.lt_of_lt_of_le (h4 x hx) kf.size⟩
  rcases hcl x hx with h2 | h2
  · exact .inl h2.2
  · exact .inr (by omega)
theorem ref20_with_at (w : World) (vc vw vb : Value) (r : Mr.St) (S : List Nat) (k : Nat) (ch : Int) (cap : Int) (buf : List Int) (cl : Bool) (U : List Nat) (gi : Int) (h : MR w vc vw r S) (hk : k < r.chans.length) (hc : ch = (k : Int) + 1) (hb : GV rawE 1 w vb buf U) (hn1 : r.chans.length ≤ 100000) (hn2 : r.waits.length ≤ 100000) :
    Calls Try.prog 67 #[.agg #[vc, vw], .int .i64 ch, .agg #[.int .i64 cap, vb, .bool cl], .int .i64 gi] w fun e w' => ∃ v, e = .returned v ∧ MRto w ⟨r.chans.set k ⟨cap, buf, cl⟩, keepsG gi r.waits⟩ (fun x => x ∈ S ∨ x ∈ U) v w' := by
  subst hc
  exact ref20_with w vc vw vb r S k ⟨cap, buf, cl⟩ U gi h hk hb hn1 hn2
theorem put_at {l : List Md.Ch} {ch : Int} {k : Nat} {c : Md.Ch} (h : ch = (k : Int) + 1) : Md.putChan l ch c = l.set k c := by
  unfold Md.putChan
  rw [show (ch - 1).toNat = k by omega]

end Go.Proofs.Ytopkfhmdgheghaa
