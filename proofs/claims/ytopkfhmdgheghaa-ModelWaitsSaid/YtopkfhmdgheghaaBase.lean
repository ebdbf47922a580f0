/-
  The base of all walks here: what a call may write (Keeps), blocks known whole (Blk), slices that are read (View).
  Conditions: none; nothing of the program stands here.
-/
import Derived.Test.YtopkfhmdgheghaaRows
import Derived.WalkKit
import Derived.Lib.Hide
import Derived.Laws.CopyOwn
import Derived.Laws.AppendOwnNone
import Derived.BigQuiet
import Derived.Deep.QuietTactic
import Derived.Deep.RegionLaw
import Derived.Deep.LoopGhost
import Derived.Deep.CutBlock
import Derived.Deep.DeepCutAuto
import Derived.Deep.DeepFit
import Derived.Deep.DeepMust
import Derived.Deep.RegionHeld3
namespace Go.Proofs.Ytopkfhmdgheghaa
open Go.RowKit
set_option linter.unusedVariables false
set_option linter.unusedSimpArgs false
set_option linter.unnecessarySimpa false

/-- w' is w with new blocks, and with other contents in the blocks of S alone. -/
structure Keeps (S : List Nat) (w w' : World) : Prop where
  os : w'.os = w.os
  tape : w'.tape = w.tape
  output : w'.output = w.output
  size : w.heap.size ≤ w'.heap.size
  block : ∀ k, k < w.heap.size → k ∉ S → w'.heap[k]? = w.heap[k]?

theorem Keeps.refl (S : List Nat) (w : World) : Keeps S w w := ⟨rfl, rfl, rfl, Nat.le_refl _, fun _ _ _ => rfl⟩

theorem Keeps.trans {S T : List Nat} {a b c : World} (h : Keeps S a b) (k : Keeps T b c) (hT : ∀ x ∈ T, x ∈ S ∨ a.heap.size ≤ x) : Keeps S a c :=
  ⟨k.os.trans h.os, k.tape.trans h.tape, k.output.trans h.output, Nat.le_trans h.size k.size, fun i hi hn =>
    (k.block i (Nat.lt_of_lt_of_le hi h.size) (fun hm => by rcases hT i hm with h1 | h1; exact hn h1; omega)).trans (h.block i hi hn)⟩

theorem Keeps.then {S : List Nat} {a b c : World} (h : Keeps S a b) (k : Keeps [] b c) : Keeps S a c := h.trans k (by simp)

theorem Keeps.mono {S T : List Nat} {a b : World} (h : Keeps S a b) (hS : ∀ x ∈ S, x ∈ T ∨ a.heap.size ≤ x) : Keeps T a b :=
  ⟨h.os, h.tape, h.output, h.size, fun i hi hn => h.block i hi (fun hm => by rcases hS i hm with h1 | h1; exact hn h1; omega)⟩

theorem Keeps.drew {S : List Nat} {a w : World} (h : Keeps S a w) : Keeps S a w.drew := ⟨h.os, h.tape, h.output, h.size, h.block⟩
theorem Keeps.drewN {S : List Nat} {a w : World} (h : Keeps S a w) (n : Nat) : Keeps S a (w.drewN n) := ⟨h.os, h.tape, h.output, h.size, h.block⟩

theorem Keeps.alloc {S : List Nat} {a w : World} (h : Keeps S a w) (o : Obj) : Keeps S a (w.alloc o) :=
  h.trans (T := []) ⟨rfl, rfl, rfl, by simp, fun k hk _ => Below.heap_alloc w o k hk⟩ (by simp)

theorem Keeps.setCell {S : List Nat} {a w : World} (h : Keeps S a w) {p : Addr} (hp : p.block ∈ S ∨ a.heap.size ≤ p.block) (u : Value) : Keeps S a (w.setCell p u) :=
  h.trans (T := [p.block]) ⟨rfl, rfl, rfl, by simp [World.setCell], fun k hk hn => Below.heap_setCell _ _ _ _ (by simpa using hn)⟩ (by simpa using hp)

theorem Keeps.setRow {S : List Nat} {a w : World} (h : Keeps S a w) {g : Nat} (hp : g ∈ S ∨ a.heap.size ≤ g) (cs : Array Value) : Keeps S a (w.setRow g cs) :=
  h.trans (T := [g]) ⟨rfl, rfl, rfl, by simp, fun k hk hn => setRow_other w g k _ (by simpa using hn)⟩ (by simpa using hp)

theorem Keeps.grown {S : List Nat} {a w w' : World} {row : Option Nat} (h : Keeps S a w) (hg : w.grownBy w' row) (hr : ∀ k, row = some k → k ∈ S ∨ a.heap.size ≤ k) : Keeps S a w' :=
  h.trans (T := row.toList) ⟨hg.os, hg.tape, hg.output, hg.size, fun k hk hn => hg.block k hk (by intro e; apply hn; simp [← e])⟩ (by intro x hx; exact hr x (by simpa using hx))

theorem Keeps.of_below {w w' : World} (h : Below w.heap.size w w') : Keeps [] w w' := ⟨h.os, h.tape, h.output, h.size, fun k hk _ => h.block k hk⟩
theorem Keeps.below {w w' : World} (h : Keeps [] w w') : Below w.heap.size w w' := ⟨h.os, h.tape, h.output, h.size, fun k hk => h.block k hk (by simp)⟩

theorem Keeps.cell {S : List Nat} {w w' : World} (h : Keeps S w w') {p : Addr} {v : Value} (hc : w.cell? p = some v) (hn : p.block ∉ S) : w'.cell? p = some v := by
  rw [World.cell?_of_block (w := w) (h.block p.block (block_lt_of_cell hc) hn)]; exact hc

/-- The block g is known whole. -/
def Blk (w : World) (g : Nat) (cs : List Value) (e : TypeId) : Prop := w.heap[g]? = some (.cells cs.toArray e (0, 0))

theorem Blk.lt {w : World} {g : Nat} {cs : List Value} {e : TypeId} (h : Blk w g cs e) : g < w.heap.size := lt_of_block h
theorem Blk.cell {w : World} {g : Nat} {cs : List Value} {e : TypeId} (h : Blk w g cs e) (j : Nat) : w.cell? ⟨g, j, none⟩ = cs[j]? := by
  rw [cell_of_row w g j _ e (0, 0) h]; simp
theorem Blk.free {w : World} {g : Nat} {cs : List Value} {e : TypeId} (h : Blk w g cs e) (j : Nat) : w.frozen? ⟨g, j, none⟩ = false := frozen_of_row w g j _ e h
theorem Blk.keep {S : List Nat} {w w' : World} {g : Nat} {cs : List Value} {e : TypeId} (h : Blk w g cs e) (k : Keeps S w w') (hn : g ∉ S) : Blk w' g cs e := (k.block g h.lt hn).trans h
theorem Blk.same {w w' : World} {g : Nat} {cs : List Value} {e : TypeId} (h : Blk w g cs e) (k : w'.heap[g]? = w.heap[g]?) : Blk w' g cs e := k.trans h
theorem Blk.set {w : World} {g : Nat} {cs : List Value} {e : TypeId} (h : Blk w g cs e) (j : Nat) (v : Value) : Blk (w.setCell ⟨g, j, none⟩ v) g (cs.set j v) e := by
  unfold Blk; rw [heap_setCell_same w g j _ e v h]; simp
theorem Blk.other {w : World} {g : Nat} {cs : List Value} {e : TypeId} (h : Blk w g cs e) {a : Addr} (hn : g ≠ a.block) (v : Value) : Blk (w.setCell a v) g cs e :=
  (heap_setCell_other w a g v hn).trans h
theorem Blk.new (w : World) (cs : List Value) (e : TypeId) : Blk (w.alloc (.cells cs.toArray e)) w.heap.size cs e := heap_alloc_new w _
theorem Blk.alloc {w : World} {g : Nat} {cs : List Value} {e : TypeId} (h : Blk w g cs e) (o : Obj) : Blk (w.alloc o) g cs e := (Below.heap_alloc w o g h.lt).trans h
theorem Blk.drew {w : World} {g : Nat} {cs : List Value} {e : TypeId} (h : Blk w g cs e) : Blk w.drew g cs e := h
theorem Blk.uniq {w : World} {g : Nat} {cs ds : List Value} {e f : TypeId} (h : Blk w g cs e) (k : Blk w g ds f) : cs = ds ∧ e = f := by
  have := h.symm.trans k
  simp at this
  exact this

/-- A slice of n elements, sz cells each, that is read: its cells are xs; S: the block that it lies in, if any. -/
def View (w : World) (v : Value) (sz n : Nat) (xs : List Value) (S : List Nat) : Prop :=
  xs.length = n * sz ∧ ∃ ao cap, v = .slice ao n cap ∧ n ≤ cap ∧ cap ≤ maxLen ∧
    ((n = 0 ∧ S = []) ∨ ∃ g off, ao = some ⟨g, off, none⟩ ∧ S = [g] ∧ g < w.heap.size ∧ ∀ j, j < xs.length → w.cell? ⟨g, off + j, none⟩ = xs[j]?)

theorem View.len {w : World} {v : Value} {sz n : Nat} {xs : List Value} {S : List Nat} (h : View w v sz n xs S) : xs.length = n * sz := h.1
theorem View.le {w : World} {v : Value} {sz n : Nat} {xs : List Value} {S : List Nat} (h : View w v sz n xs S) : n ≤ maxLen := by
  obtain ⟨_, ao, cap, _, h1, h2, _⟩ := h; omega
theorem View.shape {w : World} {v : Value} {sz n : Nat} {xs : List Value} {S : List Nat} (h : View w v sz n xs S) : ∃ ao cap, v = .slice ao n cap := by
  obtain ⟨_, ao, cap, h, _⟩ := h; exact ⟨ao, cap, h⟩
theorem View.lt {w : World} {v : Value} {sz n : Nat} {xs : List Value} {S : List Nat} (h : View w v sz n xs S) : ∀ k ∈ S, k < w.heap.size := by
  obtain ⟨_, ao, cap, _, _, _, ⟨_, rfl⟩ | ⟨g, off, _, rfl, hg, _⟩⟩ := h
  · simp
  · simpa using hg
theorem View.nil (w : World) (sz : Nat) : View w (.slice none 0 0) sz 0 [] [] := ⟨by simp, none, 0, rfl, Nat.le_refl _, by simp [maxLen], .inl ⟨rfl, rfl⟩⟩
theorem View.keep {S T : List Nat} {w w' : World} {v : Value} {sz n : Nat} {xs : List Value} (h : View w v sz n xs S) (k : Keeps T w w') (hn : ∀ x ∈ S, x ∉ T) : View w' v sz n xs S := by
  obtain ⟨h0, ao, cap, h1, h2, h3, h4⟩ := h
  refine ⟨h0, ao, cap, h1, h2, h3, ?_⟩
  rcases h4 with h4 | ⟨g, off, rfl, rfl, hg, hc⟩
  · exact .inl h4
  · refine .inr ⟨g, off, rfl, rfl, Nat.lt_of_lt_of_le hg k.size, fun j hj => ?_⟩
    rw [← hc j hj]
    exact World.cell?_of_block (w := w) (k.block g hg (hn g (by simp)))
theorem View.then {S : List Nat} {w w' : World} {v : Value} {sz n : Nat} {xs : List Value} (h : View w v sz n xs S) (k : Keeps [] w w') : View w' v sz n xs S := h.keep k (by simp)
theorem View.cell {S : List Nat} {w : World} {ao : Option Addr} {m cap : Nat} {sz n : Nat} {xs : List Value} (h : View w (.slice ao m cap) sz n xs S) (hp : 0 < n) :
    ∃ g off, ao = some ⟨g, off, none⟩ ∧ S = [g] ∧ g < w.heap.size ∧ ∀ j, j < xs.length → w.cell? ⟨g, off + j, none⟩ = xs[j]? := by
  obtain ⟨h0, ao', cap', h1, h2, h3, h4⟩ := h
  obtain ⟨rfl, rfl, rfl⟩ := by simpa using h1
  rcases h4 with ⟨rfl, _⟩ | h4
  · omega
  · exact h4
theorem View.of_blk {w : World} {g off n cap sz : Nat} {cs xs : List Value} {e : TypeId} (h : Blk w g cs e) (hl : xs.length = n * sz) (hn : n ≤ cap) (hc : cap ≤ maxLen) (hx : ∀ j, j < xs.length → cs[off + j]? = xs[j]?) :
    View w (.slice (some ⟨g, off, none⟩) n cap) sz n xs [g] :=
  ⟨hl, _, _, rfl, hn, hc, .inr ⟨g, off, rfl, rfl, h.lt, fun j hj => by rw [h.cell]; exact hx j hj⟩⟩

/-- An owned row (the kit's word, base 0) is read. -/
theorem View.of_own {w : World} {base : Nat} {e : TypeId} {sz : Nat} {v : Value} {n : Nat} {xs : List Value} (h : w.ownsRow base e sz v n xs) : View w v sz n xs v.ownBlock.toList := by
  obtain ⟨hl, h⟩ := h
  rcases h with ⟨rfl, rfl⟩ | ⟨g, cap, cur, rfl, _, hg, hnc, hcm, hcs, htake⟩
  · exact ⟨hl, none, 0, rfl, Nat.le_refl _, by simp [maxLen], .inl ⟨rfl, rfl⟩⟩
  · refine ⟨hl, _, cap, rfl, hnc, hcm, .inr ⟨g, 0, rfl, rfl, lt_of_block hg, fun j hj => ?_⟩⟩
    rw [Nat.zero_add, cell_of_row w g j cur e (0, 0) hg, ← htake, List.getElem?_take, if_pos (by omega)]
    simp

theorem own_keep {w w' : World} {base : Nat} {e : TypeId} {sz : Nat} {v : Value} {n : Nat} {xs : List Value} {S : List Nat} (h : w.ownsRow base e sz v n xs) (k : Keeps S w w') (hn : ∀ g, v.ownBlock = some g → g ∉ S) : w'.ownsRow base e sz v n xs := by
  obtain ⟨hl, h⟩ := h
  refine ⟨hl, ?_⟩
  rcases h with h | ⟨g, cap, cur, rfl, hb, hg, r⟩
  · exact .inl h
  · exact .inr ⟨g, cap, cur, rfl, hb, (k.block g (lt_of_block hg) (hn g rfl)).trans hg, r⟩

theorem drewN2 (w : World) (m n : Nat) : (w.drewN m).drewN n = w.drewN (m + n) := by simp [World.drewN, Nat.add_assoc]

theorem ret_int {k : IntKind} {a b : Int} (h : a = b) : Ending.returned (.int k a) = .returned (.int k b) := by rw [h]
theorem ret_vb {v : Value} {a b : Bool} (h : a = b) : Ending.returned (.tuple #[v, .bool a]) = .returned (.tuple #[v, .bool b]) := by rw [h]
theorem ret_bool {a b : Bool} (h : a = b) : Ending.returned (.bool a) = .returned (.bool b) := by rw [h]

end Go.Proofs.Ytopkfhmdgheghaa
