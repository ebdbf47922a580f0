/-
  Texts Core of this claim, put together: what they show stands at their heads.
  Conditions: none but those that each theorem states.
-/
import Derived.Test.YtbjnbngpjdoejaaDoorRows
import Derived.WalkKit
import Derived.Lib.Hide
import Derived.Laws.CopyOwn
import Derived.Laws.AppendOwnNone
import Derived.BigQuiet
import Derived.Deep.QuietTactic
import Derived.Deep.RegionLaw
import Derived.Deep.LoopGhost
import Derived.Deep.CutBlock
import Derived.Deep.DeepCutAuto
import Derived.Deep.DeepFit
import Derived.Deep.DeepMust
import Derived.Deep.RegionHeld3
import Derived.ProofKit
import Derived.OpenShut
import Derived.ChangeOld
import Derived.Deep.Slices
import Derived.Deep.Fields
import Derived.Maps.OwnSet
import Derived.Maps.RangeWalk
import Derived.Deep.MidRow
/- Base -/
namespace Go.Proofs.YtbjnbngpjdoejaaDoor
open Go.RowKit
set_option linter.unusedVariables false
set_option linter.unusedSimpArgs false
set_option linter.unnecessarySimpa false

structure Keeps (S : List Nat) (w w' : World) : Prop where
  os : w'.os = w.os
  tape : w'.tape = w.tape
  output : w'.output = w.output
  size : w.heap.size ≤ w'.heap.size
  block : ∀ k, k < w.heap.size → k ∉ S → w'.heap[k]? = w.heap[k]?

theorem Keeps.refl (S : List Nat) (w : World) : Keeps S w w := ⟨rfl, rfl, rfl, Nat.le_refl _, fun _ _ _ => rfl⟩

theorem Keeps.trans {S T : List Nat} {a b c : World} (h : Keeps S a b) (k : Keeps T b c) (hT : ∀ x ∈ T, x ∈ S ∨ a.heap.size ≤ x) : Keeps S a c :=
  ⟨k.os.trans h.os, k.tape.trans h.tape, k.output.trans h.output, Nat.le_trans h.size k.size, fun i hi hn =>
    (k.block i (Nat.lt_of_lt_of_le hi h.size) (fun hm => by rcases hT i hm with h1 | h1; exact hn h1; omega)).trans (h.block i hi hn)⟩

theorem Keeps.then {S : List Nat} {a b c : World} (h : Keeps S a b) (k : Keeps [] b c) : Keeps S a c := h.trans k (by simp)

theorem Keeps.mono {S T : List Nat} {a b : World} (h : Keeps S a b) (hS : ∀ x ∈ S, x ∈ T ∨ a.heap.size ≤ x) : Keeps T a b :=
  ⟨h.os, h.tape, h.output, h.size, fun i hi hn => h.block i hi (fun hm => by rcases hS i hm with h1 | h1; exact hn h1; omega)⟩

theorem Keeps.drew {S : List Nat} {a w : World} (h : Keeps S a w) : Keeps S a w.drew := ⟨h.os, h.tape, h.output, h.size, h.block⟩
theorem Keeps.drewN {S : List Nat} {a w : World} (h : Keeps S a w) (n : Nat) : Keeps S a (w.drewN n) := ⟨h.os, h.tape, h.output, h.size, h.block⟩

theorem Keeps.alloc {S : List Nat} {a w : World} (h : Keeps S a w) (o : Obj) : Keeps S a (w.alloc o) :=
  h.trans (T := []) ⟨rfl, rfl, rfl, by simp, fun k hk _ => Below.heap_alloc w o k hk⟩ (by simp)

theorem Keeps.setCell {S : List Nat} {a w : World} (h : Keeps S a w) {p : Addr} (hp : p.block ∈ S ∨ a.heap.size ≤ p.block) (u : Value) : Keeps S a (w.setCell p u) :=
  h.trans (T := [p.block]) ⟨rfl, rfl, rfl, by simp [World.setCell], fun k hk hn => Below.heap_setCell _ _ _ _ (by simpa using hn)⟩ (by simpa using hp)

theorem Keeps.setRow {S : List Nat} {a w : World} (h : Keeps S a w) {g : Nat} (hp : g ∈ S ∨ a.heap.size ≤ g) (cs : Array Value) : Keeps S a (w.setRow g cs) :=
  h.trans (T := [g]) ⟨rfl, rfl, rfl, by simp, fun k hk hn => setRow_other w g k _ (by simpa using hn)⟩ (by simpa using hp)

theorem Keeps.grown {S : List Nat} {a w w' : World} {row : Option Nat} (h : Keeps S a w) (hg : w.grownBy w' row) (hr : ∀ k, row = some k → k ∈ S ∨ a.heap.size ≤ k) : Keeps S a w' :=
  h.trans (T := row.toList) ⟨hg.os, hg.tape, hg.output, hg.size, fun k hk hn => hg.block k hk (by intro e; apply hn; simp [← e])⟩ (by intro x hx; exact hr x (by simpa using hx))

theorem Keeps.of_below {w w' : World} (h : Below w.heap.size w w') : Keeps [] w w' := ⟨h.os, h.tape, h.output, h.size, fun k hk _ => h.block k hk⟩
theorem Keeps.below {w w' : World} (h : Keeps [] w w') : Below w.heap.size w w' := ⟨h.os, h.tape, h.output, h.size, fun k hk => h.block k hk (by simp)⟩

theorem Keeps.cell {S : List Nat} {w w' : World} (h : Keeps S w w') {p : Addr} {v : Value} (hc : w.cell? p = some v) (hn : p.block ∉ S) : w'.cell? p = some v := by
  rw [World.cell?_of_block (w := w) (h.block p.block (block_lt_of_cell hc) hn)]; exact hc

def Blk (w : World) (g : Nat) (cs : List Value) (e : TypeId) : Prop := w.heap[g]? = some (.cells cs.toArray e (0, 0))

theorem Blk.lt {w : World} {g : Nat} {cs : List Value} {e : TypeId} (h : Blk w g cs e) : g < w.heap.size := lt_of_block h
theorem Blk.cell {w : World} {g : Nat} {cs : List Value} {e : TypeId} (h : Blk w g cs e) (j : Nat) : w.cell? ⟨g, j, none⟩ = cs[j]? := by
  rw [cell_of_row w g j _ e (0, 0) h]; simp
theorem Blk.free {w : World} {g : Nat} {cs : List Value} {e : TypeId} (h : Blk w g cs e) (j : Nat) : w.frozen? ⟨g, j, none⟩ = false := frozen_of_row w g j _ e h
theorem Blk.keep {S : List Nat} {w w' : World} {g : Nat} {cs : List Value} {e : TypeId} (h : Blk w g cs e) (k : Keeps S w w') (hn : g ∉ S) : Blk w' g cs e := (k.block g h.lt hn).trans h
theorem Blk.same {w w' : World} {g : Nat} {cs : List Value} {e : TypeId} (h : Blk w g cs e) (k : w'.heap[g]? = w.heap[g]?) : Blk w' g cs e := k.trans h
theorem Blk.set {w : World} {g : Nat} {cs : List Value} {e : TypeId} (h : Blk w g cs e) (j : Nat) (v : Value) : Blk (w.setCell ⟨g, j, none⟩ v) g (cs.set j v) e := by
  unfold Blk; rw [heap_setCell_same w g j _ e v h]; simp
theorem Blk.other {w : World} {g : Nat} {cs : List Value} {e : TypeId} (h : Blk w g cs e) {a : Addr} (hn : g ≠ a.block) (v : Value) : Blk (w.setCell a v) g cs e :=
  (heap_setCell_other w a g v hn).trans h
theorem Blk.new (w : World) (cs : List Value) (e : TypeId) : Blk (w.alloc (.cells cs.toArray e)) w.heap.size cs e := heap_alloc_new w _
theorem Blk.alloc {w : World} {g : Nat} {cs : List Value} {e : TypeId} (h : Blk w g cs e) (o : Obj) : Blk (w.alloc o) g cs e := (Below.heap_alloc w o g h.lt).trans h
theorem Blk.drew {w : World} {g : Nat} {cs : List Value} {e : TypeId} (h : Blk w g cs e) : Blk w.drew g cs e := h
theorem Blk.uniq {w : World} {g : Nat} {cs ds : List Value} {e f : TypeId} (h : Blk w g cs e) (k : Blk w g ds f) : cs = ds ∧ e = f := by
  have := h.symm.trans k
  simp at this
  exact this

def View (w : World) (v : Value) (sz n : Nat) (xs : List Value) (S : List Nat) : Prop :=
  xs.length = n * sz ∧ ∃ ao cap, v = .slice ao n cap ∧ n ≤ cap ∧ cap ≤ maxLen ∧
    ((n = 0 ∧ S = []) ∨ ∃ g off, ao = some ⟨g, off, none⟩ ∧ S = [g] ∧ g < w.heap.size ∧ ∀ j, j < xs.length → w.cell? ⟨g, off + j, none⟩ = xs[j]?)

theorem View.len {w : World} {v : Value} {sz n : Nat} {xs : List Value} {S : List Nat} (h : View w v sz n xs S) : xs.length = n * sz := h.1
theorem View.le {w : World} {v : Value} {sz n : Nat} {xs : List Value} {S : List Nat} (h : View w v sz n xs S) : n ≤ maxLen := by
  obtain ⟨_, ao, cap, _, h1, h2, _⟩ := h; omega
theorem View.shape {w : World} {v : Value} {sz n : Nat} {xs : List Value} {S : List Nat} (h : View w v sz n xs S) : ∃ ao cap, v = .slice ao n cap := by
  obtain ⟨_, ao, cap, h, _⟩ := h; exact ⟨ao, cap, h⟩
theorem View.lt {w : World} {v : Value} {sz n : Nat} {xs : List Value} {S : List Nat} (h : View w v sz n xs S) : ∀ k ∈ S, k < w.heap.size := by
  obtain ⟨_, ao, cap, _, _, _, ⟨_, rfl⟩ | ⟨g, off, _, rfl, hg, _⟩⟩ := h
  · simp
  · simpa using hg
theorem View.nil (w : World) (sz : Nat) : View w (.slice none 0 0) sz 0 [] [] := ⟨by simp, none, 0, rfl, Nat.le_refl _, by simp [maxLen], .inl ⟨rfl, rfl⟩⟩
theorem View.keep {S T : List Nat} {w w' : World} {v : Value} {sz n : Nat} {xs : List Value} (h : View w v sz n xs S) (k : Keeps T w w') (hn : ∀ x ∈ S, x ∉ T) : View w' v sz n xs S := by
  obtain ⟨h0, ao, cap, h1, h2, h3, h4⟩ := h
  refine ⟨h0, ao, cap, h1, h2, h3, ?_⟩
  rcases h4 with h4 | ⟨g, off, rfl, rfl, hg, hc⟩
  · exact .inl h4
  · refine .inr ⟨g, off, rfl, rfl, Nat.lt_of_lt_of_le hg k.size, fun j hj => ?_⟩
    rw [← hc j hj]
    exact World.cell?_of_block (w := w) (k.block g hg (hn g (by simp)))
theorem View.then {S : List Nat} {w w' : World} {v : Value} {sz n : Nat} {xs : List Value} (h : View w v sz n xs S) (k : Keeps [] w w') : View w' v sz n xs S := h.keep k (by simp)
theorem View.cell {S : List Nat} {w : World} {ao : Option Addr} {m cap : Nat} {sz n : Nat} {xs : List Value} (h : View w (.slice ao m cap) sz n xs S) (hp : 0 < n) :
    ∃ g off, ao = some ⟨g, off, none⟩ ∧ S = [g] ∧ g < w.heap.size ∧ ∀ j, j < xs.length → w.cell? ⟨g, off + j, none⟩ = xs[j]? := by
  obtain ⟨h0, ao', cap', h1, h2, h3, h4⟩ := h
  obtain ⟨rfl, rfl, rfl⟩ := by simpa using h1
  rcases h4 with ⟨rfl, _⟩ | h4
  · omega
  · exact h4
theorem View.of_blk {w : World} {g off n cap sz : Nat} {cs xs : List Value} {e : TypeId} (h : Blk w g cs e) (hl : xs.length = n * sz) (hn : n ≤ cap) (hc : cap ≤ maxLen) (hx : ∀ j, j < xs.length → cs[off + j]? = xs[j]?) :
    View w (.slice (some ⟨g, off, none⟩) n cap) sz n xs [g] :=
  ⟨hl, _, _, rfl, hn, hc, .inr ⟨g, off, rfl, rfl, h.lt, fun j hj => by rw [h.cell]; exact hx j hj⟩⟩

theorem View.of_own {w : World} {base : Nat} {e : TypeId} {sz : Nat} {v : Value} {n : Nat} {xs : List Value} (h : w.ownsRow base e sz v n xs) : View w v sz n xs v.ownBlock.toList := by
  obtain ⟨hl, h⟩ := h
  rcases h with ⟨rfl, rfl⟩ | ⟨g, cap, cur, rfl, _, hg, hnc, hcm, hcs, htake⟩
  · exact ⟨hl, none, 0, rfl, Nat.le_refl _, by simp [maxLen], .inl ⟨rfl, rfl⟩⟩
  · refine ⟨hl, _, cap, rfl, hnc, hcm, .inr ⟨g, 0, rfl, rfl, lt_of_block hg, fun j hj => ?_⟩⟩
    rw [Nat.zero_add, cell_of_row w g j cur e (0, 0) hg, ← htake, List.getElem?_take, if_pos (by omega)]
    simp

theorem own_keep {w w' : World} {base : Nat} {e : TypeId} {sz : Nat} {v : Value} {n : Nat} {xs : List Value} {S : List Nat} (h : w.ownsRow base e sz v n xs) (k : Keeps S w w') (hn : ∀ g, v.ownBlock = some g → g ∉ S) : w'.ownsRow base e sz v n xs := by
  obtain ⟨hl, h⟩ := h
  refine ⟨hl, ?_⟩
  rcases h with h | ⟨g, cap, cur, rfl, hb, hg, r⟩
  · exact .inl h
  · exact .inr ⟨g, cap, cur, rfl, hb, (k.block g (lt_of_block hg) (hn g rfl)).trans hg, r⟩

theorem drewN2 (w : World) (m n : Nat) : (w.drewN m).drewN n = w.drewN (m + n) := by simp [World.drewN, Nat.add_assoc]

theorem ret_int {k : IntKind} {a b : Int} (h : a = b) : Ending.returned (.int k a) = .returned (.int k b) := by rw [h]
theorem ret_vb {v : Value} {a b : Bool} (h : a = b) : Ending.returned (.tuple #[v, .bool a]) = .returned (.tuple #[v, .bool b]) := by rw [h]
theorem ret_bool {a b : Bool} (h : a = b) : Ending.returned (.bool a) = .returned (.bool b) := by rw [h]

end Go.Proofs.YtbjnbngpjdoejaaDoor
/- Row -/
namespace Go.Proofs.YtbjnbngpjdoejaaDoor
open Go.RowKit
set_option linter.unusedVariables false
set_option linter.unusedSimpArgs false
set_option linter.unnecessarySimpa false

def Row (w : World) (v : Value) (e : TypeId) (sz n : Nat) (xs : List Value) (S : List Nat) : Prop :=
  xs.length = n * sz ∧ ∃ ao cap, v = .slice ao n cap ∧ n ≤ cap ∧ cap ≤ maxLen ∧
    ((ao = none ∧ n = 0 ∧ cap = 0 ∧ S = []) ∨ ∃ g off cur, ao = some ⟨g, off, none⟩ ∧ S = [g] ∧ Blk w g cur e ∧ off + cap * sz ≤ cur.length ∧ ∀ j, j < xs.length → cur[off + j]? = xs[j]?)

section
variable {w w' : World} {v : Value} {e : TypeId} {sz n : Nat} {xs : List Value} {S T : List Nat}

theorem Row.view (h : Row w v e sz n xs S) : View w v sz n xs S := by
  obtain ⟨h0, ao, cap, h1, h2, h3, h4⟩ := h
  refine ⟨h0, ao, cap, h1, h2, h3, ?_⟩
  rcases h4 with h4 | ⟨g, off, cur, rfl, rfl, hb, hl, hc⟩
  · exact .inl ⟨h4.2.1, h4.2.2.2⟩
  · exact .inr ⟨g, off, rfl, rfl, hb.lt, fun j hj => by rw [hb.cell]; exact hc j hj⟩
theorem Row.len (h : Row w v e sz n xs S) : xs.length = n * sz := h.1
theorem Row.le (h : Row w v e sz n xs S) : n ≤ maxLen := h.view.le
theorem Row.lt (h : Row w v e sz n xs S) : ∀ k ∈ S, k < w.heap.size := h.view.lt
theorem Row.shape (h : Row w v e sz n xs S) : ∃ ao cap, v = .slice ao n cap := h.view.shape
theorem Row.keep (h : Row w v e sz n xs S) (k : Keeps T w w') (hn : ∀ x ∈ S, x ∉ T) : Row w' v e sz n xs S := by
  obtain ⟨h0, ao, cap, h1, h2, h3, h4⟩ := h
  refine ⟨h0, ao, cap, h1, h2, h3, ?_⟩
  rcases h4 with h4 | ⟨g, off, cur, rfl, rfl, hb, hr⟩
  · exact .inl h4
  · exact .inr ⟨g, off, cur, rfl, rfl, hb.keep k (hn g (by simp)), hr⟩
theorem Row.then (h : Row w v e sz n xs S) (k : Keeps [] w w') : Row w' v e sz n xs S := h.keep k (by simp)
theorem Row.alloc (h : Row w v e sz n xs S) (o : Obj) : Row (w.alloc o) v e sz n xs S := h.then ((Keeps.refl [] w).alloc o)
theorem Row.nil (w : World) (e : TypeId) (sz : Nat) : Row w (.slice none 0 0) e sz 0 [] [] := ⟨by simp, none, 0, rfl, Nat.le_refl _, by simp [maxLen], .inl ⟨rfl, rfl, rfl, rfl⟩⟩
theorem Row.lit (w : World) (cs : List Value) (e : TypeId) (sz n : Nat) (hl : cs.length = n * sz) (hm : n ≤ maxLen) : Row (w.alloc (.cells cs.toArray e)) (.slice (some ⟨w.heap.size, 0, none⟩) n n) e sz n cs [w.heap.size] :=
  ⟨hl, _, n, rfl, Nat.le_refl _, hm, .inr ⟨w.heap.size, 0, cs, rfl, rfl, Blk.new w cs e, by omega, by simp⟩⟩
theorem Row.of_own {base : Nat} (h : w.ownsRow base e sz v n xs) : Row w v e sz n xs v.ownBlock.toList ∧ ∀ k ∈ v.ownBlock.toList, base ≤ k := by
  obtain ⟨hl, h⟩ := h
  rcases h with ⟨rfl, rfl⟩ | ⟨g, cap, cur, rfl, hb, hg, hnc, hcm, hcs, htake⟩
  · exact ⟨⟨hl, none, 0, rfl, Nat.le_refl _, by simp [maxLen], .inl ⟨rfl, rfl, rfl, rfl⟩⟩, by simp [Value.ownBlock]⟩
  · refine ⟨⟨hl, _, cap, rfl, hnc, hcm, .inr ⟨g, 0, cur.toList, rfl, rfl, by simpa [Blk] using hg, by simp [hcs], fun j hj => ?_⟩⟩, by simpa [Value.ownBlock] using hb⟩
    rw [Nat.zero_add, ← htake, List.getElem?_take, if_pos (by omega)]

theorem Row.stored {g off m cap : Nat} (h : Row w (.slice (some ⟨g, off, none⟩) m cap) e sz n xs S) (j : Nat) (hj : j < xs.length) (u : Value) :
    Row (w.setCell ⟨g, off + j, none⟩ u) (.slice (some ⟨g, off, none⟩) m cap) e sz n (xs.set j u) S ∧ Keeps S w (w.setCell ⟨g, off + j, none⟩ u) := by
  obtain ⟨h0, ao, cap', h1, h2, h3, h4⟩ := h
  obtain ⟨rfl, rfl, rfl⟩ := by simpa using h1
  rcases h4 with ⟨h4, _⟩ | ⟨g', off', cur, h4, rfl, hb, hl, hc⟩
  · cases h4
  · obtain ⟨rfl, rfl⟩ := by simpa using h4
    refine ⟨⟨by simpa using h0, _, cap, rfl, h2, h3, .inr ⟨g, off, cur.set (off + j) u, rfl, rfl, hb.set _ u, by simpa using hl, fun i hi => ?_⟩⟩, (Keeps.refl _ w).setCell (by simp) u⟩
    have hi' : i < xs.length := by simpa using hi
    have hcl : off + j < cur.length := by
      have := hc j hj
      rw [List.getElem?_eq_getElem hj] at this
      exact (List.getElem?_eq_some_iff.1 this).1
    by_cases e : i = j
    · subst e; simp [hcl, hj]
    · rw [List.getElem?_set_ne (by omega), List.getElem?_set_ne (by omega)]; exact hc i hi'

theorem Row.cells {ao : Option Addr} {m cap : Nat} (h : Row w (.slice ao m cap) e sz n xs S) (hp : 0 < n) :
    ∃ g off, ao = some ⟨g, off, none⟩ ∧ S = [g] ∧ g < w.heap.size ∧ (∀ j, j < xs.length → w.cell? ⟨g, off + j, none⟩ = xs[j]?) ∧ ∀ j, w.frozen? ⟨g, off + j, none⟩ = false := by
  obtain ⟨h0, ao', cap', h1, h2, h3, h4⟩ := h
  obtain ⟨rfl, rfl, rfl⟩ := by simpa using h1
  rcases h4 with ⟨_, rfl, _⟩ | ⟨g, off, cur, rfl, rfl, hb, hl, hc⟩
  · omega
  · exact ⟨g, off, rfl, rfl, hb.lt, fun j hj => by rw [hb.cell]; exact hc j hj, fun j => hb.free _⟩
end

theorem oc_int {k : IntKind} {n : Int} : ∀ y ∈ [Value.int k n], y.oneCell' = true := by intro y hy; simp at hy; subst hy; rfl
theorem oc_bool {b : Bool} : ∀ y ∈ [Value.bool b], y.oneCell' = true := by intro y hy; simp at hy; subst hy; rfl
theorem oc_ints {k : IntKind} (l : List Int) : ∀ y ∈ l.map (Value.int k), y.oneCell' = true := by intro y hy; simp at hy; obtain ⟨_, _, rfl⟩ := hy; rfl
theorem one_le_max : 1 ≤ maxLen := by simp [maxLen]

def Elem (P : Program) (t e : TypeId) (sz bytes : Nat) (z : Value) : Prop :=
  P.underlying t = some (.slice e) ∧ (P.info? e).map (fun i => (i.zero, i.size, i.bytes)) = some (some z, sz, bytes) ∧ z.cells.size = sz ∧ 0 < sz ∧ 0 < bytes

section
variable {P : Program} {t e : TypeId} {sz bytes : Nat} {z : Value}

theorem run_room_at (w : World) (t ty e : TypeId) (i : TypeInfo) (ht : P.underlying t = some (.slice e)) (hi : P.info? e = some i)
    (g off sLen sCap : Nat) (cur : Array Value) (hg : w.heap[g]? = some (.cells cur e (0, 0)))
    (a : Addr) (m c : Nat) (news : List Value) (hl : news.length = m * i.size) (hnews : ∀ j u, news[j]? = some u → w.cell? (a.add j) = some u) (h1 : ∀ u ∈ news, u.oneCell' = true)
    (hroom : sLen + m ≤ sCap) (hfit : off + sLen * i.size + news.length ≤ cur.size) :
    ∃ cur', (Builtin.append_ #[t, t] ty #[.slice (some ⟨g, off, none⟩) sLen sCap, .slice (some a) m c]).run P w =
      .ok (.slice (some ⟨g, off, none⟩) (sLen + m) sCap) (w.setRow g cur') ∧ cur' = (cur.toList.take (off + sLen * i.size) ++ news ++ cur.toList.drop (off + sLen * i.size + news.length)).toArray := by
  have hf := run_firstCells_some (P := P) w i.size m a m c news hl hnews
  have hst := run_storeCells_at P g (off + sLen * i.size) e news 0 cur w hg (by simpa using hfit) h1
  simp only [Nat.add_zero] at hst
  refine ⟨_, ?_, rfl⟩
  simp [Builtin.append_, run_underlying ht, sizeOf, typeInfo, hi, Builtin.lenOf, hroom, hf, Addr.add_lit, hst]

theorem run_app (E : Elem P t e sz bytes z) (ty : TypeId) {w : World} {v u : Value} {n m : Nat} {xs ys : List Value} {S T : List Nat} (h : Row w v e sz n xs S) (hu : View w u sz m ys T)
    (h1 : ∀ y ∈ ys, y.oneCell' = true) (hb : (n + m) * bytes ≤ 140737488355328) :
    ∃ ao cap w' S', (Builtin.append_ #[t, t] ty #[v, u]).run P w = .ok (.slice ao (n + m) cap) w' ∧ Row w' (.slice ao (n + m) cap) e sz (n + m) (xs ++ ys) S' ∧ Keeps S w w' ∧ (∀ k ∈ S', k ∈ S ∨ w.heap.size ≤ k) ∧
      (m = 0 → .slice ao (n + m) cap = v ∧ w' = w) := by
  obtain ⟨ht, hinf, hz, hpos, hby⟩ := E
  obtain ⟨i, hi, hi1, hi2, hi3⟩ := info_parts hinf
  clear hinf
  subst hi2; subst hi3
  have hlen : (xs ++ ys).length = (n + m) * i.size := by rw [List.length_append, h.1, hu.1, Nat.add_mul]
  have hsmall : n + m ≤ 140737488355328 := Nat.le_trans (Nat.le_mul_of_pos_right _ hby) hb
  have h63 : n + m ≤ maxLen := by simp only [maxLen]; omega
  by_cases hm : m = 0
  · subst hm
    have hy : ys = [] := List.eq_nil_of_length_eq_zero (by have := hu.1; simpa using this)
    subst hy
    obtain ⟨ao, cap, rfl⟩ := h.shape
    obtain ⟨bo, bap, rfl⟩ := hu.shape
    refine ⟨ao, cap, w, S, ?_, by simpa using h, Keeps.refl _ _, fun k hk => .inl hk, fun _ => ⟨by simp, rfl⟩⟩
    obtain ⟨_, ao', cap', h1, hnc, hcm, _⟩ := h
    obtain ⟨rfl, rfl⟩ := by simpa using h1
    cases bo with
    | none => simp [Builtin.append_, run_underlying ht, sizeOf, typeInfo, hi, Builtin.lenOf, Builtin.firstCells, hnc]; cases ao <;> simp [storeCells]
    | some b =>
      have hf := run_firstCells_some (P := P) w i.size 0 b 0 bap [] (by simp) (by simp)
      simp [Builtin.append_, run_underlying ht, sizeOf, typeInfo, hi, Builtin.lenOf, hnc, hf]; cases ao <;> simp [storeCells]
  · obtain ⟨hul, bo, bap, rfl, hub, hum, hu4⟩ := hu
    rcases hu4 with ⟨h0, _⟩ | ⟨ug, uoff, rfl, rfl, hug, huc⟩
    · omega
    have hnews : ∀ j y, ys[j]? = some y → w.cell? ((⟨ug, uoff, none⟩ : Addr).add j) = some y := by
      intro j y hy
      rw [Addr.add_lit, huc j (List.getElem?_eq_some_iff.1 hy).1]; exact hy
    have hinner : ∀ (old : Nat) (olds : List Value), old < n + m → olds.length = n * i.size → olds = xs →
        Row (w.drew.alloc (.cells (olds.toArray ++ ys.toArray ++ Builtin.zeroCells z.cells (grownCap w (n + m) old e - (n + m))) e)) (.slice (some ⟨w.heap.size, 0, none⟩) (n + m) (grownCap w (n + m) old e)) e i.size (n + m) (xs ++ ys) [w.heap.size] := by
      intro old olds ho hol hx
      subst hx
      have hge := grownCap_ge w (n + m) old e
      have hcm : grownCap w (n + m) old e ≤ maxLen := grownCap_le_maxLen w (n + m) old e h63
      refine ⟨hlen, _, _, rfl, hge, hcm, .inr ⟨w.heap.size, 0, (olds.toArray ++ ys.toArray ++ Builtin.zeroCells z.cells (grownCap w (n + m) old e - (n + m))).toList, rfl, rfl, ?_, ?_, ?_⟩⟩
      · unfold Blk; rw [Array.toArray_toList]; exact heap_alloc_new w.drew _
      · simp only [Array.length_toList, Array.size_append, List.size_toArray, size_zeroCells, hz, hol, hul, ← Nat.add_mul, Nat.zero_add]
        exact Nat.mul_le_mul_right _ (by omega)
      · intro j hj
        rw [Nat.zero_add]
        simp only [Array.toList_append, List.append_assoc]
        rw [← List.append_assoc, List.getElem?_append_left (by simpa using hj)]
    have hkeep : ∀ o : Obj, Keeps S w (w.drew.alloc o) := fun o => (Keeps.refl S w).drew.alloc o
    obtain ⟨hl, ao, cap, rfl, hnc, hcm, h4⟩ := h
    rcases h4 with ⟨rfl, rfl, rfl, rfl⟩ | ⟨g, off, cur, rfl, rfl, hg, hfit, hc⟩
    · have hxs : xs = [] := List.eq_nil_of_length_eq_zero (by simpa using hl)
      subst hxs
      have hr := run_append_nil (P := P) w t ty e i z ht hi hi1 _ m bap ys hul hnews (by omega) (by omega) (by have := hb; simp only [Nat.zero_add] at this; omega)
      have hI := hinner 0 [] (by omega) (by simp) rfl
      simp only [Nat.zero_add, List.nil_append, Array.empty_append] at hI ⊢
      exact ⟨_, _, _, _, hr, by simpa using hI, by simpa using hkeep _, by simp, fun h => absurd h hm⟩
    · by_cases hroom : n + m ≤ cap
      · have hfit' : off + n * i.size + ys.length ≤ cur.length := by
          have : (n + m) * i.size ≤ cap * i.size := Nat.mul_le_mul_right _ hroom
          rw [Nat.add_mul] at this; omega
        obtain ⟨cur', hr, hcur⟩ := run_room_at (P := P) w t ty e i ht hi g off n cap cur.toArray hg _ m bap ys hul hnews h1 hroom (by simpa using hfit')
        refine ⟨_, _, _, _, hr, ⟨hlen, _, _, rfl, hroom, hcm, .inr ⟨g, off, cur'.toList, rfl, rfl, ?_, ?_, ?_⟩⟩, (Keeps.refl _ w).setRow (by simp) _, by simp, fun h => absurd h hm⟩
        · unfold Blk; rw [Array.toArray_toList]; exact setRow_heap w g cur.toArray _ e _ hg
        · rw [hcur]; simp; omega
        · intro j hj
          rw [hcur]
          simp only
          by_cases hj1 : j < xs.length
          · rw [List.append_assoc, List.getElem?_append_left (by simp; omega), List.getElem?_append_left hj1, List.getElem?_take, if_pos (by omega)]
            exact hc j hj1
          · have hj2 : j < xs.length + ys.length := by simpa using hj
            have hcu : xs.length ≤ (n + m) * i.size := by rw [Nat.add_mul, hl]; omega
            have htl : (cur.take (off + n * i.size)).length = off + n * i.size := by rw [List.length_take]; omega
            have e1 : (xs ++ ys)[j]? = ys[j - xs.length]? := List.getElem?_append_right (by omega)
            rw [e1, List.append_assoc, List.getElem?_append_right (by rw [htl]; omega), List.getElem?_append_left (by rw [htl]; omega), htl, hl]
            congr 1; omega
      · have holds : ∀ j y, xs[j]? = some y → w.cell? ((⟨g, off, none⟩ : Addr).add j) = some y := by
          intro j y hy
          rw [Addr.add_lit, hg.cell, hc j (List.getElem?_eq_some_iff.1 hy).1]; exact hy
        have hr := run_append_grow (P := P) w t ty e i z ht hi hi1 ⟨g, off, none⟩ n cap xs hl holds _ m bap ys hul hnews (by omega) (by omega) (growslice_fits (by omega) hb)
        exact ⟨_, _, _, _, hr, hinner cap xs (by omega) hl rfl, hkeep _, by simp, fun h => absurd h hm⟩

theorem wp_app (E : Elem P t e sz bytes z) {w : World} {ops : Array Oper} {rest : List Oper} {o : Oper} {a : Act} {Q : Exit → Act → World → Prop} {s x : Operand}
    {v u : Value} {n m : Nat} {xs ys : List Value} {S T : List Nat} (h : Row w v e sz n xs S) (hu : View w u sz m ys T)
    (h1 : ∀ y ∈ ys, y.oneCell' = true) (hb : (n + m) * bytes ≤ 140737488355328)
    (hK : ∀ ao cap w' S', Row w' (.slice ao (n + m) cap) e sz (n + m) (xs ++ ys) S' → Keeps S w w' → (∀ k ∈ S', k ∈ S ∨ w.heap.size ≤ k) → wpList P ops Q rest (a.put o.dst (.slice ao (n + m) cap)) w')
    (hg : o.guard = none := by rfl) (hop : o.op = Op.call { callee := Callee.builtin Builtin.append, args := #[s, x], argTypes := #[t, t] } := by rfl) (hs : a.eval s = v := by rfl) (hx : a.eval x = u := by rfl) :
    wpList P ops Q (o :: rest) a w := by
  obtain ⟨ao, cap, w', S', hrun, r1, r2, r3, _⟩ := run_app E o.type h hu h1 hb
  refine wpList_plain hg fun K hK' => ?_
  unfold Oper.wp
  simp [execOp, hop, resolve, invoke, builtin, hs, hx, hrun, Result.andThen]
  exact hK' _ _ (hK ao cap w' S' r1 r2 r3)

theorem wp_app1 (E : Elem P t e sz bytes z) {w : World} {ops : Array Oper} {rest : List Oper} {o : Oper} {a : Act} {Q : Exit → Act → World → Prop} {s x : Operand}
    {v : Value} {n m bx : Nat} {xs ys : List Value} {S : List Nat} (h : Row w v e sz n xs S) (hy : ys.length = m * sz) (hm : m ≤ maxLen)
    (h1 : ∀ y ∈ ys, y.oneCell' = true) (hb : (n + m) * bytes ≤ 140737488355328)
    (hK : ∀ ao cap w' S', Row w' (.slice ao (n + m) cap) e sz (n + m) (xs ++ ys) S' → Keeps S w w' → (∀ k ∈ S', k ∈ S ∨ w.heap.size ≤ k) → wpList P ops Q rest (a.put o.dst (.slice ao (n + m) cap)) w')
    (hg : o.guard = none := by rfl) (hop : o.op = Op.call { callee := Callee.builtin Builtin.append, args := #[s, x], argTypes := #[t, t] } := by rfl) (hs : a.eval s = v := by rfl) (hx : a.eval x = .slice (some ⟨bx, 0, none⟩) m m := by rfl) (hbx : bx = w.heap.size := by first | rfl | simp) :
    wpList P ops Q (o :: rest) a (w.alloc (.cells ys.toArray e)) := by
  subst hbx
  refine wp_app E (h.alloc _) (Row.lit w ys e sz m hy hm).view h1 hb ?_ hg hop hs hx
  intro ao cap w' S' r1 r2 r3
  refine hK ao cap w' S' r1 (((Keeps.refl S w).alloc _).trans r2 (fun k hk => .inl hk)) (fun k hk => ?_)
  rcases r3 k hk with h | h
  · exact .inl h
  · right; simp at h; omega

theorem step_app (E : Elem P t e sz bytes z) {w : World} {ops : Array Oper} {o : Oper} {a : Act} {K : Act → World → Prop} {Q : Exit → Act → World → Prop} {F : Prop} {s x : Operand}
    {v u : Value} {n m : Nat} {xs ys : List Value} {S T : List Nat} (h : Row w v e sz n xs S) (hu : View w u sz m ys T)
    (h1 : ∀ y ∈ ys, y.oneCell' = true) (hb : (n + m) * bytes ≤ 140737488355328)
    (hK : ∀ ao cap w' S', Row w' (.slice ao (n + m) cap) e sz (n + m) (xs ++ ys) S' → Keeps S w w' → (∀ k ∈ S', k ∈ S ∨ w.heap.size ≤ k) → K (a.put o.dst (.slice ao (n + m) cap)) w')
    (hg : o.guard = none := by rfl) (hop : o.op = Op.call { callee := Callee.builtin Builtin.append, args := #[s, x], argTypes := #[t, t] } := by rfl) (hs : a.eval s = v := by rfl) (hx : a.eval x = u := by rfl) :
    if Region.wanted o (yielded ops a.tmps) = true then Oper.wp P o a w K Q else F := by
  have hw : Region.wanted o (yielded ops a.tmps) = true := by simp [Region.wanted, hg]
  rw [if_pos hw]
  obtain ⟨ao, cap, w', S', hrun, r1, r2, r3, _⟩ := run_app E o.type h hu h1 hb
  unfold Oper.wp
  simp [execOp, hop, resolve, invoke, builtin, hs, hx, hrun, Result.andThen]
  exact hK ao cap w' S' r1 r2 r3

theorem step_app1 (E : Elem P t e sz bytes z) {w : World} {ops : Array Oper} {o : Oper} {a : Act} {K : Act → World → Prop} {Q : Exit → Act → World → Prop} {F : Prop} {s x : Operand}
    {v : Value} {n m bx : Nat} {xs ys : List Value} {S : List Nat} (h : Row w v e sz n xs S) (hy : ys.length = m * sz) (hm : m ≤ maxLen)
    (h1 : ∀ y ∈ ys, y.oneCell' = true) (hb : (n + m) * bytes ≤ 140737488355328)
    (hK : ∀ ao cap w' S', Row w' (.slice ao (n + m) cap) e sz (n + m) (xs ++ ys) S' → Keeps S w w' → (∀ k ∈ S', k ∈ S ∨ w.heap.size ≤ k) → K (a.put o.dst (.slice ao (n + m) cap)) w')
    (hg : o.guard = none := by rfl) (hop : o.op = Op.call { callee := Callee.builtin Builtin.append, args := #[s, x], argTypes := #[t, t] } := by rfl) (hs : a.eval s = v := by rfl) (hx : a.eval x = .slice (some ⟨bx, 0, none⟩) m m := by rfl) (hbx : bx = w.heap.size := by first | rfl | simp) :
    if Region.wanted o (yielded ops a.tmps) = true then Oper.wp P o a (w.alloc (.cells ys.toArray e)) K Q else F := by
  subst hbx
  refine step_app E (h.alloc _) (Row.lit w ys e sz m hy hm).view h1 hb ?_ hg hop hs hx
  intro ao cap w' S' r1 r2 r3
  refine hK ao cap w' S' r1 (((Keeps.refl S w).alloc _).trans r2 (fun k hk => .inl hk)) (fun k hk => ?_)
  rcases r3 k hk with h | h
  · exact .inl h
  · right; simp at h; omega

theorem wp_make (E : Elem P t e sz bytes z) {w : World} {ops : Array Oper} {rest : List Oper} {o : Oper} {a : Act} {Q : Exit → Act → World → Prop} {l c : Operand}
    {kl kc : IntKind} {L C : Int} (n : Nat) (hb : n * bytes ≤ 281474976710656)
    (hK : ∀ w', Row w' (.slice (some ⟨w.heap.size, 0, none⟩) n n) e sz n (madeCells z.cells (n * sz)).toList [w.heap.size] → Keeps [] w w' → wpList P ops Q rest (a.put o.dst (.slice (some ⟨w.heap.size, 0, none⟩) n n)) w')
    (hg : o.guard = none := by rfl) (hop : o.op = Op.makeSlice t l c := by rfl) (hl : a.eval l = .int kl L := by rfl) (hc : a.eval c = .int kc C := by rfl) (hL : L = (n : Int)) (hC : C = (n : Int)) :
    wpList P ops Q (o :: rest) a w := by
  obtain ⟨ht, hinf, hz, hpos, hby⟩ := E
  obtain ⟨i, hi, hi1, hi2, hi3⟩ := info_parts hinf
  clear hinf
  have hsmall : n ≤ 281474976710656 := Nat.le_trans (Nat.le_mul_of_pos_right _ hby) hb
  refine wpList_make_full w hg l c t hop 0 e i z sz ht hi hi1 hi2 kl kc L C n hl hc hL hC (by rw [hi3, Nat.mul_comm]; exact hb) (by simp only [maxLen]; omega) (Nat.zero_le _) ?_
  intro w' h1 h2
  exact hK w' (Row.of_own h1).1 ((Keeps.refl [] w).grown h2 (by simp))

theorem wp_make0 (E : Elem P t e sz bytes z) {w : World} {ops : Array Oper} {rest : List Oper} {o : Oper} {a : Act} {Q : Exit → Act → World → Prop} {l c : Operand}
    {kl kc : IntKind} {C : Int} (n : Nat) (hb : n * bytes ≤ 281474976710656)
    (hK : ∀ w', Row w' (.slice (some ⟨w.heap.size, 0, none⟩) 0 n) e sz 0 [] [w.heap.size] → Keeps [] w w' → wpList P ops Q rest (a.put o.dst (.slice (some ⟨w.heap.size, 0, none⟩) 0 n)) w')
    (hg : o.guard = none := by rfl) (hop : o.op = Op.makeSlice t l c := by rfl) (hl : a.eval l = .int kl 0 := by rfl) (hc : a.eval c = .int kc C := by rfl) (hC : C = (n : Int)) :
    wpList P ops Q (o :: rest) a w := by
  obtain ⟨ht, hinf, hz, hpos, hby⟩ := E
  obtain ⟨i, hi, hi1, hi2, hi3⟩ := info_parts hinf
  clear hinf
  have hsmall : n ≤ 281474976710656 := Nat.le_trans (Nat.le_mul_of_pos_right _ hby) hb
  refine wpList_make_own w hg l c t hop 0 e i z sz ht hi hi1 hi2 kl kc C n hl hc hC (by rw [hi3, Nat.mul_comm]; exact hb) (by simp only [maxLen]; omega) (Nat.zero_le _) ?_
  intro w' h1 h2
  exact hK w' (Row.of_own h1).1 ((Keeps.refl [] w).grown h2 (by simp))
theorem wp_copy (E : Elem P t e 1 bytes z) {w : World} {ops : Array Oper} {rest : List Oper} {o : Oper} {a : Act} {Q : Exit → Act → World → Prop} {d s : Operand}
    {v u : Value} {n m : Nat} {xs ys : List Value} {S T : List Nat} (h : Row w v e 1 n xs S) (hu : View w u 1 m ys T) (h1 : ∀ y ∈ ys, y.oneCell' = true)
    (hK : ∀ w', Row w' v e 1 n (ys.take (min m n) ++ xs.drop (min m n)) S → Keeps S w w' → wpList P ops Q rest (a.put o.dst (goInt ((min m n : Nat) : Int))) w')
    (hg : o.guard = none := by rfl) (hop : o.op = .call { callee := .builtin .copy, args := #[d, s], argTypes := #[t, t] } := by rfl) (hd : a.eval d = v := by rfl) (hs : a.eval s = u := by rfl) :
    wpList P ops Q (o :: rest) a w := by
  obtain ⟨ht, hinf, hz, hpos, hby⟩ := E
  obtain ⟨i, hi, hi1, hi2, hi3⟩ := info_parts hinf
  have hsz : (P.info? e).map (·.size) = some 1 := by rw [hi]; simp [hi2]
  obtain ⟨hul, bo, bap, rfl, hub, hum, hu4⟩ := hu
  obtain ⟨hl, ao, cap, rfl, hnc, hcm, h4⟩ := h
  by_cases h0 : min m n = 0
  · refine wpList_copy_nothing hg d s t t hop e ht hsz ao bo n cap m bap hd hs (by simpa [Nat.min_def] using h0) ?_
    have := hK w ⟨by rw [h0]; simpa using hl, _, _, rfl, hnc, hcm, by rw [h0]; simpa using h4⟩ (Keeps.refl _ _)
    rwa [h0] at this
  · rcases h4 with ⟨_, rfl, _⟩ | ⟨g, off, cur, rfl, rfl, hb, hfit, hc⟩
    · simp at h0
    · rcases hu4 with ⟨rfl, _⟩ | ⟨ug, uoff, rfl, rfl, hug, huc⟩
      · simp at h0
      · have hml : (ys.take (min m n)).length = min m n := by rw [List.length_take, hul]; omega
        refine wpList_copy_own hg d s t t hop e ht hsz g off n cap ⟨ug, uoff, none⟩ m bap hd hs cur.toArray e hb (ys.take (min m n)) (by rw [hml]) ?_ (by rw [hml, List.size_toArray]; omega) (fun y hy => h1 y (List.mem_of_mem_take hy)) ?_
        · intro j y hy
          rw [List.getElem?_take] at hy
          split at hy
          · rw [Addr.add_lit, huc j (List.getElem?_eq_some_iff.1 hy).1]; exact hy
          · cases hy
        · rw [hml]
          refine hK _ ⟨?_, _, _, rfl, hnc, hcm, .inr ⟨g, off, _, rfl, rfl, setRow_heap w g cur.toArray _ e _ hb, ?_, ?_⟩⟩ ((Keeps.refl _ w).setRow (by simp) _)
          · rw [List.length_append, hml, List.length_drop, hl]; omega
          · simp only [List.length_append, List.length_take, List.length_drop, hml]
            omega
          · intro j hj
            have hjl : j < n := by rw [List.length_append, hml, List.length_drop] at hj; omega
            have htl : (cur.take off).length = off := by rw [List.length_take]; omega
            rw [List.getElem?_append_right (by rw [htl]; omega), htl, show off + j - off = j by omega]
            by_cases hjm : j < min m n
            · rw [List.getElem?_append_left (by rw [hml]; exact hjm), List.getElem?_append_left (by rw [hml]; exact hjm)]
            · rw [List.getElem?_append_right (by rw [hml]; omega), List.getElem?_append_right (by rw [hml]; omega), hml, List.getElem?_drop, List.getElem?_drop]
              rw [show off + min m n + (j - min m n) = off + j by omega, show min m n + (j - min m n) = j by omega]
              exact hc j (by omega)
end

end Go.Proofs.YtbjnbngpjdoejaaDoor
/- Flat -/
namespace Go.Proofs.YtbjnbngpjdoejaaDoor
open Go.RowKit Go.ChangeShapes Go.WideShapes Go.Deep
set_option linter.unusedVariables false
set_option linter.unusedSimpArgs false
set_option linter.unnecessarySimpa false

def ckOk : Option IntKind → Value → Prop
  | some k, v => ∃ n, v = .int k n ∧ (Lit.int k n).wf = true
  | none, v => ∃ b, v = .bool b
def kindOf (P : Program) (t : TypeId) : Option (Option IntKind) := match P.underlying t with
  | some (.int k) => some (some k)
  | some .bool => some none
  | _ => none
def flatOf (P : Program) (e : TypeId) : Option (List (Option IntKind)) := match P.underlying e with
  | some (.struct fs) => if oneCellFields P fs && P.cellsOf e == fs.size then fs.toList.mapM (fun f => kindOf P f.type) else none
  | _ => if P.cellsOf e == 1 then (kindOf P e).map (fun k => [k]) else none

section
variable {H : Type} {enc : TypeId × Value → H} {P : Program} {w : World} {base : Nat} {spare : Nat → Bool} {held : Bool}

theorem kind_cell {t : TypeId} {k : Option IntKind} {fuel : Nat} {cs : List Value} {x : DataW H × List MemPlace} (hk : kindOf P t = some k) (h : DataW.trod enc P w base spare held fuel t cs = some x) : cs.length = 1 ∧ ckOk k (cs.getD 0 undef) := by
  unfold kindOf at hk
  split at hk
  · rename_i k' hu
    obtain rfl := Option.some.inj hk
    obtain ⟨n, rfl, _, hw⟩ := DataW.trod_int hu h
    exact ⟨rfl, n, rfl, hw⟩
  · rename_i hu
    obtain rfl := Option.some.inj hk
    obtain ⟨b, rfl, _⟩ := DataW.trod_bool hu h
    exact ⟨rfl, b, rfl⟩
  · cases hk

theorem flat_elem {e : TypeId} {ks : List (Option IntKind)} {fuel : Nat} {cs : List Value} {x : DataW H × List MemPlace} (hf : flatOf P e = some ks) (h : DataW.trod enc P w base spare held fuel e cs = some x) :
    P.cellsOf e = ks.length ∧ cs.length = ks.length ∧ ∀ (i : Nat) (k : Option IntKind), ks[i]? = some k → ckOk k (cs.getD i undef) := by
  unfold flatOf at hf
  split at hf
  · rename_i fs hu
    split at hf
    · rename_i hc
      simp only [Bool.and_eq_true, beq_iff_eq] at hc
      obtain ⟨xs, n, _, _, hcl, hxl, hfi⟩ := DataW.trod_struct hu h
      have hlen : ks.length = fs.size := by have := mapM_some_length hf; rw [this]; simp
      refine ⟨by omega, by omega, fun i k hi => ?_⟩
      have hlt : i < fs.size := by have := (List.getElem?_eq_some_iff.1 hi).1; omega
      have hfs : fs[i]? = some fs[i] := Array.getElem?_eq_getElem hlt
      obtain ⟨ho, h1⟩ := hone_of hc.1 i fs[i] hfs
      have g := hfi i fs[i] hfs
      rw [ho, h1, take1_drop cs i undef (by omega), List.getElem?_eq_getElem (by omega)] at g
      have hk := mapM_some_get hf i fs[i] (by simpa using hfs)
      rw [hi] at hk
      have := (kind_cell hk g).2
      simpa using this
    · cases hf
  · split at hf
    · rename_i hc
      simp only [beq_iff_eq] at hc
      obtain ⟨k0, hk, rfl⟩ := Option.map_eq_some_iff.1 hf
      have := kind_cell hk h
      refine ⟨by simpa using hc, by simp [this.1], fun i k hi => ?_⟩
      match i, hi with
      | 0, hi => simp at hi; subst hi; exact this.2
    · cases hf

theorem open_flat {t e : TypeId} {ks : List (Option IntKind)} {W : World} {r : Reach} {b0 : Nat} {v : Value} {d : DataW H} {p : List MemPlace} (ht : P.underlying t = some (.slice e)) (hf : flatOf P e = some ks) (h0 : 0 < ks.length)
    (hv : Value.okWide P W r b0 t v) (h : DataW.Trod enc P W 0 (fun _ => true) true t v d p) :
    ∃ (n : Nat) (xs : List Value) (S : List Nat), View W v ks.length n xs S ∧ ∀ k, k < n → ∀ (f : Nat) (q : Option IntKind), ks[f]? = some q → ckOk q (xs.getD (k * ks.length + f) undef) := by
  obtain ⟨ao, len, cap, rfl⟩ := okWide_slice ht hv
  obtain ⟨fuel, hfu⟩ := h
  rcases open_slice ht hfu with ⟨hcs, _⟩ | ⟨a, l, c, m, n, D, Pl, hcs, hb, hl, hm, hmm, _, hx⟩
  · simp [Value.cells] at hcs
    obtain ⟨rfl, rfl, rfl⟩ := hcs
    exact ⟨0, [], [], View.nil _ _, fun k hk => by omega⟩
  · simp [Value.cells] at hcs
    obtain ⟨rfl, rfl, rfl⟩ := hcs
    by_cases hz : len = 0
    · subst hz
      exact ⟨0, [], [], ⟨by simp, _, _, rfl, hl, hm, .inl ⟨rfl, rfl⟩⟩, fun k hk => by omega⟩
    · have hmc : len ≤ m := by rw [hmm]; simp; omega
      have hcell : ∀ k, k < len → P.cellsOf e = ks.length ∧ (∀ f, f < ks.length → ∃ u, W.cell? (a.add (k * ks.length + f)) = some u ∧ ∀ q, ks[f]? = some q → ckOk q u) := by
        intro k hk
        obtain ⟨cs', h1, h2⟩ := hx k (by omega)
        obtain ⟨e1, e2, e3⟩ := flat_elem hf h2
        refine ⟨e1, fun f hf' => ?_⟩
        obtain ⟨_, _, hcc⟩ := World.cells?_some h1
        have := hcc f (by omega)
        rw [Go.Deep.add_add, e1, List.getElem?_eq_getElem (by omega)] at this
        refine ⟨_, this, fun q hq => ?_⟩
        have := e3 f q hq
        simpa [List.getD, List.getElem?_eq_getElem (show f < cs'.length by omega)] using this
      obtain ⟨g, off, spot⟩ := a
      obtain ⟨u0, hu0, _⟩ := (hcell 0 (by omega)).2 0 h0
      have hspot : spot = none := by simpa [Addr.add] using World.cell?_spot hu0
      subst hspot
      have hex : ∀ j, j < len * ks.length → ∃ u, W.cell? ⟨g, off + j, none⟩ = some u := by
        intro j hj
        have hk : j / ks.length < len := Nat.div_lt_of_lt_mul (by rw [Nat.mul_comm]; exact hj)
        obtain ⟨u, hu, _⟩ := (hcell (j / ks.length) hk).2 (j % ks.length) (Nat.mod_lt _ h0)
        rw [add_plain, Nat.mul_comm, Nat.div_add_mod] at hu
        exact ⟨u, hu⟩
      have hgl : g < W.heap.size := by
        rw [add_plain] at hu0
        exact block_lt_of_cell hu0
      let xs := (List.range (len * ks.length)).map fun j => (W.cell? ⟨g, off + j, none⟩).getD undef
      have hxl : xs.length = len * ks.length := by simp [xs]
      have hxs : ∀ j, j < len * ks.length → W.cell? ⟨g, off + j, none⟩ = xs[j]? := by
        intro j hj
        obtain ⟨u, hu⟩ := hex j hj
        simp [xs, hj, hu]
      refine ⟨len, xs, [g], ⟨hxl, _, _, rfl, hl, hm, .inr ⟨g, off, rfl, rfl, hgl, fun j hj => hxs j (by omega)⟩⟩, fun k hk f q hq => ?_⟩
      have hfl : f < ks.length := (List.getElem?_eq_some_iff.1 hq).1
      obtain ⟨u, hu, hq'⟩ := (hcell k hk).2 f hfl
      have hj : k * ks.length + f < len * ks.length := by
        have : (k + 1) * ks.length ≤ len * ks.length := Nat.mul_le_mul_right _ hk
        rw [Nat.add_mul] at this; omega
      rw [add_plain, hxs _ hj] at hu
      rw [List.getD, hu]
      exact hq' q hq

theorem wf64 {n : Int} (h : (Lit.int .i64 n).wf = true) : -9223372036854775808 ≤ n ∧ n ≤ 9223372036854775807 := by
  simpa [Lit.wf, IntKind.min, IntKind.max, IntKind.signed, IntKind.bits] using h
theorem wf8 {n : Int} (h : (Lit.int .u8 n).wf = true) : 0 ≤ n ∧ n ≤ 255 := by
  simpa [Lit.wf, IntKind.min, IntKind.max, IntKind.signed, IntKind.bits] using h
theorem wf16 {n : Int} (h : (Lit.int .u16 n).wf = true) : 0 ≤ n ∧ n ≤ 65535 := by
  simpa [Lit.wf, IntKind.min, IntKind.max, IntKind.signed, IntKind.bits] using h

def num : Value → Int
  | .int _ n => n
  | _ => 0
def tru : Value → Bool
  | .bool b => b
  | _ => false
end

theorem View.at {w wr : World} {g off n sz : Nat} {xs : List Value} {S : List Nat} (hl : xs.length = n * sz) (hc : ∀ j, j < xs.length → w.cell? ⟨g, off + j, none⟩ = xs[j]?) (hg : g < w.heap.size) (hk : Keeps S w wr) (hS : g ∉ S) {k f : Nat} (h1 : k < n) (h2 : f < sz) :
    wr.cell? ⟨g, off + k * sz + f, none⟩ = some (xs.getD (k * sz + f) undef) := by
  rw [Nat.add_assoc]
  have hj : k * sz + f < xs.length := by
    have : (k + 1) * sz ≤ n * sz := Nat.mul_le_mul_right _ h1
    rw [Nat.add_mul] at this; omega
  rw [World.cell?_of_block (w := w) (hk.block g hg hS), hc _ hj]
  simp [List.getD, hj]
theorem View.at0 {w wr : World} {g off n sz : Nat} {xs : List Value} {S : List Nat} (hl : xs.length = n * sz) (hc : ∀ j, j < xs.length → w.cell? ⟨g, off + j, none⟩ = xs[j]?) (hg : g < w.heap.size) (hk : Keeps S w wr) (hS : g ∉ S) {k : Nat} (h1 : k < n) (h2 : 0 < sz) :
    wr.cell? ⟨g, off + k * sz, none⟩ = some (xs.getD (k * sz) undef) := View.at hl hc hg hk hS h1 h2
theorem ck_int {k : IntKind} {v : Value} (h : ckOk (some k) v) : v = .int k (num v) ∧ (Lit.int k (num v)).wf = true := by
  obtain ⟨n, rfl, hw⟩ := h; exact ⟨rfl, hw⟩
theorem ck_bool {v : Value} (h : ckOk none v) : v = .bool (tru v) := by
  obtain ⟨b, rfl⟩ := h; rfl
theorem quiet_own {P : Program} {f : FuncId} {args : Array Value} {w : World} {n : Nat} {v : Value}
    (h : Calls P f args (w.drewN n) fun e w' => e = .returned v ∧ w.drewN n = w') : Calls P f args (w.drewN n) fun e w'' => e = .returned v ∧ ∃ m, w'' = w.drewN m :=
  h.mono fun _ _ ⟨he, hm⟩ => ⟨he, n, hm.symm⟩
end Go.Proofs.YtbjnbngpjdoejaaDoor
/- Ints -/
namespace Go.Proofs.YtbjnbngpjdoejaaDoor
open Go.RowKit
set_option linter.unusedVariables false
set_option linter.unusedSimpArgs false
set_option linter.unnecessarySimpa false

def IV (w : World) (v : Value) (l : List Int) (S : List Nat) : Prop := View w v 1 l.length (l.map (Value.int .i64)) S
def IR (w : World) (v : Value) (e : TypeId) (l : List Int) (S : List Nat) : Prop := Row w v e 1 l.length (l.map (Value.int .i64)) S

section
variable {w w' : World} {v : Value} {l : List Int} {S T : List Nat} {e : TypeId}
theorem IR.iv (h : IR w v e l S) : IV w v l S := Row.view h
theorem IV.keep (h : IV w v l S) (k : Keeps T w w') (hn : ∀ x ∈ S, x ∉ T) : IV w' v l S := View.keep h k hn
theorem IV.then (h : IV w v l S) (k : Keeps [] w w') : IV w' v l S := View.then h k
theorem IR.keep (h : IR w v e l S) (k : Keeps T w w') (hn : ∀ x ∈ S, x ∉ T) : IR w' v e l S := Row.keep h k hn
theorem IR.then (h : IR w v e l S) (k : Keeps [] w w') : IR w' v e l S := Row.then h k
theorem IV.drewN (h : IV w v l S) (n : Nat) : IV (w.drewN n) v l S := View.then h ((Keeps.refl [] w).drewN n)
theorem IV.alloc (h : IV w v l S) (o : Obj) : IV (w.alloc o) v l S := View.then h ((Keeps.refl [] w).alloc o)
theorem IR.alloc (h : IR w v e l S) (o : Obj) : IR (w.alloc o) v e l S := Row.alloc h o
theorem IV.shape (h : IV w v l S) : ∃ ao cap, v = .slice ao l.length cap := View.shape h
theorem IR.shape (h : IR w v e l S) : ∃ ao cap, v = .slice ao l.length cap := Row.shape h
theorem IV.le (h : IV w v l S) : l.length ≤ maxLen := View.le h
theorem IR.le (h : IR w v e l S) : l.length ≤ maxLen := Row.le h
theorem IV.lt (h : IV w v l S) : ∀ k ∈ S, k < w.heap.size := View.lt h
theorem IR.lt (h : IR w v e l S) : ∀ k ∈ S, k < w.heap.size := Row.lt h
theorem IV.nil (w : World) : IV w (.slice none 0 0) [] [] := View.nil w 1
theorem IR.nil (w : World) (e : TypeId) : IR w (.slice none 0 0) e [] [] := Row.nil w e 1
theorem IR.lit0 (w : World) (e : TypeId) : IR (w.alloc (.cells #[] e)) (.slice (some ⟨w.heap.size, 0, none⟩) 0 0) e [] [w.heap.size] := Row.lit w [] e 1 0 rfl (by simp [maxLen])
theorem IR.lit (w : World) (e : TypeId) (b : Nat) (hb : b = w.heap.size) : IR (w.alloc (.cells #[] e)) (.slice (some ⟨b, 0, none⟩) 0 0) e [] [b] := by subst hb; exact IR.lit0 w e
theorem IV.cells {ao : Option Addr} {m cap : Nat} (h : IV w (.slice ao m cap) l S) (hp : 0 < l.length) :
    ∃ g off, ao = some ⟨g, off, none⟩ ∧ S = [g] ∧ g < w.heap.size ∧ ∀ k, k < l.length → w.cell? ⟨g, off + k, none⟩ = some (.int .i64 (l.getD k 0)) := by
  obtain ⟨g, off, h1, h2, h3, h4⟩ := View.cell h hp
  refine ⟨g, off, h1, h2, h3, fun k hk => ?_⟩
  rw [h4 k (by simpa using hk)]; simp [List.getD, hk]
theorem IR.cells {ao : Option Addr} {m cap : Nat} (h : IR w (.slice ao m cap) e l S) (hp : 0 < l.length) :
    ∃ g off, ao = some ⟨g, off, none⟩ ∧ S = [g] ∧ g < w.heap.size ∧ (∀ k, k < l.length → w.cell? ⟨g, off + k, none⟩ = some (.int .i64 (l.getD k 0))) ∧ ∀ k, w.frozen? ⟨g, off + k, none⟩ = false := by
  obtain ⟨g, off, h1, h2, h3, h4, h5⟩ := Row.cells h hp
  refine ⟨g, off, h1, h2, h3, fun k hk => ?_, h5⟩
  rw [h4 k (by simpa using hk)]; simp [List.getD, hk]
theorem IR.stored {g off m cap : Nat} (h : IR w (.slice (some ⟨g, off, none⟩) m cap) e l S) (j : Nat) (hj : j < l.length) (u : Int) :
    IR (w.setCell ⟨g, off + j, none⟩ (.int .i64 u)) (.slice (some ⟨g, off, none⟩) m cap) e (l.set j u) S ∧ Keeps S w (w.setCell ⟨g, off + j, none⟩ (.int .i64 u)) := by
  have := Row.stored h j (by simpa using hj) (.int .i64 u)
  refine ⟨?_, this.2⟩
  unfold IR
  simpa using this.1
end

theorem IV.tail {w : World} {g off cap : Nat} {l : List Int} {S : List Nat} (h : IV w (.slice (some ⟨g, off, none⟩) l.length cap) l S) (h0 : 0 < l.length) :
    ∃ S', IV w (.slice (if cap = 1 then some ⟨g, off, none⟩ else some ⟨g, off + 1, none⟩) (l.length - 1) (cap - 1)) l.tail S' ∧ ∀ k ∈ S', k ∈ S := by
  obtain ⟨g', off', e, rfl, hg, hc⟩ := h.cells h0
  obtain ⟨rfl, rfl⟩ := by simpa using e
  obtain ⟨hl, ao, cap', e', hnc, hcm, _⟩ := h
  obtain ⟨rfl, rfl⟩ := by simpa using e'
  by_cases h1 : cap = 1
  · have hl1 : l.length = 1 := by omega
    have htl : l.tail = [] := List.eq_nil_of_length_eq_zero (by simp; omega)
    refine ⟨[], ⟨by rw [htl]; simp, some ⟨g, off, none⟩, cap - 1, by rw [htl, if_pos h1]; simp [hl1], by rw [htl]; simp, by omega, .inl ⟨by rw [htl]; rfl, rfl⟩⟩, by simp⟩
  · refine ⟨[g], ⟨by simp, some ⟨g, off + 1, none⟩, cap - 1, by rw [if_neg h1]; simp, by simp; omega, by omega, .inr ⟨g, off + 1, rfl, rfl, hg, fun j hj => ?_⟩⟩, fun k hk => hk⟩
    have hj' : j + 1 < l.length := by simp at hj; omega
    rw [show off + 1 + j = off + (j + 1) by omega, hc (j + 1) hj']
    simp [List.getD, hj']

section
variable {P : Program} {t e : TypeId} {bytes : Nat} {z : Value}
theorem wp_apps (E : Elem P t e 1 bytes z) {w : World} {ops : Array Oper} {rest : List Oper} {o : Oper} {a : Act} {Q : Exit → Act → World → Prop} {s x : Operand}
    {v u : Value} {l r : List Int} {S T : List Nat} (h : IR w v e l S) (hu : IV w u r T) (hb : (l.length + r.length) * bytes ≤ 140737488355328)
    (hK : ∀ ao cap w' S', IR w' (.slice ao (l.length + r.length) cap) e (l ++ r) S' → Keeps S w w' → (∀ k ∈ S', k ∈ S ∨ w.heap.size ≤ k) → wpList P ops Q rest (a.put o.dst (.slice ao (l.length + r.length) cap)) w')
    (hg : o.guard = none := by rfl) (hop : o.op = Op.call { callee := Callee.builtin Builtin.append, args := #[s, x], argTypes := #[t, t] } := by rfl) (hs : a.eval s = v := by rfl) (hx : a.eval x = u := by rfl) :
    wpList P ops Q (o :: rest) a w :=
  wp_app E h hu (oc_ints r) hb (fun ao cap w' S' r1 r2 r3 => hK ao cap w' S' (by unfold IR; simpa using r1) r2 r3) hg hop hs hx
theorem wp_appn (E : Elem P t e 1 bytes z) {w : World} {ops : Array Oper} {rest : List Oper} {o : Oper} {a : Act} {Q : Exit → Act → World → Prop} {s x : Operand}
    {v : Value} {l : List Int} {n : Int} {bx : Nat} {S : List Nat} (h : IR w v e l S) (hb : (l.length + 1) * bytes ≤ 140737488355328)
    (hK : ∀ ao cap w' S', IR w' (.slice ao (l.length + 1) cap) e (l ++ [n]) S' → Keeps S w w' → (∀ k ∈ S', k ∈ S ∨ w.heap.size ≤ k) → wpList P ops Q rest (a.put o.dst (.slice ao (l.length + 1) cap)) w')
    (hg : o.guard = none := by rfl) (hop : o.op = Op.call { callee := Callee.builtin Builtin.append, args := #[s, x], argTypes := #[t, t] } := by rfl) (hs : a.eval s = v := by rfl) (hx : a.eval x = .slice (some ⟨bx, 0, none⟩) 1 1 := by rfl) (hbx : bx = w.heap.size := by first | rfl | simp) :
    wpList P ops Q (o :: rest) a (w.alloc (.cells #[.int .i64 n] e)) :=
  wp_app1 E (m := 1) (ys := [.int .i64 n]) h rfl one_le_max oc_int hb (fun ao cap w' S' r1 r2 r3 => hK ao cap w' S' (by unfold IR; simpa using r1) r2 r3) hg hop hs hx hbx
theorem step_apps (E : Elem P t e 1 bytes z) {w : World} {ops : Array Oper} {o : Oper} {a : Act} {K : Act → World → Prop} {Q : Exit → Act → World → Prop} {F : Prop} {s x : Operand}
    {v u : Value} {l r : List Int} {S T : List Nat} (h : IR w v e l S) (hu : IV w u r T) (hb : (l.length + r.length) * bytes ≤ 140737488355328)
    (hK : ∀ ao cap w' S', IR w' (.slice ao (l.length + r.length) cap) e (l ++ r) S' → Keeps S w w' → (∀ k ∈ S', k ∈ S ∨ w.heap.size ≤ k) → K (a.put o.dst (.slice ao (l.length + r.length) cap)) w')
    (hg : o.guard = none := by rfl) (hop : o.op = Op.call { callee := Callee.builtin Builtin.append, args := #[s, x], argTypes := #[t, t] } := by rfl) (hs : a.eval s = v := by rfl) (hx : a.eval x = u := by rfl) :
    if Region.wanted o (yielded ops a.tmps) = true then Oper.wp P o a w K Q else F :=
  step_app E h hu (oc_ints r) hb (fun ao cap w' S' r1 r2 r3 => hK ao cap w' S' (by unfold IR; simpa using r1) r2 r3) hg hop hs hx
theorem step_appn (E : Elem P t e 1 bytes z) {w : World} {ops : Array Oper} {o : Oper} {a : Act} {K : Act → World → Prop} {Q : Exit → Act → World → Prop} {F : Prop} {s x : Operand}
    {v : Value} {l : List Int} {n : Int} {bx : Nat} {S : List Nat} (h : IR w v e l S) (hb : (l.length + 1) * bytes ≤ 140737488355328)
    (hK : ∀ ao cap w' S', IR w' (.slice ao (l.length + 1) cap) e (l ++ [n]) S' → Keeps S w w' → (∀ k ∈ S', k ∈ S ∨ w.heap.size ≤ k) → K (a.put o.dst (.slice ao (l.length + 1) cap)) w')
    (hg : o.guard = none := by rfl) (hop : o.op = Op.call { callee := Callee.builtin Builtin.append, args := #[s, x], argTypes := #[t, t] } := by rfl) (hs : a.eval s = v := by rfl) (hx : a.eval x = .slice (some ⟨bx, 0, none⟩) 1 1 := by rfl) (hbx : bx = w.heap.size := by first | rfl | simp) :
    if Region.wanted o (yielded ops a.tmps) = true then Oper.wp P o a (w.alloc (.cells #[.int .i64 n] e)) K Q else F :=
  step_app1 E (m := 1) (ys := [.int .i64 n]) h rfl one_le_max oc_int hb (fun ao cap w' S' r1 r2 r3 => hK ao cap w' S' (by unfold IR; simpa using r1) r2 r3) hg hop hs hx hbx
end

theorem same_iff (a b : List Int) (h : a.length = b.length) (hj : ∀ j, j < a.length → a.getD j 0 = b.getD j 0) : a = b := by
  apply List.ext_getElem h
  intro i h1 h2
  have := hj i h1
  simpa [List.getD, h1, h2] using this
end Go.Proofs.YtbjnbngpjdoejaaDoor
/- Elems -/
namespace Go.Proofs.YtbjnbngpjdoejaaDoor
open Go.RowKit
set_option linter.unusedVariables false
set_option linter.unusedSimpArgs false
set_option linter.unnecessarySimpa false

section
variable {α : Type} {f : α → List Value} {sz : Nat}
theorem flat_len (hf : ∀ x, (f x).length = sz) : ∀ l : List α, (l.flatMap f).length = l.length * sz
  | [] => by simp
  | y :: r => by rw [List.flatMap_cons, List.length_append, hf, flat_len hf r, List.length_cons, Nat.add_mul]; omega
theorem flat_get (hf : ∀ x, (f x).length = sz) {x : α} {j : Nat} (hj : j < sz) : ∀ (l : List α) (k : Nat), l[k]? = some x → (l.flatMap f)[k * sz + j]? = (f x)[j]?
  | [], k, h => by simp at h
  | y :: r, 0, h => by
    simp at h; subst h
    rw [List.flatMap_cons, List.getElem?_append_left (by rw [hf]; omega)]; simp
  | y :: r, k + 1, h => by
    have e : (k + 1) * sz = k * sz + sz := by rw [Nat.add_mul]; omega
    rw [List.flatMap_cons, List.getElem?_append_right (by rw [hf]; omega), hf, show (k + 1) * sz + j - sz = k * sz + j by omega]
    exact flat_get hf hj r k (by simpa using h)
theorem flat_set (hf : ∀ x, (f x).length = sz) {x x' : α} {j : Nat} {u : Value} (hj : j < sz) (hx : f x' = (f x).set j u) : ∀ (l : List α) (k : Nat), l[k]? = some x → (l.set k x').flatMap f = (l.flatMap f).set (k * sz + j) u
  | [], k, h => by simp at h
  | y :: r, 0, h => by
    simp at h; subst h
    rw [List.set_cons_zero, List.flatMap_cons, List.flatMap_cons, hx, List.set_append_left _ _ (by rw [hf]; omega)]; simp
  | y :: r, k + 1, h => by
    have e : (k + 1) * sz = k * sz + sz := by rw [Nat.add_mul]; omega
    rw [List.set_cons_succ, List.flatMap_cons, List.flatMap_cons, List.set_append_right _ _ (by rw [hf]; omega), hf, show (k + 1) * sz + j - sz = k * sz + j by omega]
    rw [flat_set hf hj hx r k (by simpa using h)]
end

section
variable {α : Type} {f : α → List Value} {sz : Nat}
theorem flat_made (hf : ∀ x, (f x).length = sz) {x0 : α} {z : Array Value} (hz : z.toList = f x0) (hs : 0 < sz) (n : Nat) : (madeCells z (n * sz)).toList = (List.replicate n x0).flatMap f := by
  apply List.ext_getElem?
  intro i
  have hzs : z.size = sz := by rw [← Array.length_toList, hz, hf]
  by_cases hi : i < n * sz
  · have hj : i % sz < sz := Nat.mod_lt _ hs
    have hk : i / sz < n := Nat.div_lt_of_lt_mul (by rwa [Nat.mul_comm])
    have h := flat_get hf hj (List.replicate n x0) (i / sz) (x := x0) (by simp [hk])
    rw [Nat.div_add_mod'] at h
    rw [h, ← hz]
    simp [madeCells, hi, hzs, hj]
  · rw [List.getElem?_eq_none (by rw [Array.length_toList, size_madeCells]; omega), List.getElem?_eq_none (by rw [flat_len hf]; simp; omega)]
end

theorem View.alloc2 {w : World} {v : Value} {sz n : Nat} {xs : List Value} {S : List Nat} (h : View w v sz n xs S) (o1 o2 : Obj) : View ((w.alloc o1).alloc o2) v sz n xs S := View.then h (((Keeps.refl [] w).alloc o1).alloc o2)

def EV {α : Type} (f : α → List Value) (sz : Nat) (w : World) (v : Value) (l : List α) (S : List Nat) : Prop := View w v sz l.length (l.flatMap f) S
def ER {α : Type} (f : α → List Value) (sz : Nat) (w : World) (v : Value) (e : TypeId) (l : List α) (S : List Nat) : Prop := Row w v e sz l.length (l.flatMap f) S

section
variable {α : Type} {f : α → List Value} {sz : Nat} {w w' : World} {v : Value} {l : List α} {S T : List Nat} {e : TypeId}
theorem ER.ev (h : ER f sz w v e l S) : EV f sz w v l S := Row.view h
theorem EV.keep (h : EV f sz w v l S) (k : Keeps T w w') (hn : ∀ x ∈ S, x ∉ T) : EV f sz w' v l S := View.keep h k hn
theorem EV.then (h : EV f sz w v l S) (k : Keeps [] w w') : EV f sz w' v l S := View.then h k
theorem ER.keep (h : ER f sz w v e l S) (k : Keeps T w w') (hn : ∀ x ∈ S, x ∉ T) : ER f sz w' v e l S := Row.keep h k hn
theorem ER.then (h : ER f sz w v e l S) (k : Keeps [] w w') : ER f sz w' v e l S := Row.then h k
theorem EV.shape (h : EV f sz w v l S) : ∃ ao cap, v = .slice ao l.length cap := View.shape h
theorem ER.shape (h : ER f sz w v e l S) : ∃ ao cap, v = .slice ao l.length cap := Row.shape h
theorem EV.le (h : EV f sz w v l S) : l.length ≤ maxLen := View.le h
theorem ER.le (h : ER f sz w v e l S) : l.length ≤ maxLen := Row.le h
theorem EV.lt (h : EV f sz w v l S) : ∀ k ∈ S, k < w.heap.size := View.lt h
theorem ER.lt (h : ER f sz w v e l S) : ∀ k ∈ S, k < w.heap.size := Row.lt h
theorem EV.nil (f : α → List Value) (sz : Nat) (w : World) : EV f sz w (.slice none 0 0) [] [] := View.nil w sz
theorem ER.nil (f : α → List Value) (sz : Nat) (w : World) (e : TypeId) : ER f sz w (.slice none 0 0) e [] [] := Row.nil w e sz
theorem ER.made (hf : ∀ x, (f x).length = sz) {x0 : α} {z : Array Value} {n : Nat} (hz : z.toList = f x0) (hs : 0 < sz) (h : Row w v e sz n (madeCells z (n * sz)).toList S) : ER f sz w v e (List.replicate n x0) S := by
  unfold ER; rw [flat_made hf hz hs] at h; rw [List.length_replicate]; exact h
theorem ER.lit (f : α → List Value) (sz : Nat) (w : World) (e : TypeId) (b : Nat) (hb : b = w.heap.size) : ER f sz (w.alloc (.cells #[] e)) (.slice (some ⟨b, 0, none⟩) 0 0) e [] [b] := by
  subst hb; exact Row.lit w [] e sz 0 (by simp) (by simp [maxLen])
theorem EV.cells {ao : Option Addr} {m cap : Nat} (hf : ∀ x, (f x).length = sz) (h : EV f sz w (.slice ao m cap) l S) (hp : 0 < l.length) :
    ∃ g off, ao = some ⟨g, off, none⟩ ∧ S = [g] ∧ g < w.heap.size ∧ ∀ k x j, l[k]? = some x → j < sz → w.cell? ⟨g, off + (k * sz + j), none⟩ = (f x)[j]? := by
  obtain ⟨g, off, h1, h2, h3, h4⟩ := View.cell h hp
  refine ⟨g, off, h1, h2, h3, fun k x j hk hj => ?_⟩
  have hkl := (List.getElem?_eq_some_iff.1 hk).1
  have h5 : (k + 1) * sz ≤ l.length * sz := Nat.mul_le_mul_right _ hkl
  rw [Nat.add_mul] at h5
  rw [h4 _ (by rw [flat_len hf]; omega), flat_get hf hj l k hk]
theorem ER.cells {ao : Option Addr} {m cap : Nat} (hf : ∀ x, (f x).length = sz) (h : ER f sz w (.slice ao m cap) e l S) (hp : 0 < l.length) :
    ∃ g off, ao = some ⟨g, off, none⟩ ∧ S = [g] ∧ g < w.heap.size ∧ (∀ k x j, l[k]? = some x → j < sz → w.cell? ⟨g, off + (k * sz + j), none⟩ = (f x)[j]?) ∧ ∀ k, w.frozen? ⟨g, off + k, none⟩ = false := by
  obtain ⟨g, off, h1, h2, h3, h4, h5⟩ := Row.cells h hp
  refine ⟨g, off, h1, h2, h3, fun k x j hk hj => ?_, h5⟩
  have hkl := (List.getElem?_eq_some_iff.1 hk).1
  have h6 : (k + 1) * sz ≤ l.length * sz := Nat.mul_le_mul_right _ hkl
  rw [Nat.add_mul] at h6
  rw [h4 _ (by rw [flat_len hf]; omega), flat_get hf hj l k hk]
theorem ER.stored {g off m cap : Nat} (hf : ∀ x, (f x).length = sz) (h : ER f sz w (.slice (some ⟨g, off, none⟩) m cap) e l S) {k j : Nat} {x x' : α} {u : Value} (hk : l[k]? = some x) (hj : j < sz) (hx : f x' = (f x).set j u) :
    ER f sz (w.setCell ⟨g, off + (k * sz + j), none⟩ u) (.slice (some ⟨g, off, none⟩) m cap) e (l.set k x') S ∧ Keeps S w (w.setCell ⟨g, off + (k * sz + j), none⟩ u) := by
  have hkl := (List.getElem?_eq_some_iff.1 hk).1
  have h6 : (k + 1) * sz ≤ l.length * sz := Nat.mul_le_mul_right _ hkl
  rw [Nat.add_mul] at h6
  have := Row.stored h (k * sz + j) (by rw [flat_len hf]; omega) u
  refine ⟨?_, this.2⟩
  unfold ER
  rw [flat_set hf hj hx l k hk, List.length_set]
  exact this.1
end
end Go.Proofs.YtbjnbngpjdoejaaDoor
/- Gen -/
namespace Go.Proofs.YtbjnbngpjdoejaaDoor
open Go.RowKit
set_option linter.unusedVariables false
set_option linter.unusedSimpArgs false
set_option linter.unnecessarySimpa false

structure Kept {α : Type} (E : World → List Value → α → List Nat → Prop) : Prop where
  keep : ∀ {w w' : World} {cs : List Value} {a : α} {U T : List Nat}, E w cs a U → Keeps T w w' → (∀ x ∈ U, x ∉ T) → E w' cs a U
  lt : ∀ {w : World} {cs : List Value} {a : α} {U : List Nat}, E w cs a U → ∀ x ∈ U, x < w.heap.size

def chunk (xs : List Value) (sz k : Nat) : List Value := (xs.drop (k * sz)).take sz
theorem chunk_get {xs : List Value} {sz k j : Nat} (hj : j < sz) : (chunk xs sz k)[j]? = xs[k * sz + j]? := by
  unfold chunk; rw [List.getElem?_take, if_pos hj, List.getElem?_drop]
theorem chunk_len {xs : List Value} {sz n k : Nat} (h : xs.length = n * sz) (hk : k < n) : (chunk xs sz k).length = sz := by
  have : (k + 1) * sz ≤ n * sz := Nat.mul_le_mul_right _ hk
  rw [Nat.add_mul] at this
  unfold chunk; rw [List.length_take, List.length_drop]; omega
theorem chunk_left {xs ys : List Value} {sz n k : Nat} (h : xs.length = n * sz) (hk : k < n) : chunk (xs ++ ys) sz k = chunk xs sz k := by
  apply List.ext_getElem?
  intro j
  have : (k + 1) * sz ≤ n * sz := Nat.mul_le_mul_right _ hk
  rw [Nat.add_mul] at this
  by_cases hj : j < sz
  · rw [chunk_get hj, chunk_get hj, List.getElem?_append_left (by omega)]
  · rw [List.getElem?_eq_none (by unfold chunk; rw [List.length_take]; omega), List.getElem?_eq_none (by unfold chunk; rw [List.length_take]; omega)]
theorem chunk_right {xs ys : List Value} {sz n k : Nat} (h : xs.length = n * sz) : chunk (xs ++ ys) sz (n + k) = chunk ys sz k := by
  apply List.ext_getElem?
  intro j
  by_cases hj : j < sz
  · rw [chunk_get hj, chunk_get hj, Nat.add_mul, List.getElem?_append_right (by omega), h]
    congr 1; omega
  · rw [List.getElem?_eq_none (by unfold chunk; rw [List.length_take]; omega), List.getElem?_eq_none (by unfold chunk; rw [List.length_take]; omega)]
theorem chunk_one {ys : List Value} {sz : Nat} (h : ys.length = sz) : chunk ys sz 0 = ys := by
  unfold chunk; rw [Nat.zero_mul, List.drop_zero, List.take_of_length_le (by omega)]

def Parts {α : Type} (E : World → List Value → α → List Nat → Prop) (sz : Nat) (w : World) (xs : List Value) (l : List α) (S : List Nat) : Prop :=
  ∀ (k : Nat) a, l[k]? = some a → ∃ U, E w (chunk xs sz k) a U ∧ ∀ x ∈ U, x ∈ S
def GV {α : Type} (E : World → List Value → α → List Nat → Prop) (sz : Nat) (w : World) (v : Value) (l : List α) (S : List Nat) : Prop :=
  ∃ xs T, View w v sz l.length xs T ∧ Parts E sz w xs l S ∧ (∀ x ∈ T, x ∈ S) ∧ (∀ x ∈ S, x < w.heap.size) ∧ ∀ y ∈ xs, y.oneCell' = true
def GR {α : Type} (E : World → List Value → α → List Nat → Prop) (sz : Nat) (w : World) (v : Value) (e : TypeId) (l : List α) (T S : List Nat) : Prop :=
  ∃ xs, Row w v e sz l.length xs T ∧ Parts E sz w xs l S ∧ (∀ x ∈ S, x < w.heap.size) ∧ (∀ x ∈ T, x ∉ S) ∧ ∀ y ∈ xs, y.oneCell' = true

section
variable {α : Type} {E : World → List Value → α → List Nat → Prop} {sz : Nat} {w w' : World} {v : Value} {l : List α} {S T S2 : List Nat} {e : TypeId}
theorem Parts.keep (KE : Kept E) {xs : List Value} (h : Parts E sz w xs l S) (k : Keeps T w w') (hn : ∀ x ∈ S, x ∉ T) : Parts E sz w' xs l S := fun i a hi => by
  obtain ⟨U, h1, h2⟩ := h i a hi
  exact ⟨U, KE.keep h1 k (fun x hx => hn x (h2 x hx)), h2⟩
theorem Parts.mono {xs : List Value} (h : Parts E sz w xs l S) (hS : ∀ x ∈ S, x ∈ S2) : Parts E sz w xs l S2 := fun i a hi => by
  obtain ⟨U, h1, h2⟩ := h i a hi
  exact ⟨U, h1, fun x hx => hS x (h2 x hx)⟩
theorem GV.keep (KE : Kept E) (h : GV E sz w v l S) (k : Keeps T w w') (hn : ∀ x ∈ S, x ∉ T) : GV E sz w' v l S := by
  obtain ⟨xs, U, h1, h2, h3, h4, h5⟩ := h
  exact ⟨xs, U, h1.keep k (fun x hx => hn x (h3 x hx)), h2.keep KE k hn, h3, fun x hx => Nat.lt_of_lt_of_le (h4 x hx) k.size, h5⟩
theorem GV.then (KE : Kept E) (h : GV E sz w v l S) (k : Keeps [] w w') : GV E sz w' v l S := h.keep KE k (by simp)
theorem GV.mono (h : GV E sz w v l S) (hS : ∀ x ∈ S, x ∈ S2) (hl : ∀ x ∈ S2, x < w.heap.size) : GV E sz w v l S2 := by
  obtain ⟨xs, U, h1, h2, h3, h4, h5⟩ := h
  exact ⟨xs, U, h1, h2.mono hS, fun x hx => hS x (h3 x hx), hl, h5⟩
theorem GV.lt (h : GV E sz w v l S) : ∀ x ∈ S, x < w.heap.size := by
  obtain ⟨xs, U, h1, h2, h3, h4, h5⟩ := h; exact h4
theorem GV.shape (h : GV E sz w v l S) : ∃ ao cap, v = .slice ao l.length cap := by
  obtain ⟨xs, U, h1, _⟩ := h; exact h1.shape
theorem GV.le (h : GV E sz w v l S) : l.length ≤ maxLen := by
  obtain ⟨xs, U, h1, _⟩ := h; exact h1.le
theorem GV.get {ao : Option Addr} {m cap : Nat} (h : GV E sz w (.slice ao m cap) l S) {k : Nat} {a : α} (hk : l[k]? = some a) :
    ∃ g off cs U, ao = some ⟨g, off, none⟩ ∧ g ∈ S ∧ g < w.heap.size ∧ cs.length = sz ∧ (∀ j, j < sz → w.cell? ⟨g, off + (k * sz + j), none⟩ = cs[j]?) ∧ E w cs a U ∧ ∀ x ∈ U, x ∈ S := by
  obtain ⟨xs, T, h1, h2, h3, h4, h5⟩ := h
  have hkl := (List.getElem?_eq_some_iff.1 hk).1
  obtain ⟨g, off, rfl, rfl, hg, hc⟩ := h1.cell (by omega)
  obtain ⟨U, he, hU⟩ := h2 k a hk
  have hlen := h1.len
  have h6 : (k + 1) * sz ≤ l.length * sz := Nat.mul_le_mul_right _ hkl
  rw [Nat.add_mul] at h6
  exact ⟨g, off, chunk xs sz k, U, rfl, h3 g (by simp), hg, chunk_len hlen hkl, fun j hj => by rw [hc _ (by omega), chunk_get hj], he, hU⟩
theorem GV.addr {ao : Option Addr} {m cap : Nat} (h : GV E sz w (.slice ao m cap) l S) (h0 : 0 < l.length) : ∃ g off, ao = some ⟨g, off, none⟩ ∧ g ∈ S ∧ g < w.heap.size := by
  obtain ⟨g, off, cs, U, h1, h2, h3, _⟩ := h.get (List.getElem?_eq_getElem h0)
  exact ⟨g, off, h1, h2, h3⟩
theorem GV.nil (E : World → List Value → α → List Nat → Prop) (sz : Nat) (w : World) : GV E sz w (.slice none 0 0) [] [] :=
  ⟨[], [], View.nil w sz, fun k a h => by simp at h, by simp, by simp, by simp⟩
theorem GR.nil (E : World → List Value → α → List Nat → Prop) (sz : Nat) (w : World) (e : TypeId) : GR E sz w (.slice none 0 0) e [] [] [] :=
  ⟨[], Row.nil w e sz, fun k a h => by simp at h, by simp, by simp, by simp⟩
theorem GR.lit (E : World → List Value → α → List Nat → Prop) (sz : Nat) (w : World) (e : TypeId) (b : Nat) (hb : b = w.heap.size) : GR E sz (w.alloc (.cells #[] e)) (.slice (some ⟨b, 0, none⟩) 0 0) e [] [b] [] := by
  subst hb
  exact ⟨[], Row.lit w [] e sz 0 (by simp) (by simp [maxLen]), fun k a h => by simp at h, by simp, by simp, by simp⟩
theorem GR.gv (h : GR E sz w v e l T S) : GV E sz w v l (T ++ S) := by
  obtain ⟨xs, h1, h2, h3, h4, h5⟩ := h
  exact ⟨xs, T, h1.view, h2.mono (fun x hx => by simp [hx]), fun x hx => by simp [hx], fun x hx => by
    rcases List.mem_append.1 hx with h | h
    · exact h1.lt x h
    · exact h3 x h, h5⟩
theorem GR.keep (KE : Kept E) (h : GR E sz w v e l T S) (k : Keeps S2 w w') (h1 : ∀ x ∈ T, x ∉ S2) (h2 : ∀ x ∈ S, x ∉ S2) : GR E sz w' v e l T S := by
  obtain ⟨xs, h3, h4, h5, h6, h7⟩ := h
  exact ⟨xs, h3.keep k h1, h4.keep KE k h2, fun x hx => Nat.lt_of_lt_of_le (h5 x hx) k.size, h6, h7⟩
theorem GR.then (KE : Kept E) (h : GR E sz w v e l T S) (k : Keeps [] w w') : GR E sz w' v e l T S := h.keep KE k (by simp) (by simp)
theorem GR.shape (h : GR E sz w v e l T S) : ∃ ao cap, v = .slice ao l.length cap := by
  obtain ⟨xs, h1, _⟩ := h; exact h1.shape
theorem GR.lt (h : GR E sz w v e l T S) : (∀ x ∈ T, x < w.heap.size) ∧ ∀ x ∈ S, x < w.heap.size := by
  obtain ⟨xs, h1, _, h3, _⟩ := h; exact ⟨h1.lt, h3⟩
theorem GR.le (h : GR E sz w v e l T S) : l.length ≤ maxLen := by
  obtain ⟨xs, h1, _⟩ := h; exact h1.le
theorem GR.addr {ao : Option Addr} {m cap : Nat} (h : GR E sz w (.slice ao m cap) e l T S) (h0 : 0 < l.length) : ∃ g off, ao = some ⟨g, off, none⟩ ∧ T = [g] ∧ g < w.heap.size := by
  obtain ⟨xs, h1, _⟩ := h
  obtain ⟨g, off, h2, h3, h4, _⟩ := h1.cells h0
  exact ⟨g, off, h2, h3, h4⟩
theorem GR.stored {g off m cap : Nat} (KE : Kept E) (h : GR E 1 w (.slice (some ⟨g, off, none⟩) m cap) e l T S) (k : Nat) (hk : k < l.length) {x : Value} {a : α} {U : List Nat} (he : E w [x] a U) (hU : ∀ y ∈ U, y ∉ T) (h1 : x.oneCell' = true) :
    GR E 1 (w.setCell ⟨g, off + k, none⟩ x) (.slice (some ⟨g, off, none⟩) m cap) e (l.set k a) T (S ++ U) ∧ Keeps T w (w.setCell ⟨g, off + k, none⟩ x) ∧ w.frozen? ⟨g, off + k, none⟩ = false ∧ ∃ y, w.cell? ⟨g, off + k, none⟩ = some y := by
  obtain ⟨xs, h2, h3, h4, h5, h6⟩ := h
  have hlen := h2.len
  obtain ⟨r1, r2⟩ := h2.stored k (by omega) x
  obtain ⟨g', off', e1, rfl, hg, hc, hf⟩ := h2.cells (by omega)
  obtain ⟨rfl, rfl⟩ := by simpa using e1
  have hcell := hc k (by omega)
  rw [List.getElem?_eq_getElem (show k < xs.length by omega)] at hcell
  refine ⟨⟨xs.set k x, by rw [List.length_set]; exact r1, ?_, ?_, ?_, ?_⟩, r2, hf k, _, hcell⟩
  · intro i b hi
    by_cases e : k = i
    · subst e
      rw [List.getElem?_set_self hk] at hi
      cases hi
      refine ⟨U, KE.keep ?_ r2 hU, fun y hy => by simp [hy]⟩
      have : chunk (xs.set k x) 1 k = [x] := by
        unfold chunk
        rw [Nat.mul_one, List.drop_eq_getElem_cons (by simp; omega)]
        simp
      rw [this]; exact he
    · rw [List.getElem?_set_ne e] at hi
      obtain ⟨V, v1, v2⟩ := h3 i b hi
      refine ⟨V, KE.keep ?_ r2 (fun y hy hT => h5 y hT (v2 y hy)), fun y hy => by simp [v2 y hy]⟩
      have : chunk (xs.set k x) 1 i = chunk xs 1 i := by
        apply List.ext_getElem?
        intro j
        by_cases hj : j < 1
        · rw [chunk_get hj, chunk_get hj, List.getElem?_set_ne (by omega)]
        · rw [List.getElem?_eq_none (by unfold chunk; rw [List.length_take]; omega), List.getElem?_eq_none (by unfold chunk; rw [List.length_take]; omega)]
      rw [this]; exact v1
  · intro y hy
    have hsz := r2.size
    rcases List.mem_append.1 hy with h | h
    · have := h4 y h; omega
    · have := KE.lt he y h; omega
  · intro y hy h
    rcases List.mem_append.1 h with h | h
    · exact h5 y hy h
    · exact hU y h hy
  · intro y hy
    rcases List.mem_or_eq_of_mem_set hy with h | rfl
    · exact h6 y h
    · exact h1
end

section
variable {α : Type} {F : World → List Value → α → List Nat → Prop} {P : Program} {t e : TypeId} {sz bytes : Nat} {z : Value}
theorem parts_app (KE : Kept F) {w w' : World} {xs ys : List Value} {l r : List α} {S S2 T : List Nat} (hl : xs.length = l.length * sz) (h : Parts F sz w xs l S) (h2 : Parts F sz w ys r S2) (k : Keeps T w w') (hS : ∀ x ∈ S, x ∉ T) (hS2 : ∀ x ∈ S2, x ∉ T) :
    Parts F sz w' (xs ++ ys) (l ++ r) (S ++ S2) := by
  intro i a hi
  by_cases hlt : i < l.length
  · rw [List.getElem?_append_left hlt] at hi
    obtain ⟨U, h1, h3⟩ := h i a hi
    rw [chunk_left hl hlt]
    exact ⟨U, KE.keep h1 k (fun x hx => hS x (h3 x hx)), fun x hx => by simp [h3 x hx]⟩
  · rw [List.getElem?_append_right (by omega)] at hi
    obtain ⟨U, h1, h3⟩ := h2 (i - l.length) a hi
    have e : i = l.length + (i - l.length) := by omega
    rw [e, chunk_right hl]
    exact ⟨U, KE.keep h1 k (fun x hx => hS2 x (h3 x hx)), fun x hx => by simp [h3 x hx]⟩

theorem wp_gapps (EL : Elem P t e sz bytes z) (KE : Kept F) {w : World} {ops : Array Oper} {rest : List Oper} {o : Oper} {a : Act} {Q : Exit → Act → World → Prop} {s x : Operand}
    {v u : Value} {l r : List α} {T S S2 : List Nat} (h : GR F sz w v e l T S) (hu : GV F sz w u r S2) (hd : ∀ y ∈ S2, y ∉ T) (hb : (l.length + r.length) * bytes ≤ 140737488355328)
    (hK : ∀ ao cap w' T', GR F sz w' (.slice ao (l.length + r.length) cap) e (l ++ r) T' (S ++ S2) → Keeps T w w' → (∀ k ∈ T', k ∈ T ∨ w.heap.size ≤ k) → wpList P ops Q rest (a.put o.dst (.slice ao (l.length + r.length) cap)) w')
    (hg : o.guard = none := by rfl) (hop : o.op = Op.call { callee := Callee.builtin Builtin.append, args := #[s, x], argTypes := #[t, t] } := by rfl) (hs : a.eval s = v := by rfl) (hx : a.eval x = u := by rfl) :
    wpList P ops Q (o :: rest) a w := by
  obtain ⟨xs, h1, h2, h3, h4, h5⟩ := h
  obtain ⟨ys, V, u1, u2, u3, u4, u5⟩ := hu
  refine wp_app EL h1 u1 u5 hb (fun ao cap w' T' r1 r2 r3 => hK ao cap w' T' ⟨xs ++ ys, by rw [List.length_append]; exact r1, parts_app KE h1.len h2 u2 r2 (fun y hy hT => h4 y hT hy) hd, ?_, ?_, ?_⟩ r2 r3) hg hop hs hx
  · intro y hy
    have := r2.size
    rcases List.mem_append.1 hy with h | h
    · have := h3 y h; omega
    · have := u4 y h; omega
  · intro y hy h
    rcases r3 y hy with hT | hn
    · rcases List.mem_append.1 h with h | h
      · exact h4 y hT h
      · exact hd y h hT
    · rcases List.mem_append.1 h with h | h
      · have := h3 y h; omega
      · have := u4 y h; omega
  · intro y hy
    rcases List.mem_append.1 hy with h | h
    · exact h5 y h
    · exact u5 y h

theorem wp_gapp1 (EL : Elem P t e sz bytes z) (KE : Kept F) {w : World} {ops : Array Oper} {rest : List Oper} {o : Oper} {a : Act} {Q : Exit → Act → World → Prop} {s x : Operand}
    {v : Value} {l : List α} {b : α} {ys : List Value} {bx : Nat} {T S U : List Nat} (h : GR F sz w v e l T S) (he : F w ys b U) (hy : ys.length = sz) (hd : ∀ y ∈ U, y ∉ T) (h1 : ∀ y ∈ ys, y.oneCell' = true) (hb : (l.length + 1) * bytes ≤ 140737488355328)
    (hK : ∀ ao cap w' T', GR F sz w' (.slice ao (l.length + 1) cap) e (l ++ [b]) T' (S ++ U) → Keeps T w w' → (∀ k ∈ T', k ∈ T ∨ w.heap.size ≤ k) → wpList P ops Q rest (a.put o.dst (.slice ao (l.length + 1) cap)) w')
    (hg : o.guard = none := by rfl) (hop : o.op = Op.call { callee := Callee.builtin Builtin.append, args := #[s, x], argTypes := #[t, t] } := by rfl) (hs : a.eval s = v := by rfl) (hx : a.eval x = .slice (some ⟨bx, 0, none⟩) 1 1 := by rfl) (hbx : bx = w.heap.size := by first | rfl | simp) :
    wpList P ops Q (o :: rest) a (w.alloc (.cells ys.toArray e)) := by
  obtain ⟨xs, g1, g2, g3, g4, g5⟩ := h
  have hp : Parts F sz w ys [b] U := fun i c hi => by
    match i, hi with
    | 0, hi => simp at hi; subst hi; exact ⟨U, by rw [chunk_one hy]; exact he, fun x hx => hx⟩
    | i + 1, hi => simp at hi
  refine wp_app1 EL (m := 1) g1 (by rw [hy, Nat.one_mul]) one_le_max h1 hb (fun ao cap w' T' r1 r2 r3 => hK ao cap w' T' ⟨xs ++ ys, by rw [List.length_append]; exact r1, parts_app KE g1.len g2 hp r2 (fun y hy hT => g4 y hT hy) hd, ?_, ?_, ?_⟩ r2 r3) hg hop hs hx hbx
  · intro y hy
    have := r2.size
    rcases List.mem_append.1 hy with h | h
    · have := g3 y h; omega
    · have := KE.lt he y h; omega
  · intro y hy h
    rcases r3 y hy with hT | hn
    · rcases List.mem_append.1 h with h | h
      · exact g4 y hT h
      · exact hd y h hT
    · rcases List.mem_append.1 h with h | h
      · have := g3 y h; omega
      · have := KE.lt he y h; omega
  · intro y hy
    rcases List.mem_append.1 hy with h | h
    · exact g5 y h
    · exact h1 y h
end

def intsE (w : World) (cs : List Value) (l : List Int) (U : List Nat) : Prop := ∃ v, cs = [v] ∧ IV w v l U
theorem intsE_kept : Kept intsE :=
  ⟨fun h k hn => by obtain ⟨v, h1, h2⟩ := h; exact ⟨v, h1, h2.keep k hn⟩, fun h => by obtain ⟨v, h1, h2⟩ := h; exact h2.lt⟩
end Go.Proofs.YtbjnbngpjdoejaaDoor
/- Arg -/
namespace Go.Proofs.YtbjnbngpjdoejaaDoor
open Go.RowKit Go.ChangeShapes Go.WideShapes Go.Deep
set_option linter.unusedVariables false
set_option linter.unusedSimpArgs false
set_option linter.unnecessarySimpa false

section
variable {H : Type} {enc : TypeId × Value → H} {P : Program}
theorem open_aggf {t : TypeId} {fs : Array Field} {ks : List (Option IntKind)} {W : World} {r : Reach} {b0 : Nat} {v : Value} {d : DataW H} {p : List MemPlace} (ht : P.underlying t = some (.struct fs)) (hf : flatOf P t = some ks)
    (hv : Value.okWide P W r b0 t v) (h : DataW.Trod enc P W 0 (fun _ => true) true t v d p) :
    ∃ xs : List Value, v = .agg xs.toArray ∧ xs.length = ks.length ∧ ∀ (f : Nat) (q : Option IntKind), ks[f]? = some q → ckOk q (xs.getD f undef) := by
  obtain ⟨cs, rfl, hsz⟩ := okWide_struct ht hv
  obtain ⟨fuel, hfu⟩ := h
  have hfu' : DataW.trod enc P W 0 (fun _ => true) true fuel t cs.toList = some (d, p) := by simpa [Value.cells] using hfu
  obtain ⟨_, e2, e3⟩ := flat_elem hf hfu'
  exact ⟨cs.toList, by simp, e2, e3⟩
end
theorem list1 {α : Type} : ∀ {l : List α}, l.length = 1 → ∃ x0, l = [x0]
  | [x0], _ => ⟨_, rfl⟩
theorem list2 {α : Type} : ∀ {l : List α}, l.length = 2 → ∃ x0 x1, l = [x0, x1]
  | [x0, x1], _ => ⟨_, _, rfl⟩
theorem list3 {α : Type} : ∀ {l : List α}, l.length = 3 → ∃ x0 x1 x2, l = [x0, x1, x2]
  | [x0, x1, x2], _ => ⟨_, _, _, rfl⟩
theorem list4 {α : Type} : ∀ {l : List α}, l.length = 4 → ∃ x0 x1 x2 x3, l = [x0, x1, x2, x3]
  | [x0, x1, x2, x3], _ => ⟨_, _, _, _, rfl⟩
theorem list5 {α : Type} : ∀ {l : List α}, l.length = 5 → ∃ x0 x1 x2 x3 x4, l = [x0, x1, x2, x3, x4]
  | [x0, x1, x2, x3, x4], _ => ⟨_, _, _, _, _, rfl⟩
theorem list6 {α : Type} : ∀ {l : List α}, l.length = 6 → ∃ x0 x1 x2 x3 x4 x5, l = [x0, x1, x2, x3, x4, x5]
  | [x0, x1, x2, x3, x4, x5], _ => ⟨_, _, _, _, _, _, rfl⟩
theorem list7 {α : Type} : ∀ {l : List α}, l.length = 7 → ∃ x0 x1 x2 x3 x4 x5 x6, l = [x0, x1, x2, x3, x4, x5, x6]
  | [x0, x1, x2, x3, x4, x5, x6], _ => ⟨_, _, _, _, _, _, _, rfl⟩
end Go.Proofs.YtbjnbngpjdoejaaDoor
/- Rep -/
namespace Go.Proofs.YtbjnbngpjdoejaaDoor
open Go.RowKit Go.ChangeShapes Go.WideShapes Go.Deep
set_option linter.unusedVariables false
set_option linter.unusedSimpArgs false
set_option linter.unnecessarySimpa false

def numE (k : IntKind) (w : World) (cs : List Value) (n : Int) (U : List Nat) : Prop := cs = [.int k n] ∧ (Lit.int k n).wf = true ∧ U = []
def bitE (w : World) (cs : List Value) (b : Bool) (U : List Nat) : Prop := cs = [.bool b] ∧ U = []
def strE (w : World) (cs : List Value) (s : ByteArray) (U : List Nat) : Prop := cs = [.string s] ∧ s.size ≤ maxLen ∧ U = []
def rowE {α : Type} (E : World → List Value → α → List Nat → Prop) (sz : Nat) (w : World) (cs : List Value) (l : List α) (U : List Nat) : Prop := ∃ v, cs = [v] ∧ GV E sz w v l U

theorem numE_kept (k : IntKind) : Kept (numE k) := ⟨fun h _ _ => h, fun h x hx => by obtain ⟨_, _, rfl⟩ := h; simp at hx⟩
theorem bitE_kept : Kept bitE := ⟨fun h _ _ => h, fun h x hx => by obtain ⟨_, rfl⟩ := h; simp at hx⟩
theorem strE_kept : Kept strE := ⟨fun h _ _ => h, fun h x hx => by obtain ⟨_, _, rfl⟩ := h; simp at hx⟩
theorem rowE_kept {α : Type} {E : World → List Value → α → List Nat → Prop} {sz : Nat} (K : Kept E) : Kept (rowE E sz) :=
  ⟨fun h k hn => by obtain ⟨v, h1, h2⟩ := h; exact ⟨v, h1, h2.keep K k hn⟩, fun h => by obtain ⟨v, h1, h2⟩ := h; exact h2.lt⟩

structure Opens (P : Program) (t : TypeId) {α : Type} (E : World → List Value → α → List Nat → Prop) (sz : Nat) : Prop where
  pos : 0 < sz
  kept : Kept E
  cells : P.cellsOf t = sz
  op : ∀ {H : Type} {enc : TypeId × Value → H} {W : World} {fuel : Nat} {cs : List Value} {x : DataW H × List MemPlace}, DataW.trod enc P W 0 (fun _ => true) true fuel t cs = some x → cs.length = sz ∧ (∀ y ∈ cs, y.oneCell' = true) ∧ ∃ a U, E W cs a U

section
variable {P : Program} {t e : TypeId}
theorem opens_num {k : IntKind} (ht : P.underlying t = some (.int k)) (hc : P.cellsOf t = 1) : Opens P t (numE k) 1 :=
  ⟨Nat.one_pos, numE_kept k, hc, fun h => by
    obtain ⟨n, rfl, _, hw⟩ := DataW.trod_int ht h
    exact ⟨rfl, by simp [Value.oneCell'], n, [], rfl, hw, rfl⟩⟩
theorem opens_bit (ht : P.underlying t = some .bool) (hc : P.cellsOf t = 1) : Opens P t bitE 1 :=
  ⟨Nat.one_pos, bitE_kept, hc, fun h => by
    obtain ⟨b, rfl, _⟩ := DataW.trod_bool ht h
    exact ⟨rfl, by simp [Value.oneCell'], b, [], rfl, rfl⟩⟩
theorem opens_str (ht : P.underlying t = some .string) (hc : P.cellsOf t = 1) : Opens P t strE 1 :=
  ⟨Nat.one_pos, strE_kept, hc, fun h => by
    obtain ⟨s, rfl, _, hs⟩ := DataW.trod_string ht h
    exact ⟨rfl, by simp [Value.oneCell'], s, [], rfl, hs, rfl⟩⟩

theorem opens_row {α : Type} {E : World → List Value → α → List Nat → Prop} {sz : Nat} (ht : P.underlying t = some (.slice e)) (hc : P.cellsOf t = 1) (he : Opens P e E sz) : Opens P t (rowE E sz) 1 := by
  refine ⟨Nat.one_pos, rowE_kept he.kept, hc, ?_⟩
  intro H enc W fuel cs x h
  rcases open_slice ht h with ⟨rfl, _⟩ | ⟨a, len, cap, m, n, D, Pl, rfl, hb, hl, hm, hmm, _, hx⟩
  · exact ⟨rfl, by simp [Value.oneCell'], [], [], _, rfl, GV.nil _ _ _⟩
  refine ⟨rfl, by simp [Value.oneCell'], ?_⟩
  by_cases hz : len = 0
  · subst hz
    exact ⟨[], [], _, rfl, [], [], ⟨by simp, _, _, rfl, hl, hm, .inl ⟨rfl, rfl⟩⟩, fun k a h => by simp at h, by simp, by simp, by simp⟩
  have hmc : len ≤ m := by rw [hmm]; simp; omega
  have hcell : ∀ k, k < len → ∃ cs', cs'.length = sz ∧ (∀ y ∈ cs', y.oneCell' = true) ∧ (∀ f, f < sz → W.cell? (a.add (k * sz + f)) = cs'[f]?) ∧ ∃ b U, E W cs' b U := by
    intro k hk
    obtain ⟨cs', h1, h2⟩ := hx k (by omega)
    rw [he.cells] at h1
    obtain ⟨e1, e2, e3⟩ := he.op h2
    refine ⟨cs', e1, e2, fun f hf => ?_, e3⟩
    obtain ⟨_, _, hcc⟩ := World.cells?_some h1
    have := hcc f (by omega)
    rwa [Go.Deep.add_add] at this
  obtain ⟨g, off, spot⟩ := a
  have hpos := he.pos
  obtain ⟨cs0, l0, _, c0, b0, U0, _⟩ := hcell 0 (by omega)
  have hu0 := c0 0 hpos
  rw [List.getElem?_eq_getElem (by omega)] at hu0
  have hspot : spot = none := by simpa [Addr.add] using World.cell?_spot hu0
  subst hspot
  have hgl : g < W.heap.size := by rw [add_plain] at hu0; exact block_lt_of_cell hu0
  haveI : Inhabited (List Value × α × List Nat) := ⟨([], b0, [])⟩
  obtain ⟨F, hF⟩ := choose_lt (α := List Value × α × List Nat) (p := fun k y => y.1.length = sz ∧ (∀ z ∈ y.1, z.oneCell' = true) ∧ (∀ f, f < sz → W.cell? ⟨g, off + (k * sz + f), none⟩ = y.1[f]?) ∧ E W y.1 y.2.1 y.2.2) (fun k hk => by
    obtain ⟨cs', h1, h2, h3, b, U, h4⟩ := hcell k hk
    exact ⟨(cs', b, U), h1, h2, fun f hf => by have := h3 f hf; rwa [add_plain] at this, h4⟩)
  have hflat : ∀ (j : Nat) (l : List Nat), (∀ k ∈ l, k < len) → (l.flatMap fun k => (F k).1).length = l.length * sz := by
    intro j l hl
    induction l with
    | nil => simp
    | cons k l ih =>
      rw [List.flatMap_cons, List.length_append, (hF k (hl k (by simp))).1, ih (fun q hq => hl q (by simp [hq])), List.length_cons, Nat.add_mul]; omega
  have hget : ∀ (f : Nat), f < sz → ∀ (l : List Nat), (∀ k ∈ l, k < len) → ∀ (i k : Nat), l[i]? = some k → (l.flatMap fun k => (F k).1)[i * sz + f]? = (F k).1[f]? := by
    intro f hf l
    induction l with
    | nil => intro _ i k h; simp at h
    | cons q l ih =>
      intro hl i k h
      have hq := (hF q (hl q (by simp))).1
      match i with
      | 0 =>
        simp at h; subst h
        rw [List.flatMap_cons, List.getElem?_append_left (by omega)]; simp
      | i + 1 =>
        have e : (i + 1) * sz = i * sz + sz := by rw [Nat.add_mul]; omega
        rw [List.flatMap_cons, List.getElem?_append_right (by omega), hq, show (i + 1) * sz + f - sz = i * sz + f by omega]
        exact ih (fun k hk => hl k (by simp [hk])) i k (by simpa using h)
  have hrl : ∀ k ∈ List.range len, k < len := fun k hk => List.mem_range.1 hk
  have hxl : ((List.range len).flatMap fun k => (F k).1).length = len * sz := by rw [hflat 0 _ hrl]; simp
  have hdiv : ∀ j, j < len * sz → j / sz < len ∧ j % sz < sz ∧ j / sz * sz + j % sz = j := fun j hj =>
    ⟨Nat.div_lt_of_lt_mul (by rw [Nat.mul_comm]; exact hj), Nat.mod_lt _ hpos, Nat.div_add_mod' _ _⟩
  refine ⟨(List.range len).map fun k => (F k).2.1, g :: (List.range len).flatMap fun k => (F k).2.2, _, rfl, (List.range len).flatMap fun k => (F k).1, [g], ?_, ?_, by simp, ?_, ?_⟩
  · refine ⟨by rw [hxl]; simp, _, _, by simp, by simpa using hl, hm, .inr ⟨g, off, rfl, rfl, hgl, fun j hj => ?_⟩⟩
    rw [hxl] at hj
    obtain ⟨d1, d2, d3⟩ := hdiv j hj
    have h1 := (hF _ d1).2.2.1 _ d2
    rw [d3] at h1
    have h2 := hget _ d2 _ hrl (j / sz) (j / sz) (by simp [d1])
    rw [d3] at h2
    rw [h1, h2]
  · intro k b hk
    obtain ⟨hk1, rfl⟩ := List.getElem?_eq_some_iff.1 hk
    have hk2 : k < len := by simpa using hk1
    refine ⟨(F k).2.2, ?_, fun y hy => List.mem_cons_of_mem _ (List.mem_flatMap.2 ⟨k, List.mem_range.2 hk2, hy⟩)⟩
    have hch : chunk ((List.range len).flatMap fun k => (F k).1) sz k = (F k).1 := by
      apply List.ext_getElem?
      intro f
      by_cases hf : f < sz
      · rw [chunk_get hf]; exact hget f hf _ hrl k k (by simp [hk2])
      · rw [List.getElem?_eq_none (by unfold chunk; rw [List.length_take]; omega), List.getElem?_eq_none (by rw [(hF k hk2).1]; omega)]
    rw [hch]
    simpa using (hF k hk2).2.2.2
  · intro y hy
    rcases List.mem_cons.1 hy with rfl | hy
    · exact hgl
    · obtain ⟨k, hk, hy⟩ := List.mem_flatMap.1 hy
      exact he.kept.lt (hF k (List.mem_range.1 hk)).2.2.2 y hy
  · intro y hy
    obtain ⟨k, hk, hy⟩ := List.mem_flatMap.1 hy
    exact (hF k (List.mem_range.1 hk)).2.1 y hy

theorem Opens.field {α : Type} {E : World → List Value → α → List Nat → Prop} {sz : Nat} {H : Type} {enc : TypeId × Value → H} {W : World} {n : Nat} {cs : List Value} {y : Option (DataW H × List MemPlace)} {f : Field} {off : Nat}
    (he : Opens P e E sz) (hf : f.type = e) (ho : f.offset = off) (hy : y.isSome = true) (h : DataW.trod enc P W 0 (fun _ => true) true n f.type ((cs.drop f.offset).take (P.cellsOf f.type)) = y) :
    (∀ z ∈ (cs.drop off).take sz, z.oneCell' = true) ∧ ((cs.drop off).take sz).length = sz ∧ ∃ a U, E W ((cs.drop off).take sz) a U := by
  obtain ⟨y', rfl⟩ := Option.isSome_iff_exists.1 hy
  subst hf ho
  rw [he.cells] at h
  obtain ⟨h1, h2, h3⟩ := he.op h
  exact ⟨h2, h1, h3⟩

theorem Opens.arg1 {α : Type} {E : World → List Value → α → List Nat → Prop} {H : Type} {enc : TypeId × Value → H} {W : World} {v : Value} {d : DataW H} {p : List MemPlace}
    (he : Opens P t E 1) (hv : v.cells = #[v]) (h : DataW.Trod enc P W 0 (fun _ => true) true t v d p) : ∃ a U, E W [v] a U := by
  obtain ⟨fuel, hfu⟩ := h
  have := (he.op (show DataW.trod enc P W 0 (fun _ => true) true fuel t [v] = some (d, p) by simpa [hv] using hfu)).2.2
  exact this
theorem Opens.row {α : Type} {E : World → List Value → α → List Nat → Prop} {sz : Nat} {H : Type} {enc : TypeId × Value → H} {W : World} {r : Reach} {b0 : Nat} {v : Value} {d : DataW H} {p : List MemPlace}
    (he : Opens P t (rowE E sz) 1) (ht : P.underlying t = some (.slice e)) (hv : Value.okWide P W r b0 t v) (h : DataW.Trod enc P W 0 (fun _ => true) true t v d p) : ∃ l S, GV E sz W v l S := by
  obtain ⟨ao, len, cap, rfl⟩ := okWide_slice ht hv
  obtain ⟨l, S, v', h1, h2⟩ := he.arg1 rfl h
  obtain rfl : _ = v' := by simpa using h1
  exact ⟨l, S, h2⟩
theorem Opens.agg {α : Type} {E : World → List Value → α → List Nat → Prop} {sz : Nat} {fs : Array Field} {H : Type} {enc : TypeId × Value → H} {W : World} {r : Reach} {b0 : Nat} {v : Value} {d : DataW H} {p : List MemPlace}
    (he : Opens P t E sz) (ht : P.underlying t = some (.struct fs)) (hv : Value.okWide P W r b0 t v) (h : DataW.Trod enc P W 0 (fun _ => true) true t v d p) :
    ∃ cs a U, v = .agg cs ∧ cs.size = sz ∧ E W cs.toList a U ∧ ∀ y ∈ cs.toList, y.oneCell' = true := by
  obtain ⟨cs, rfl, hsz⟩ := okWide_struct ht hv
  obtain ⟨fuel, hfu⟩ := h
  obtain ⟨h1, h2, a, U, h3⟩ := he.op (show DataW.trod enc P W 0 (fun _ => true) true fuel t cs.toList = some (d, p) by simpa [Value.cells] using hfu)
  exact ⟨cs, a, U, rfl, by simpa using h1, h3, h2⟩
end

theorem GV.iv {w : World} {v : Value} {l : List Int} {S : List Nat} (h : GV (numE .i64) 1 w v l S) : (∃ T, IV w v l T ∧ ∀ x ∈ T, x ∈ S) ∧ ∀ x ∈ l, (Lit.int .i64 x).wf = true := by
  obtain ⟨xs, T, h1, h2, h3, _⟩ := h
  have hlen := h1.len
  have hx : ∀ (k : Nat) a, l[k]? = some a → xs[k]? = some (.int .i64 a) ∧ (Lit.int .i64 a).wf = true := fun k a hk => by
    obtain ⟨U, ⟨h5, h6, _⟩, _⟩ := h2 k a hk
    have := chunk_get (xs := xs) (sz := 1) (k := k) (j := 0) (by omega)
    rw [h5] at this
    exact ⟨by simpa using this.symm, h6⟩
  have e : xs = l.map (Value.int .i64) := by
    apply List.ext_getElem?
    intro k
    by_cases hk : k < l.length
    · rw [(hx k _ (List.getElem?_eq_getElem hk)).1]; simp [hk]
    · rw [List.getElem?_eq_none (by omega), List.getElem?_eq_none (by simp; omega)]
  subst e
  refine ⟨⟨T, h1, h3⟩, fun x hx' => ?_⟩
  obtain ⟨k, hk, rfl⟩ := List.getElem_of_mem hx'
  exact (hx k _ (List.getElem?_eq_getElem hk)).2
theorem GV.ints {w : World} {v : Value} {l : List (List Int)} {S : List Nat} (h : GV (rowE (numE .i64) 1) 1 w v l S) : GV intsE 1 w v l S ∧ ∀ r ∈ l, ∀ x ∈ r, (Lit.int .i64 x).wf = true := by
  obtain ⟨xs, T, h1, h2, h3, h4, h5⟩ := h
  refine ⟨⟨xs, T, h1, fun k a hk => ?_, h3, h4, h5⟩, fun r hr => ?_⟩
  · obtain ⟨U, ⟨v', h6, h7⟩, h8⟩ := h2 k a hk
    obtain ⟨⟨T', h9, h10⟩, _⟩ := h7.iv
    exact ⟨T', ⟨v', h6, h9⟩, fun x hx => h8 x (h10 x hx)⟩
  · obtain ⟨k, hk, rfl⟩ := List.getElem_of_mem hr
    obtain ⟨U, ⟨v', h6, h7⟩, h8⟩ := h2 k _ (List.getElem?_eq_getElem hk)
    exact h7.iv.2
end Go.Proofs.YtbjnbngpjdoejaaDoor
/- Kinds -/
namespace Go.Proofs.YtbjnbngpjdoejaaDoor
open Go.RowKit
set_option linter.unusedVariables false
set_option linter.unusedSimpArgs false
set_option linter.unnecessarySimpa false

def KR (k : IntKind) (w : World) (v : Value) (e : TypeId) (l : List Int) (S : List Nat) : Prop := Row w v e 1 l.length (l.map (Value.int k)) S
section
variable {k : IntKind} {w w' : World} {v : Value} {l : List Int} {S T : List Nat} {e : TypeId}
theorem KR.keep (h : KR k w v e l S) (kp : Keeps T w w') (hn : ∀ x ∈ S, x ∉ T) : KR k w' v e l S := Row.keep h kp hn
theorem KR.then (h : KR k w v e l S) (kp : Keeps [] w w') : KR k w' v e l S := Row.then h kp
theorem KR.shape (h : KR k w v e l S) : ∃ ao cap, v = .slice ao l.length cap := Row.shape h
theorem KR.le (h : KR k w v e l S) : l.length ≤ maxLen := Row.le h
theorem KR.lt (h : KR k w v e l S) : ∀ x ∈ S, x < w.heap.size := Row.lt h
theorem KR.nil (k : IntKind) (w : World) (e : TypeId) : KR k w (.slice none 0 0) e [] [] := Row.nil w e 1
theorem KR.lit (k : IntKind) (w : World) (l : List Int) (e : TypeId) (b : Nat) (hb : b = w.heap.size) (hl : l.length ≤ 1000) : KR k (w.alloc (.cells (l.map (Value.int k)).toArray e)) (.slice (some ⟨b, 0, none⟩) l.length l.length) e l [b] := by
  subst hb
  exact Row.lit w (l.map (Value.int k)) e 1 l.length (by simp) (by simp [maxLen]; omega)
theorem GV.of_nums {w : World} {v : Value} {k : IntKind} {l : List Int} {S : List Nat} (h : View w v 1 l.length (l.map (Value.int k)) S) (hw : ∀ x ∈ l, (Lit.int k x).wf = true) : GV (numE k) 1 w v l S := by
  refine ⟨_, S, h, fun i a hi => ⟨[], ⟨?_, hw a (List.mem_of_getElem? hi), rfl⟩, by simp⟩, fun x hx => hx, h.lt, fun y hy => ?_⟩
  · have hl := (List.getElem?_eq_some_iff.1 hi).1
    apply List.ext_getElem?
    intro j
    by_cases hj : j < 1
    · have : j = 0 := by omega
      subst this
      rw [chunk_get (by omega)]
      simp [hi]
    · rw [List.getElem?_eq_none (by unfold chunk; rw [List.length_take]; omega), List.getElem?_eq_none (by simp; omega)]
  · obtain ⟨x, _, rfl⟩ := List.mem_map.1 hy; rfl
theorem KR.gv (h : KR k w v e l S) (hw : ∀ x ∈ l, (Lit.int k x).wf = true) : GV (numE k) 1 w v l S := GV.of_nums (Row.view h) hw
theorem GV.lit (w : World) (l : List Int) (k : IntKind) (e : TypeId) (b : Nat) (hb : b = w.heap.size) (hl : l.length ≤ 1000) (hw : ∀ x ∈ l, (Lit.int k x).wf = true) :
    GV (numE k) 1 (w.alloc (.cells (l.map (Value.int k)).toArray e)) (.slice (some ⟨b, 0, none⟩) l.length l.length) l [b] := (KR.lit k w l e b hb hl).gv hw
theorem GV.view_nums {w : World} {v : Value} {k : IntKind} {l : List Int} {S : List Nat} (h : GV (numE k) 1 w v l S) : ∃ T, View w v 1 l.length (l.map (Value.int k)) T ∧ ∀ x ∈ T, x ∈ S := by
  obtain ⟨xs, T, h1, h2, h3, _⟩ := h
  have hlen := h1.len
  have hx : ∀ (i : Nat) a, l[i]? = some a → xs[i]? = some (.int k a) := fun i a hk => by
    obtain ⟨U, ⟨h5, h6, _⟩, _⟩ := h2 i a hk
    have := chunk_get (xs := xs) (sz := 1) (k := i) (j := 0) (by omega)
    rw [h5] at this
    simpa using this.symm
  have e : xs = l.map (Value.int k) := by
    apply List.ext_getElem?
    intro i
    by_cases hk : i < l.length
    · rw [hx i _ (List.getElem?_eq_getElem hk)]; simp [hk]
    · rw [List.getElem?_eq_none (by omega), List.getElem?_eq_none (by simp; omega)]
  subst e
  exact ⟨T, h1, h3⟩
end
theorem wf_u8 {x : Int} (h : 0 ≤ x ∧ x ≤ 255) : (Lit.int .u8 x).wf = true := by
  simp [Lit.wf, IntKind.min, IntKind.max, IntKind.signed, IntKind.bits]; omega
theorem wf_i64 {x : Int} (h : -9223372036854775808 ≤ x ∧ x ≤ 9223372036854775807) : (Lit.int .i64 x).wf = true := by
  simp [Lit.wf, IntKind.min, IntKind.max, IntKind.signed, IntKind.bits]; omega
theorem oc_two {k : IntKind} {n m : Int} : ∀ y ∈ [Value.int k n, Value.int k m], y.oneCell' = true := by intro y hy; simp at hy; rcases hy with rfl | rfl <;> rfl
theorem two_le_max : 2 ≤ maxLen := by simp [maxLen]

section
variable {P : Program} {t e : TypeId} {bytes : Nat} {z : Value} {k : IntKind}
theorem wp_appk1 (E : Elem P t e 1 bytes z) {w : World} {ops : Array Oper} {rest : List Oper} {o : Oper} {a : Act} {Q : Exit → Act → World → Prop} {s x : Operand}
    {v : Value} {l : List Int} {n : Int} {bx : Nat} {S : List Nat} (h : KR k w v e l S) (hb : (l.length + 1) * bytes ≤ 140737488355328)
    (hK : ∀ ao cap w' S', KR k w' (.slice ao (l.length + 1) cap) e (l ++ [n]) S' → Keeps S w w' → (∀ k ∈ S', k ∈ S ∨ w.heap.size ≤ k) → wpList P ops Q rest (a.put o.dst (.slice ao (l.length + 1) cap)) w')
    (hg : o.guard = none := by rfl) (hop : o.op = Op.call { callee := Callee.builtin Builtin.append, args := #[s, x], argTypes := #[t, t] } := by rfl) (hs : a.eval s = v := by rfl) (hx : a.eval x = .slice (some ⟨bx, 0, none⟩) 1 1 := by rfl) (hbx : bx = w.heap.size := by first | rfl | simp) :
    wpList P ops Q (o :: rest) a (w.alloc (.cells #[.int k n] e)) :=
  wp_app1 E (m := 1) (ys := [.int k n]) h rfl one_le_max oc_int hb (fun ao cap w' S' r1 r2 r3 => hK ao cap w' S' (by unfold KR; simpa using r1) r2 r3) hg hop hs hx hbx
theorem wp_appk2 (E : Elem P t e 1 bytes z) {w : World} {ops : Array Oper} {rest : List Oper} {o : Oper} {a : Act} {Q : Exit → Act → World → Prop} {s x : Operand}
    {v : Value} {l : List Int} {n m : Int} {bx : Nat} {S : List Nat} (h : KR k w v e l S) (hb : (l.length + 2) * bytes ≤ 140737488355328)
    (hK : ∀ ao cap w' S', KR k w' (.slice ao (l.length + 2) cap) e (l ++ [n, m]) S' → Keeps S w w' → (∀ k ∈ S', k ∈ S ∨ w.heap.size ≤ k) → wpList P ops Q rest (a.put o.dst (.slice ao (l.length + 2) cap)) w')
    (hg : o.guard = none := by rfl) (hop : o.op = Op.call { callee := Callee.builtin Builtin.append, args := #[s, x], argTypes := #[t, t] } := by rfl) (hs : a.eval s = v := by rfl) (hx : a.eval x = .slice (some ⟨bx, 0, none⟩) 2 2 := by rfl) (hbx : bx = w.heap.size := by first | rfl | simp) :
    wpList P ops Q (o :: rest) a (w.alloc (.cells #[.int k n, .int k m] e)) :=
  wp_app1 E (m := 2) (ys := [.int k n, .int k m]) h rfl two_le_max oc_two hb (fun ao cap w' S' r1 r2 r3 => hK ao cap w' S' (by unfold KR; simpa using r1) r2 r3) hg hop hs hx hbx
theorem step_appk2 (E : Elem P t e 1 bytes z) {w : World} {ops : Array Oper} {o : Oper} {a : Act} {K : Act → World → Prop} {Q : Exit → Act → World → Prop} {F : Prop} {s x : Operand}
    {v : Value} {l : List Int} {n m : Int} {bx : Nat} {S : List Nat} (h : KR k w v e l S) (hb : (l.length + 2) * bytes ≤ 140737488355328)
    (hK : ∀ ao cap w' S', KR k w' (.slice ao (l.length + 2) cap) e (l ++ [n, m]) S' → Keeps S w w' → (∀ k ∈ S', k ∈ S ∨ w.heap.size ≤ k) → K (a.put o.dst (.slice ao (l.length + 2) cap)) w')
    (hg : o.guard = none := by rfl) (hop : o.op = Op.call { callee := Callee.builtin Builtin.append, args := #[s, x], argTypes := #[t, t] } := by rfl) (hs : a.eval s = v := by rfl) (hx : a.eval x = .slice (some ⟨bx, 0, none⟩) 2 2 := by rfl) (hbx : bx = w.heap.size := by first | rfl | simp) :
    if Region.wanted o (yielded ops a.tmps) = true then Oper.wp P o a (w.alloc (.cells #[.int k n, .int k m] e)) K Q else F :=
  step_app1 E (m := 2) (ys := [.int k n, .int k m]) h rfl two_le_max oc_two hb (fun ao cap w' S' r1 r2 r3 => hK ao cap w' S' (by unfold KR; simpa using r1) r2 r3) hg hop hs hx hbx
theorem wp_appks (E : Elem P t e 1 bytes z) {w : World} {ops : Array Oper} {rest : List Oper} {o : Oper} {a : Act} {Q : Exit → Act → World → Prop} {s x : Operand}
    {v u : Value} {l r : List Int} {S T : List Nat} (h : KR k w v e l S) (hu : View w u 1 r.length (r.map (Value.int k)) T) (hb : (l.length + r.length) * bytes ≤ 140737488355328)
    (hK : ∀ ao cap w' S', KR k w' (.slice ao (l.length + r.length) cap) e (l ++ r) S' → Keeps S w w' → (∀ k ∈ S', k ∈ S ∨ w.heap.size ≤ k) → wpList P ops Q rest (a.put o.dst (.slice ao (l.length + r.length) cap)) w')
    (hg : o.guard = none := by rfl) (hop : o.op = Op.call { callee := Callee.builtin Builtin.append, args := #[s, x], argTypes := #[t, t] } := by rfl) (hs : a.eval s = v := by rfl) (hx : a.eval x = u := by rfl) :
    wpList P ops Q (o :: rest) a w :=
  wp_app E h hu (oc_ints r) hb (fun ao cap w' S' r1 r2 r3 => hK ao cap w' S' (by unfold KR; simpa using r1) r2 r3) hg hop hs hx
end
end Go.Proofs.YtbjnbngpjdoejaaDoor
/- MapV -/
namespace Go.Proofs.YtbjnbngpjdoejaaDoor
open Go.RowKit Go.Maps
set_option linter.unusedVariables false
set_option linter.unusedSimpArgs false
set_option linter.unnecessarySimpa false

def valElem (v : Value) : Option (DataW Value × List MemPlace) := some (.held v, [])
def i64L (g : Int) : Lit := .int .i64 g
def wf64L (g : Int) : Prop := (Lit.int .i64 g).wf = true
def MapV (P : Program) (k : TypeId) (w : World) (b n : Nat) (f : Int → Option Value) : Prop :=
  ∃ D, w.ownsMap P k valElem b n D ∧ ∀ g, wf64L g → Maps.has D (i64L g) = (f g).isSome ∧ ∀ z, D.atKey (i64L g) (.held z) = .held ((f g).getD z)

section
variable {P : Program} {k : TypeId} {w w' : World} {b n : Nat} {f : Int → Option Value}
theorem ownsMap_keep {R : Value → Option (DataW Value × List MemPlace)} {D : DataW Value} {T : List Nat} (h : w.ownsMap P k R b n D) (kp : Keeps T w w') (hb : b ∉ T) : w'.ownsMap P k R b n D := by
  have hlt := h.lt
  obtain ⟨es, clock, h1, h2, h3, h4⟩ := h
  exact ⟨es, clock, (kp.block b hlt hb).trans h1, h2, h3, h4⟩
theorem MapV.lt (h : MapV P k w b n f) : b < w.heap.size := by obtain ⟨D, h1, _⟩ := h; exact h1.lt
theorem MapV.keep {T : List Nat} (h : MapV P k w b n f) (kp : Keeps T w w') (hb : b ∉ T) : MapV P k w' b n f := by
  obtain ⟨D, h1, h2⟩ := h
  exact ⟨D, ownsMap_keep h1 kp hb, h2⟩
theorem MapV.then (h : MapV P k w b n f) (kp : Keeps [] w w') : MapV P k w' b n f := h.keep kp (by simp)
theorem MapV.mono {m : Nat} (h : MapV P k w b n f) (hm : n ≤ m) : MapV P k w b m f := by
  obtain ⟨D, h1, h2⟩ := h
  exact ⟨D, h1.mono hm, h2⟩
theorem MapV.made (P : Program) (k : TypeId) (w : World) : MapV P k (w.alloc (.map #[] 0)) w.heap.size 0 (fun _ => none) :=
  ⟨_, World.ownsMap_made w P k valElem, fun g _ => ⟨rfl, fun z => rfl⟩⟩
theorem keeps_turned (h : w.mapTurned w' b) : Keeps [b] w w' := (Keeps.refl [b] w).grown h.grown (fun x hx => by cases hx; exact .inl (by simp))
theorem ikey {g : Int} (hg : wf64L g) : WideAt.IsKeyLit (i64L g) := by
  first
    | exact trivial
    | (simp [WideAt.IsKeyLit, i64L])
    | (unfold WideAt.IsKeyLit; exact hg)
theorem i64L_ne {a c : Int} (h : a ≠ c) : i64L a ≠ i64L c := fun e => h (by injection e)
theorem wp_mapGet {e : TypeId} {z : Value} (hk : P.underlying k = some (.int .i64)) {t : TypeId} (ht : P.underlying t = some (.map k e)) (hz : ∀ w, (zeroValue e).run P w = .ok z w)
    {ops : Array Oper} {rest : List Oper} {o : Oper} {a : Act} {Q : Exit → Act → World → Prop} {m x : Operand} {g : Int} (hw : wf64L g) (h : MapV P k w b n f)
    (hK : wpList P ops Q rest (a.put o.dst (.tuple #[(f g).getD z, .bool (f g).isSome])) w)
    (hg : o.guard = none := by rfl) (hop : o.op = Op.lookup t m x true := by rfl) (hm : a.eval m = .map (some b) := by rfl) (hx : a.eval x = .int .i64 g := by rfl) : wpList P ops Q (o :: rest) a w := by
  obtain ⟨D, h1, h2⟩ := h
  obtain ⟨r1, r2⟩ := h2 g hw
  refine wpList_lookup_own_ok w hg m x t hop k e (int_keyed hk) ht valElem (hz w) (.held z) [] rfl b n D hm h1 _ (i64L g) hx (keyOf_int_mk hk hw) (fun v ps hv => ?_)
  rw [r2 z] at hv
  simp only [valElem, Option.some.injEq, Prod.mk.injEq, DataW.held.injEq] at hv
  rw [hv.1, r1]
  exact hK
theorem wp_mapSet {e : TypeId} (hk : P.underlying k = some (.int .i64)) {t : TypeId} (ht : P.underlying t = some (.map k e))
    {ops : Array Oper} {rest : List Oper} {o : Oper} {a : Act} {Q : Exit → Act → World → Prop} {m x v : Operand} {g : Int} {u : Value} (hw : wf64L g) (h : MapV P k w b n f) (hn : n < maxLen)
    (hK : ∀ w', MapV P k w' b (n + 1) (fun c => if c = g then some u else f c) → Keeps [b] w w' → wpList P ops Q rest (a.put o.dst undef) w')
    (hg : o.guard = none := by rfl) (hop : o.op = Op.mapUpdate t m x v := by rfl) (hm : a.eval m = .map (some b) := by rfl) (hx : a.eval x = .int .i64 g := by rfl) (hv : a.eval v = u := by rfl) : wpList P ops Q (o :: rest) a w := by
  obtain ⟨D, h1, h2⟩ := h
  refine wpList_mapUpdate_in w hg m x v t hop k e (int_keyed hk) ht valElem b n D hm h1 hn _ _ (i64L g) hx hv (keyOf_int_mk hk hw) (.held u) [] rfl (fun w' q1 q2 => hK w' ⟨_, q1, fun c hc => ?_⟩ (keeps_turned q2))
  dsimp only
  by_cases e : c = g
  · subst e
    rw [if_pos rfl]
    exact ⟨has_put_same h1.isMap (ikey hw) _, fun z => atKey_put_same h1.isMap (ikey hw) _ _⟩
  · rw [if_neg e]
    exact ⟨(has_put_other (i64L_ne e) _).trans (h2 c hc).1, fun z => (atKey_put_other (i64L_ne e) _ _).trans ((h2 c hc).2 z)⟩
theorem wp_mapDel {e : TypeId} (hk : P.underlying k = some (.int .i64)) {t : TypeId} (ht : P.underlying t = some (.map k e))
    {ops : Array Oper} {rest : List Oper} {o : Oper} {a : Act} {Q : Exit → Act → World → Prop} {m x : Operand} {g : Int} (hw : wf64L g) (h : MapV P k w b n f)
    (hK : ∀ w', MapV P k w' b n (fun c => if c = g then none else f c) → Keeps [b] w w' → wpList P ops Q rest (a.put o.dst (.tuple #[])) w')
    (hg : o.guard = none := by rfl) (hop : o.op = Op.call { callee := Callee.builtin Builtin.delete, args := #[m, x], argTypes := #[t, k] } := by rfl) (hm : a.eval m = .map (some b) := by rfl) (hx : a.eval x = .int .i64 g := by rfl) : wpList P ops Q (o :: rest) a w := by
  obtain ⟨D, h1, h2⟩ := h
  refine wpList_delete_own w hg m x t k hop e (int_keyed hk) ht valElem b n D hm h1 _ (i64L g) hx (keyOf_int_mk hk hw) (fun w' q1 q2 => hK w' ⟨_, q1, fun c hc => ?_⟩ (keeps_turned q2))
  dsimp only
  by_cases e : c = g
  · subst e
    rw [if_pos rfl]
    exact ⟨has_del_same, fun z => atKey_del_same _⟩
  · rw [if_neg e]
    exact ⟨(has_del_other (i64L_ne e)).trans (h2 c hc).1, fun z => (atKey_del_other (i64L_ne e) _).trans ((h2 c hc).2 z)⟩
end
end Go.Proofs.YtbjnbngpjdoejaaDoor
/- MapR -/
namespace Go.Proofs.YtbjnbngpjdoejaaDoor
open Go.RowKit Go.Maps
set_option linter.unusedVariables false
set_option linter.unusedSimpArgs false
set_option linter.unnecessarySimpa false

def MapR (P : Program) (k : TypeId) (w : World) (b r n : Nat) (f : Int → Option Value) (left : Int → Bool) (cnt : Nat) : Prop :=
  ∃ D lf, w.ranges P k valElem b r n D lf cnt ∧ (∀ g, wf64L g → Maps.has D (i64L g) = (f g).isSome ∧ ∀ z, D.atKey (i64L g) (.held z) = .held ((f g).getD z)) ∧ ∀ g, wf64L g → lf (i64L g) = left g
section
variable {P : Program} {k : TypeId} {w w' : World} {b r n cnt : Nat} {f : Int → Option Value} {left : Int → Bool}
theorem MapR.keep {T : List Nat} (h : MapR P k w b r n f left cnt) (kp : Keeps T w w') (hb : b ∉ T) (hr : r ∉ T) : MapR P k w' b r n f left cnt := by
  obtain ⟨D, lf, h1, h2, h3⟩ := h
  refine ⟨D, lf, ?_, h2, h3⟩
  have l1 := h1.owns.lt
  have l2 := h1.lt
  obtain ⟨es, clock, since, seen, c0, q1, q2, q3, q4, q5, rest⟩ := h1
  exact ⟨es, clock, since, seen, c0, (kp.block b l1 hb).trans q1, q2, q3, q4, (kp.block r l2 hr).trans q5, rest⟩
theorem MapR.then (h : MapR P k w b r n f left cnt) (kp : Keeps [] w w') : MapR P k w' b r n f left cnt := h.keep kp (by simp) (by simp)
theorem MapR.left_eq (h : MapR P k w b r n f left cnt) : w.rangeLeft b r = cnt := by obtain ⟨D, lf, h1, _⟩ := h; exact h1.left_eq
theorem lit_same {x g : Int} : (i64L g).sameKey (i64L x) = decide (g = x) := by simp [i64L, Lit.sameKey]
theorem wp_range {e : TypeId} (hk : P.underlying k = some (.int .i64)) {t : TypeId} (ht : P.underlying t = some (.map k e))
    {ops : Array Oper} {rest : List Oper} {o : Oper} {a : Act} {Q : Exit → Act → World → Prop} {m : Operand} (h : MapV P k w b n f)
    (hK : ∀ w' cnt, MapR P k w' b w.heap.size n f (fun g => (f g).isSome) cnt → Keeps [] w w' → w'.heap.size = w.heap.size + 1 → wpList P ops Q rest (a.put o.dst (.pointer (some ⟨w.heap.size, 0, none⟩))) w')
    (hg : o.guard = none := by rfl) (hop : o.op = Op.range t m := by rfl) (hm : a.eval m = .map (some b) := by rfl) : wpList P ops Q (o :: rest) a w := by
  obtain ⟨D, h1, h2⟩ := h
  refine wpList_range_own w hg m t hop k e (int_keyed hk) ht valElem b n D hm h1 (fun w' q1 q2 q3 => hK w' _ ⟨D, _, q1, h2, fun g hw => (h2 g hw).1⟩ ((Keeps.refl [] w).grown q2 (by simp)) q3)
theorem wp_next (hk : P.underlying k = some (.int .i64))
    {ops : Array Oper} {rest : List Oper} {o : Oper} {a : Act} {Q : Exit → Act → World → Prop} {it : Operand} (h : MapR P k w b r n f left cnt) (hf : ∀ g, left g = true → (f g).isSome = true)
    (hDone : cnt = 0 → (∀ g, wf64L g → left g = false) → wpList P ops Q rest (a.put o.dst (.tuple #[.bool false])) w)
    (hMore : ∀ (x : Int) (v : Value) (w' : World) (cnt' : Nat), wf64L x → left x = true → f x = some v → MapR P k w' b r n f (fun z => left z && !decide (z = x)) cnt' → cnt' < cnt → Keeps [r] w w' → w'.heap.size = w.heap.size →
      (Instr.entry (.pointer (some ⟨r, 0, none⟩))).run P w' = .ok (.tuple #[.int .i64 x, v]) w' → wpList P ops Q rest (a.put o.dst (.tuple #[.bool true, .int .i64 x, v])) w')
    (hg : o.guard = none := by rfl) (hop : o.op = Op.next it false := by rfl) (hit : a.eval it = .pointer (some ⟨r, 0, none⟩) := by rfl) : wpList P ops Q (o :: rest) a w := by
  obtain ⟨D, lf, h1, h2, h3⟩ := h
  refine wpList_next_ranges w hg it hop k (int_keyed hk) valElem (Value.int .i64) id (fun key kl hkey => by obtain ⟨x, rfl, _⟩ := Maps.keyOf_int_inv hk hkey; exact ⟨x, rfl⟩) (fun v _ _ => ⟨v, rfl⟩) b r n D lf cnt hit h1 ?_ ?_
  · intro hc hl
    exact hDone hc (fun g hw => by rw [← h3 g hw]; exact hl _)
  · intro x c kl y w' cnt' hkey hl hR hat hrg hlt hgr hsz hen
    obtain ⟨x', ex, rfl, hwx⟩ := Maps.keyOf_int_inv hk hkey
    obtain rfl : x = x' := by simpa using ex
    have hlx : left x = true := by rw [← h3 x hwx]; exact hl
    have hfx : f x = some c := by
      have h5 := (h2 x hwx).2 (.int .i64 0)
      have h6 := hat (.held (.int .i64 0))
      have h7 : y = (.held c, []) := by simpa [valElem] using hR.symm
      rw [h7] at h6
      have h8 := h5.symm.trans h6
      have h9 := hf x hlx
      cases hfx : f x with
      | none => rw [hfx] at h9; cases h9
      | some v => rw [hfx] at h8; simpa using h8
    exact hMore x c w' cnt' hwx hlx hfx ⟨D, _, hrg, h2, fun g hw => by show (_ && _) = (left g && !decide (g = x)); rw [← h3 g hw]; congr 1; rw [show (Lit.int IntKind.i64 x) = i64L x from rfl, lit_same]⟩ hlt ((Keeps.refl [r] w).grown hgr (fun j hj => by cases hj; exact .inl (by simp))) hsz hen
end
end Go.Proofs.YtbjnbngpjdoejaaDoor
/- Whole -/
namespace Go.Proofs.YtbjnbngpjdoejaaDoor
set_option linter.unusedVariables false
set_option linter.unusedSimpArgs false
set_option linter.unnecessarySimpa false

theorem alloc_setCells_from (w : World) (t : TypeId) : ∀ (cs p z : List Value), z.length = cs.length →
    (w.alloc (.cells (p ++ z).toArray t)).setCells w.heap.size p.length cs = w.alloc (.cells (p ++ cs).toArray t)
  | [], p, z, h => by
    have : z = [] := List.length_eq_zero_iff.1 h
    subst this
    rfl
  | c :: cs, p, [], h => by simp at h
  | c :: cs, p, x :: z, h => by
    rw [World.setCells, World.setCell_alloc_at _ _ _ _ _ rfl]
    have e : ((p ++ x :: z).toArray.setIfInBounds p.length c) = ((p ++ [c]) ++ z).toArray := by simp
    have ih := alloc_setCells_from w t cs (p ++ [c]) z (by simpa using h)
    simp only [List.length_append, List.length_cons, List.length_nil, Nat.zero_add] at ih
    rw [e, ih]
    simp

theorem alloc_setCells (w : World) (t : TypeId) (cs : List Value) (z : Array Value) (h : z.size = cs.length) :
    (w.alloc (.cells z t)).setCells w.heap.size 0 cs.toArray.toList = w.alloc (.cells cs.toArray t) := by
  have := alloc_setCells_from w t cs [] z.toList (by simpa using h)
  simpa using this
theorem there_alloc_new (w : World) (t : TypeId) (z : Array Value) {n : Nat} (h : z.size = n) : (w.alloc (.cells z t)).there w.heap.size 0 n := by
  intro j hj
  refine ⟨?_, World.frozen?_alloc_at _ _ _ _ rfl⟩
  rw [World.cell?_alloc_at _ _ _ _ rfl]
  simp [h, hj]
theorem Blk.range {w : World} {g : Nat} {cs : List Value} {t : TypeId} (h : Blk w g cs t) : w.rangeAt g 0 cs := fun j v hj => by
  rw [Nat.zero_add, h.cell]; exact hj
end Go.Proofs.YtbjnbngpjdoejaaDoor
/- Mid -/
namespace Go.Proofs.YtbjnbngpjdoejaaDoor
set_option linter.unusedVariables false
set_option linter.unusedSimpArgs false
set_option linter.unnecessarySimpa false
section
variable {α : Type} {E : World → List Value → α → List Nat → Prop} {sz : Nat} {w w' : World} {l : List α} {S : List Nat}
theorem GV.rng {ao : Option Addr} {m cap : Nat} (h : GV E sz w (.slice ao m cap) l S) {k : Nat} {a : α} (hk : l[k]? = some a) :
    ∃ g off cs U, ao = some ⟨g, off, none⟩ ∧ g ∈ S ∧ g < w.heap.size ∧ cs.length = sz ∧ w.rangeAt g (off + k * sz) cs ∧ E w cs a U ∧ (∀ x ∈ U, x ∈ S) ∧ ∀ y ∈ cs, y.oneCell' = true := by
  obtain ⟨xs, T, h1, h2, h3, h4, h5⟩ := h
  have hkl := (List.getElem?_eq_some_iff.1 hk).1
  obtain ⟨g, off, rfl, rfl, hg, hc⟩ := h1.cell (by omega)
  obtain ⟨U, he, hU⟩ := h2 k a hk
  have hlen := h1.len
  have h6 : (k + 1) * sz ≤ l.length * sz := Nat.mul_le_mul_right _ hkl
  rw [Nat.add_mul] at h6
  refine ⟨g, off, chunk xs sz k, U, rfl, h3 g (by simp), hg, chunk_len hlen hkl, fun j v hj => ?_, he, hU, fun y hy => h5 y ?_⟩
  · have hjs : j < sz := by have := (List.getElem?_eq_some_iff.1 hj).1; rw [chunk_len hlen hkl] at this; exact this
    rw [Nat.add_assoc, hc _ (by omega), ← chunk_get hjs, hj]
  · unfold chunk at hy
    exact List.mem_of_mem_drop (List.mem_of_mem_take hy)
theorem rangeAt_keep {S : List Nat} {g o : Nat} {cs : List Value} (h : w.rangeAt g o cs) (k : Keeps S w w') (hg : g ∉ S) : w'.rangeAt g o cs := fun j v hj => k.cell (h j v hj) hg
end
end Go.Proofs.YtbjnbngpjdoejaaDoor
/- Put -/
namespace Go.Proofs.YtbjnbngpjdoejaaDoor
set_option linter.unusedVariables false
set_option linter.unusedSimpArgs false
set_option linter.unnecessarySimpa false

def setFrom (xs : List Value) (j : Nat) : List Value → List Value
  | [] => xs
  | c :: cs => setFrom (xs.set j c) (j + 1) cs
theorem setFrom_len : ∀ (cs : List Value) (xs : List Value) (j : Nat), (setFrom xs j cs).length = xs.length
  | [], xs, j => rfl
  | c :: cs, xs, j => by rw [setFrom, setFrom_len cs]; simp
theorem setFrom_out : ∀ (cs : List Value) (xs : List Value) (j i : Nat), (i < j ∨ j + cs.length ≤ i) → (setFrom xs j cs)[i]? = xs[i]?
  | [], xs, j, i, _ => rfl
  | c :: cs, xs, j, i, h => by
    simp only [List.length_cons] at h
    rw [setFrom, setFrom_out cs _ _ _ (by omega), List.getElem?_set_ne (by omega)]
theorem setFrom_in : ∀ (cs : List Value) (xs : List Value) (j i : Nat), i < cs.length → j + cs.length ≤ xs.length → (setFrom xs j cs)[j + i]? = cs[i]?
  | [], xs, j, i, h, _ => by simp at h
  | c :: cs, xs, j, i, h, hl => by
    simp only [List.length_cons] at h hl
    rw [setFrom]
    cases i with
    | zero =>
      rw [setFrom_out cs _ _ _ (by omega), Nat.add_zero, List.getElem?_set_self (by omega)]
      rfl
    | succ i =>
      have := setFrom_in cs (xs.set j c) (j + 1) i (by omega) (by simp; omega)
      rw [show j + (i + 1) = j + 1 + i by omega, this]
      rfl
theorem setFrom_mem : ∀ (cs : List Value) (xs : List Value) (j : Nat) (y : Value), y ∈ setFrom xs j cs → y ∈ xs ∨ y ∈ cs
  | [], xs, j, y, h => .inl h
  | c :: cs, xs, j, y, h => by
    rcases setFrom_mem cs _ _ _ h with h | h
    · rcases List.mem_or_eq_of_mem_set h with h | rfl
      · exact .inl h
      · exact .inr (by simp)
    · exact .inr (by simp [h])

section
variable {e : TypeId} {sz : Nat}
theorem Row.puts {g off m cap n : Nat} {T : List Nat} : ∀ (cs : List Value) (w : World) (xs : List Value) (j : Nat), Row w (.slice (some ⟨g, off, none⟩) m cap) e sz n xs T → j + cs.length ≤ xs.length →
    Row (w.setCells g (off + j) cs) (.slice (some ⟨g, off, none⟩) m cap) e sz n (setFrom xs j cs) T ∧ Keeps T w (w.setCells g (off + j) cs)
  | [], w, xs, j, h, _ => ⟨h, Keeps.refl _ _⟩
  | c :: cs, w, xs, j, h, hl => by
    simp only [List.length_cons] at hl
    obtain ⟨r1, r2⟩ := h.stored j (by omega) c
    obtain ⟨r3, r4⟩ := Row.puts cs _ _ (j + 1) r1 (by simp; omega)
    exact ⟨r3, r2.trans r4 (fun x hx => .inl hx)⟩
end
section
variable {α : Type} {E : World → List Value → α → List Nat → Prop} {sz : Nat} {w w' : World} {l : List α} {S T : List Nat} {e : TypeId}
theorem GR.puts {g off m cap : Nat} (KE : Kept E) (h : GR E sz w (.slice (some ⟨g, off, none⟩) m cap) e l T S) (k : Nat) (hk : k < l.length) {cs : List Value} {a : α} {U : List Nat} (hl : cs.length = sz) (he : E w cs a U) (hU : ∀ y ∈ U, y ∉ T) (h1 : ∀ y ∈ cs, y.oneCell' = true) :
    GR E sz (w.setCells g (off + k * sz) cs) (.slice (some ⟨g, off, none⟩) m cap) e (l.set k a) T (S ++ U) ∧ Keeps T w (w.setCells g (off + k * sz) cs) ∧ w.there g (off + k * sz) sz := by
  obtain ⟨xs, h2, h3, h4, h5, h6⟩ := h
  have hlen := h2.len
  have hks : (k + 1) * sz ≤ l.length * sz := Nat.mul_le_mul_right _ hk
  rw [Nat.add_mul] at hks
  obtain ⟨r1, r2⟩ := Row.puts cs w xs (k * sz) h2 (by omega)
  obtain ⟨g', off', e1, rfl, hg, hc, hf⟩ := h2.cells (by omega)
  obtain ⟨rfl, rfl⟩ := by simpa using e1
  refine ⟨⟨setFrom xs (k * sz) cs, by rw [List.length_set]; exact r1, ?_, ?_, ?_, ?_⟩, r2, fun j hj => ⟨?_, by rw [Nat.add_assoc]; exact hf _⟩⟩
  · intro i b hi
    by_cases ei : k = i
    · subst ei
      rw [List.getElem?_set_self hk] at hi
      cases hi
      refine ⟨U, KE.keep ?_ r2 hU, fun y hy => by simp [hy]⟩
      have : chunk (setFrom xs (k * sz) cs) sz k = cs := by
        apply List.ext_getElem?
        intro j
        by_cases hj : j < sz
        · rw [chunk_get hj, setFrom_in cs xs (k * sz) j (by omega) (by omega)]
        · rw [List.getElem?_eq_none (by unfold chunk; rw [List.length_take]; omega), List.getElem?_eq_none (by omega)]
      rw [this]; exact he
    · rw [List.getElem?_set_ne ei] at hi
      obtain ⟨V, v1, v2⟩ := h3 i b hi
      refine ⟨V, KE.keep ?_ r2 (fun y hy hT => h5 y hT (v2 y hy)), fun y hy => by simp [v2 y hy]⟩
      have : chunk (setFrom xs (k * sz) cs) sz i = chunk xs sz i := by
        apply List.ext_getElem?
        intro j
        by_cases hj : j < sz
        · rw [chunk_get hj, chunk_get hj, setFrom_out]
          rw [hl]
          rcases Nat.lt_or_gt_of_ne ei with hlt | hgt
          · right
            have : (k + 1) * sz ≤ i * sz := Nat.mul_le_mul_right _ hlt
            rw [Nat.add_mul] at this; omega
          · left
            have : (i + 1) * sz ≤ k * sz := Nat.mul_le_mul_right _ hgt
            rw [Nat.add_mul] at this; omega
        · rw [List.getElem?_eq_none (by unfold chunk; rw [List.length_take]; omega), List.getElem?_eq_none (by unfold chunk; rw [List.length_take]; omega)]
      rw [this]; exact v1
  · intro y hy
    have hsz := r2.size
    rcases List.mem_append.1 hy with h | h
    · have := h4 y h; omega
    · have := KE.lt he y h; omega
  · intro y hy h
    rcases List.mem_append.1 h with h | h
    · exact h5 y hy h
    · exact hU y h hy
  · intro y hy
    rcases setFrom_mem _ _ _ _ hy with h | h
    · exact h6 y h
    · exact h1 y h
  · rw [Nat.add_assoc, hc _ (by omega), List.getElem?_eq_getElem (by omega)]
    rfl
end
end Go.Proofs.YtbjnbngpjdoejaaDoor
/- Step -/
namespace Go.Proofs.YtbjnbngpjdoejaaDoor
set_option linter.unusedVariables false
set_option linter.unusedSimpArgs false
set_option linter.unnecessarySimpa false

section
variable {α : Type} {F : World → List Value → α → List Nat → Prop} {P : Program} {t e : TypeId} {sz bytes : Nat} {z : Value}
theorem step_gapps (EL : Elem P t e sz bytes z) (KE : Kept F) {w : World} {ops : Array Oper} {o : Oper} {a : Act} {K : Act → World → Prop} {Q : Exit → Act → World → Prop} {G : Prop} {s x : Operand}
    {v u : Value} {l r : List α} {T S S2 : List Nat} (h : GR F sz w v e l T S) (hu : GV F sz w u r S2) (hd : ∀ y ∈ S2, y ∉ T) (hb : (l.length + r.length) * bytes ≤ 140737488355328)
    (hK : ∀ ao cap w' T', GR F sz w' (.slice ao (l.length + r.length) cap) e (l ++ r) T' (S ++ S2) → Keeps T w w' → (∀ k ∈ T', k ∈ T ∨ w.heap.size ≤ k) → K (a.put o.dst (.slice ao (l.length + r.length) cap)) w')
    (hg : o.guard = none := by rfl) (hop : o.op = Op.call { callee := Callee.builtin Builtin.append, args := #[s, x], argTypes := #[t, t] } := by rfl) (hs : a.eval s = v := by rfl) (hx : a.eval x = u := by rfl) :
    if Region.wanted o (yielded ops a.tmps) = true then Oper.wp P o a w K Q else G := by
  obtain ⟨xs, h1, h2, h3, h4, h5⟩ := h
  obtain ⟨ys, V, u1, u2, u3, u4, u5⟩ := hu
  refine step_app EL h1 u1 u5 hb (fun ao cap w' T' r1 r2 r3 => hK ao cap w' T' ⟨xs ++ ys, by rw [List.length_append]; exact r1, parts_app KE h1.len h2 u2 r2 (fun y hy hT => h4 y hT hy) hd, ?_, ?_, ?_⟩ r2 r3) hg hop hs hx
  · intro y hy
    have := r2.size
    rcases List.mem_append.1 hy with h | h
    · have := h3 y h; omega
    · have := u4 y h; omega
  · intro y hy h
    rcases r3 y hy with hT | hn
    · rcases List.mem_append.1 h with h | h
      · exact h4 y hT h
      · exact hd y h hT
    · rcases List.mem_append.1 h with h | h
      · have := h3 y h; omega
      · have := u4 y h; omega
  · intro y hy
    rcases List.mem_append.1 hy with h | h
    · exact h5 y h
    · exact u5 y h
theorem step_gapp1 (EL : Elem P t e sz bytes z) (KE : Kept F) {w : World} {ops : Array Oper} {o : Oper} {a : Act} {K : Act → World → Prop} {Q : Exit → Act → World → Prop} {G : Prop} {s x : Operand}
    {v : Value} {l : List α} {b : α} {ys : List Value} {bx : Nat} {T S U : List Nat} (h : GR F sz w v e l T S) (he : F w ys b U) (hy : ys.length = sz) (hd : ∀ y ∈ U, y ∉ T) (h1 : ∀ y ∈ ys, y.oneCell' = true) (hb : (l.length + 1) * bytes ≤ 140737488355328)
    (hK : ∀ ao cap w' T', GR F sz w' (.slice ao (l.length + 1) cap) e (l ++ [b]) T' (S ++ U) → Keeps T w w' → (∀ k ∈ T', k ∈ T ∨ w.heap.size ≤ k) → K (a.put o.dst (.slice ao (l.length + 1) cap)) w')
    (hg : o.guard = none := by rfl) (hop : o.op = Op.call { callee := Callee.builtin Builtin.append, args := #[s, x], argTypes := #[t, t] } := by rfl) (hs : a.eval s = v := by rfl) (hx : a.eval x = .slice (some ⟨bx, 0, none⟩) 1 1 := by rfl) (hbx : bx = w.heap.size := by first | rfl | simp) :
    if Region.wanted o (yielded ops a.tmps) = true then Oper.wp P o a (w.alloc (.cells ys.toArray e)) K Q else G := by
  obtain ⟨xs, g1, g2, g3, g4, g5⟩ := h
  have hp : Parts F sz w ys [b] U := fun i c hi => by
    match i, hi with
    | 0, hi => simp at hi; subst hi; exact ⟨U, by rw [chunk_one hy]; exact he, fun x hx => hx⟩
    | i + 1, hi => simp at hi
  refine step_app1 EL (m := 1) g1 (by rw [hy, Nat.one_mul]) one_le_max h1 hb (fun ao cap w' T' r1 r2 r3 => hK ao cap w' T' ⟨xs ++ ys, by rw [List.length_append]; exact r1, parts_app KE g1.len g2 hp r2 (fun y hy hT => g4 y hT hy) hd, ?_, ?_, ?_⟩ r2 r3) hg hop hs hx hbx
  · intro y hy
    have := r2.size
    rcases List.mem_append.1 hy with h | h
    · have := g3 y h; omega
    · have := KE.lt he y h; omega
  · intro y hy h
    rcases r3 y hy with hT | hn
    · rcases List.mem_append.1 h with h | h
      · exact g4 y hT h
      · exact hd y h hT
    · rcases List.mem_append.1 h with h | h
      · have := g3 y h; omega
      · have := KE.lt he y h; omega
  · intro y hy
    rcases List.mem_append.1 hy with h | h
    · exact g5 y h
    · exact h1 y h
theorem GV.unit {w : World} {b : Nat} {ys : List Value} {c : α} {U : List Nat} (hb : Blk w b ys e) (hy : ys.length = sz) (he : F w ys c U) (hU : ∀ x ∈ U, x < w.heap.size) (h1 : ∀ y ∈ ys, y.oneCell' = true) : GV F sz w (.slice (some ⟨b, 0, none⟩) 1 1) [c] (b :: U) := by
  refine ⟨ys, [b], View.of_blk (cs := ys) hb (by simp [hy]) (Nat.le_refl 1) one_le_max (fun j hj => by simp), fun i d hi => ?_, by simp, fun x hx => ?_, h1⟩
  · match i, hi with
    | 0, hi => simp at hi; subst hi; exact ⟨U, by rw [chunk_one hy]; exact he, fun x hx => by simp [hx]⟩
    | i + 1, hi => simp at hi
  · rcases List.mem_cons.1 hx with rfl | hx
    · exact hb.lt
    · exact hU x hx
end
end Go.Proofs.YtbjnbngpjdoejaaDoor
/- App -/
namespace Go.Proofs.YtbjnbngpjdoejaaDoor
set_option linter.unusedVariables false
set_option linter.unusedSimpArgs false
set_option linter.unnecessarySimpa false

theorem Blk.newAt (w : World) (cs : List Value) (e : TypeId) (b : Nat) (hb : b = w.heap.size) : Blk (w.alloc (.cells cs.toArray e)) b cs e := by subst hb; exact Blk.new w cs e
section
variable {α : Type} {F : World → List Value → α → List Nat → Prop} {P : Program} {t e : TypeId} {sz bytes : Nat} {z : Value}
def App (F : World → List Value → α → List Nat → Prop) (sz : Nat) (e : TypeId) (w0 w : World) (v : Value) (l : List α) (T S : List Nat) : Prop :=
  Keeps [] w0 w ∧ GR F sz w v e l T S ∧ ∀ x ∈ T, w0.heap.size ≤ x
theorem App.then (KE : Kept F) {w0 w w' : World} {v : Value} {l : List α} {T S : List Nat} (h : App F sz e w0 w v l T S) (k : Keeps [] w w') : App F sz e w0 w' v l T S :=
  ⟨h.1.then k, h.2.1.then KE k, h.2.2⟩
theorem App.lt {w0 w : World} {v : Value} {l : List α} {T S : List Nat} (h : App F sz e w0 w v l T S) : ∀ x ∈ T ++ S, x < w.heap.size := h.2.1.gv.lt
def Lit0 (e : TypeId) (w0 w : World) (b : Nat) : Prop := Keeps [] w0 w ∧ Blk w b [] e ∧ w0.heap.size ≤ b
def Lit1 (e : TypeId) (w0 w : World) (b b0 : Nat) (ys : List Value) : Prop := Blk w b ys e ∧ w0.heap.size ≤ b ∧ b ≠ b0
theorem GR.of_blk0 {w : World} {b : Nat} (h : Blk w b [] e) : GR F sz w (.slice (some ⟨b, 0, none⟩) 0 0) e [] [b] [] :=
  ⟨[], ⟨by simp, _, 0, rfl, Nat.le_refl _, by simp [maxLen], .inr ⟨b, 0, [], rfl, rfl, h, by simp, by simp⟩⟩, fun k a h => by simp at h, by simp, by simp, by simp⟩
theorem app_of {w0 W w' : World} {v : Value} {l : List α} {b : Nat} {T S : List Nat} (h : Lit0 e w0 W b) (r : GR F sz w' v e l T S) (k : Keeps [b] W w') (s : ∀ x ∈ T, x ∈ [b] ∨ W.heap.size ≤ x) : App F sz e w0 w' v l T S := by
  have hz := h.1.size
  refine ⟨h.1.trans k (fun x hx => ?_), r, fun x hx => ?_⟩
  · simp at hx; subst hx; exact .inr h.2.2
  · rcases s x hx with h1 | h1
    · simp at h1; subst h1; exact h.2.2
    · omega
theorem app_lit {w0 W : World} {b : Nat} (h : Lit0 e w0 W b) : App F sz e w0 W (.slice (some ⟨b, 0, none⟩) 0 0) [] [b] [] :=
  ⟨h.1, GR.of_blk0 h.2.1, fun x hx => by simp at hx; subst hx; exact h.2.2⟩

theorem app_first (EL : Elem P t e sz bytes z) (KE : Kept F) {w0 W : World} {ops : Array Oper} {o : Oper} {a : Act} {K : Act → World → Prop} {Q : Exit → Act → World → Prop} {G : Prop} {s x : Operand}
    {u : Value} {l : List α} {b : Nat} {S : List Nat} (hL : Lit0 e w0 W b) (hu : GV F sz w0 u l S) (hb : l.length * bytes ≤ 140737488355328)
    (hK : ∀ ao cap w' T', App F sz e w0 w' (.slice ao l.length cap) l T' S → K (a.put o.dst (.slice ao l.length cap)) w')
    (hg : o.guard = none := by rfl) (hop : o.op = Op.call { callee := Callee.builtin Builtin.append, args := #[s, x], argTypes := #[t, t] } := by rfl) (hs : a.eval s = .slice (some ⟨b, 0, none⟩) 0 0 := by rfl) (hx : a.eval x = u := by rfl) :
    if Region.wanted o (yielded ops a.tmps) = true then Oper.wp P o a W K Q else G := by
  refine step_gapps EL KE (GR.of_blk0 hL.2.1) (hu.then KE hL.1) (fun y hy hm => ?_) (by simpa using hb) (fun ao cap w' T' r k s => ?_) hg hop hs hx
  · simp at hm; subst hm; have := hu.lt _ hy; have := hL.2.2; omega
  · simp only [List.length_nil, Nat.zero_add, List.nil_append] at r ⊢
    exact hK ao cap w' T' (app_of hL r k s)
theorem app_first2 (EL : Elem P t e sz bytes z) (KE : Kept F) {w0 W : World} {ops : Array Oper} {o : Oper} {a : Act} {K : Act → World → Prop} {Q : Exit → Act → World → Prop} {G : Prop} {s x : Operand}
    {u : Value} {l : List α} {b eb : Nat} {ys : List Value} {c : α} {S U : List Nat} (hL : Lit0 e w0 W b) (hE : Lit1 e w0 W eb b ys) (hu : GV F sz w0 u l S) (he : F w0 ys c U) (hy : ys.length = sz) (h1 : ∀ y ∈ ys, y.oneCell' = true) (hb : l.length * bytes ≤ 140737488355328)
    (hK : ∀ ao cap w' T', (App F sz e w0 w' (.slice ao l.length cap) l T' S ∧ GV F sz w' (.slice (some ⟨eb, 0, none⟩) 1 1) [c] (eb :: U) ∧ ∀ y ∈ eb :: U, y ∉ T') → K (a.put o.dst (.slice ao l.length cap)) w')
    (hg : o.guard = none := by rfl) (hop : o.op = Op.call { callee := Callee.builtin Builtin.append, args := #[s, x], argTypes := #[t, t] } := by rfl) (hs : a.eval s = .slice (some ⟨b, 0, none⟩) 0 0 := by rfl) (hx : a.eval x = u := by rfl) :
    if Region.wanted o (yielded ops a.tmps) = true then Oper.wp P o a W K Q else G := by
  refine step_gapps EL KE (GR.of_blk0 hL.2.1) (hu.then KE hL.1) (fun y hy hm => ?_) (by simpa using hb) (fun ao cap w' T' r k s => ?_) hg hop hs hx
  · simp at hm; subst hm; have := hu.lt _ hy; have := hL.2.2; omega
  · simp only [List.length_nil, Nat.zero_add, List.nil_append] at r ⊢
    have hA := app_of hL r k s
    refine hK ao cap w' T' ⟨hA, GV.unit (hE.1.keep k (by simpa using hE.2.2)) hy (KE.keep he hA.1 (by simp)) (fun x hx => ?_) h1, fun y hy hm => ?_⟩
    · have := KE.lt he x hx; have := hA.1.size; omega
    · rcases List.mem_cons.1 hy with rfl | hy
      · have := hE.1.lt
        rcases s _ hm with h | h
        · simp at h; exact hE.2.2 h
        · omega
      · have := KE.lt he y hy
        have := hA.2.2 y hm
        omega
theorem app_next (EL : Elem P t e sz bytes z) (KE : Kept F) {w0 w : World} {ops : Array Oper} {o : Oper} {a : Act} {K : Act → World → Prop} {Q : Exit → Act → World → Prop} {G : Prop} {s x : Operand}
    {v : Value} {l : List α} {c : α} {ys : List Value} {bx : Nat} {T S U : List Nat} (h : App F sz e w0 w v l T S) (he : F w0 ys c U) (hy : ys.length = sz) (h1 : ∀ y ∈ ys, y.oneCell' = true) (hb : (l.length + 1) * bytes ≤ 140737488355328)
    (hK : ∀ ao cap w' T', App F sz e w0 w' (.slice ao (l.length + 1) cap) (l ++ [c]) T' (S ++ U) → K (a.put o.dst (.slice ao (l.length + 1) cap)) w')
    (hg : o.guard = none := by rfl) (hop : o.op = Op.call { callee := Callee.builtin Builtin.append, args := #[s, x], argTypes := #[t, t] } := by rfl) (hs : a.eval s = v := by rfl) (hx : a.eval x = .slice (some ⟨bx, 0, none⟩) 1 1 := by rfl) (hbx : bx = w.heap.size := by first | rfl | simp) :
    if Region.wanted o (yielded ops a.tmps) = true then Oper.wp P o a (w.alloc (.cells ys.toArray e)) K Q else G :=
  step_gapp1 EL KE h.2.1 (KE.keep he h.1 (by simp)) hy (fun y hy hm => by have := KE.lt he y hy; have := h.2.2 y hm; omega) h1 hb
    (fun ao cap w' T' r k s => hK ao cap w' T' ⟨h.1.trans k (fun x hx => .inr (h.2.2 x hx)), r, fun x hx => by
      have := h.1.size
      rcases s x hx with h2 | h2
      · exact h.2.2 x h2
      · omega⟩) hg hop hs hx hbx
theorem app_next2 (EL : Elem P t e sz bytes z) (KE : Kept F) {w0 w : World} {ops : Array Oper} {o : Oper} {a : Act} {K : Act → World → Prop} {Q : Exit → Act → World → Prop} {G : Prop} {s x : Operand}
    {v u : Value} {l : List α} {c : α} {T S V : List Nat} (h : App F sz e w0 w v l T S ∧ GV F sz w u [c] V ∧ ∀ y ∈ V, y ∉ T) (hb : (l.length + 1) * bytes ≤ 140737488355328)
    (hK : ∀ ao cap w' T', App F sz e w0 w' (.slice ao (l.length + 1) cap) (l ++ [c]) T' (S ++ V) → K (a.put o.dst (.slice ao (l.length + 1) cap)) w')
    (hg : o.guard = none := by rfl) (hop : o.op = Op.call { callee := Callee.builtin Builtin.append, args := #[s, x], argTypes := #[t, t] } := by rfl) (hs : a.eval s = v := by rfl) (hx : a.eval x = u := by rfl) :
    if Region.wanted o (yielded ops a.tmps) = true then Oper.wp P o a w K Q else G :=
  step_gapps EL KE h.1.2.1 h.2.1 h.2.2 hb
    (fun ao cap w' T' r k s => hK ao cap w' T' ⟨h.1.1.trans k (fun x hx => .inr (h.1.2.2 x hx)), r, fun x hx => by
      have := h.1.1.size
      rcases s x hx with h2 | h2
      · exact h.1.2.2 x h2
      · omega⟩) hg hop hs hx
theorem lits (w0 : World) (e : TypeId) (ys : List Value) :
    Lit0 e w0 ((w0.alloc (.cells #[] e)).drew) w0.heap.size ∧
    (Lit0 e w0 (((w0.alloc (.cells #[] e)).alloc (.cells ys.toArray e)).drew) w0.heap.size ∧ Lit1 e w0 (((w0.alloc (.cells #[] e)).alloc (.cells ys.toArray e)).drew) (w0.heap.size + 1) w0.heap.size ys) ∧
    (Lit0 e w0 (((w0.alloc (.cells ys.toArray e)).alloc (.cells #[] e)).drew) (w0.heap.size + 1) ∧ Lit1 e w0 (((w0.alloc (.cells ys.toArray e)).alloc (.cells #[] e)).drew) w0.heap.size (w0.heap.size + 1) ys) := by
  have k1 : Keeps [] w0 (w0.alloc (.cells #[] e)) := (Keeps.refl [] w0).alloc _
  have k2 : Keeps [] w0 (w0.alloc (.cells ys.toArray e)) := (Keeps.refl [] w0).alloc _
  refine ⟨⟨k1.drew, Blk.newAt w0 [] _ _ rfl, Nat.le_refl _⟩, ⟨⟨(k1.alloc _).drew, (Blk.newAt w0 [] _ _ rfl).alloc _, Nat.le_refl _⟩, Blk.newAt _ ys _ _ (by simp), by omega, by omega⟩, ⟨(k2.alloc _).drew, Blk.newAt _ [] _ _ (by simp), by omega⟩, (Blk.newAt w0 ys _ _ rfl).alloc _, Nat.le_refl _, by omega⟩
end

section
variable {α : Type} {F : World → List Value → α → List Nat → Prop} {P : Program} {t e : TypeId} {sz bytes : Nat} {z : Value}
theorem wapp_first (EL : Elem P t e sz bytes z) (KE : Kept F) {w0 W : World} {ops : Array Oper} {rest : List Oper} {o : Oper} {a : Act} {Q : Exit → Act → World → Prop} {s x : Operand}
    {u : Value} {l : List α} {b : Nat} {S : List Nat} (hL : Lit0 e w0 W b) (hu : GV F sz w0 u l S) (hb : l.length * bytes ≤ 140737488355328)
    (hK : ∀ ao cap w' T', App F sz e w0 w' (.slice ao l.length cap) l T' S → wpList P ops Q rest (a.put o.dst (.slice ao l.length cap)) w')
    (hg : o.guard = none := by rfl) (hop : o.op = Op.call { callee := Callee.builtin Builtin.append, args := #[s, x], argTypes := #[t, t] } := by rfl) (hs : a.eval s = .slice (some ⟨b, 0, none⟩) 0 0 := by rfl) (hx : a.eval x = u := by rfl) :
    wpList P ops Q (o :: rest) a W := by
  refine wp_gapps EL KE (GR.of_blk0 hL.2.1) (hu.then KE hL.1) (fun y hy hm => ?_) (by simpa using hb) (fun ao cap w' T' r k s => ?_) hg hop hs hx
  · simp at hm; subst hm; have := hu.lt _ hy; have := hL.2.2; omega
  · simp only [List.length_nil, Nat.zero_add, List.nil_append] at r ⊢
    exact hK ao cap w' T' (app_of hL r k s)
theorem wapp_next (EL : Elem P t e sz bytes z) (KE : Kept F) {w0 w : World} {ops : Array Oper} {rest : List Oper} {o : Oper} {a : Act} {Q : Exit → Act → World → Prop} {s x : Operand}
    {v : Value} {l : List α} {c : α} {ys : List Value} {bx : Nat} {T S U : List Nat} (h : App F sz e w0 w v l T S) (he : F w0 ys c U) (hy : ys.length = sz) (h1 : ∀ y ∈ ys, y.oneCell' = true) (hb : (l.length + 1) * bytes ≤ 140737488355328)
    (hK : ∀ ao cap w' T', App F sz e w0 w' (.slice ao (l.length + 1) cap) (l ++ [c]) T' (S ++ U) → wpList P ops Q rest (a.put o.dst (.slice ao (l.length + 1) cap)) w')
    (hg : o.guard = none := by rfl) (hop : o.op = Op.call { callee := Callee.builtin Builtin.append, args := #[s, x], argTypes := #[t, t] } := by rfl) (hs : a.eval s = v := by rfl) (hx : a.eval x = .slice (some ⟨bx, 0, none⟩) 1 1 := by rfl) (hbx : bx = w.heap.size := by first | rfl | simp) :
    wpList P ops Q (o :: rest) a (w.alloc (.cells ys.toArray e)) :=
  wp_gapp1 EL KE h.2.1 (KE.keep he h.1 (by simp)) hy (fun y hy hm => by have := KE.lt he y hy; have := h.2.2 y hm; omega) h1 hb
    (fun ao cap w' T' r k s => hK ao cap w' T' ⟨h.1.trans k (fun x hx => .inr (h.2.2 x hx)), r, fun x hx => by
      have := h.1.size
      rcases s x hx with h2 | h2
      · exact h.2.2 x h2
      · omega⟩) hg hop hs hx hbx
theorem lit0 (w0 : World) (e : TypeId) : Lit0 e w0 (w0.alloc (.cells #[] e)) w0.heap.size := ⟨(Keeps.refl [] w0).alloc _, Blk.newAt w0 [] _ _ rfl, Nat.le_refl _⟩
end
end Go.Proofs.YtbjnbngpjdoejaaDoor
/- Sub -/
namespace Go.Proofs.YtbjnbngpjdoejaaDoor
set_option linter.unusedVariables false
set_option linter.unusedSimpArgs false
set_option linter.unnecessarySimpa false

section
variable {α : Type} {E : World → List Value → α → List Nat → Prop} {w : World} {l : List α} {S : List Nat}
theorem GV.cap_le {sz : Nat} {ao : Option Addr} {m cap : Nat} (h : GV E sz w (.slice ao m cap) l S) : l.length ≤ cap ∧ cap ≤ maxLen := by
  obtain ⟨xs, T, ⟨_, ao', cap', e, h1, h2, _⟩, _⟩ := h
  simp at e
  obtain ⟨_, rfl, rfl⟩ := e
  exact ⟨h1, h2⟩
theorem GV.tail1 {g off cap : Nat} (h : GV E 1 w (.slice (some ⟨g, off, none⟩) l.length cap) l S) (h0 : 0 < l.length) :
    GV E 1 w (.slice (if cap = 1 then some ⟨g, off, none⟩ else some ⟨g, off + 1, none⟩) (l.length - 1) (cap - 1)) l.tail S := by
  obtain ⟨xs, T, h1, h2, h3, h4, h5⟩ := h
  obtain ⟨hl, ao, cap', e, hnc, hcm, hr⟩ := h1
  simp at e
  obtain ⟨rfl, rfl⟩ := e
  rw [Nat.mul_one] at hl
  have hp : Parts E 1 w xs.tail l.tail S := fun k a hk => by
    rw [List.getElem?_tail] at hk
    obtain ⟨U, u1, u2⟩ := h2 (k + 1) a hk
    refine ⟨U, ?_, u2⟩
    have : chunk xs.tail 1 k = chunk xs 1 (k + 1) := by
      apply List.ext_getElem?
      intro j
      by_cases hj : j < 1
      · rw [chunk_get hj, chunk_get hj, List.getElem?_tail]
        congr 1; omega
      · rw [List.getElem?_eq_none (by unfold chunk; rw [List.length_take]; omega), List.getElem?_eq_none (by unfold chunk; rw [List.length_take]; omega)]
    rw [this]; exact u1
  have hm : ∀ y ∈ xs.tail, y.oneCell' = true := fun y hy => h5 y (List.mem_of_mem_tail hy)
  rcases hr with ⟨hn, _⟩ | ⟨g', off', e2, rfl, hg, hc⟩
  · omega
  obtain ⟨rfl, rfl⟩ := by simpa using e2
  by_cases h1 : cap = 1
  · have hl1 : l.length = 1 := by omega
    refine ⟨xs.tail, [], ⟨by simp [hl], some ⟨g, off, none⟩, cap - 1, by rw [if_pos h1]; simp, by simp; omega, by omega, .inl ⟨by simp; omega, rfl⟩⟩, hp, by simp, h4, hm⟩
  · refine ⟨xs.tail, [g], ⟨by simp [hl], some ⟨g, off + 1, none⟩, cap - 1, by rw [if_neg h1]; simp, by simp; omega, by omega, .inr ⟨g, off + 1, rfl, rfl, hg, fun j hj => ?_⟩⟩, hp, h3, h4, hm⟩
    simp only [List.length_tail] at hj
    rw [show off + 1 + j = off + (j + 1) by omega, hc (j + 1) (by omega), List.getElem?_tail]
theorem GV.first {g off cap : Nat} {x : α} {r : List α} (h : GV E 1 w (.slice (some ⟨g, off, none⟩) l.length cap) l S) (hl : l = x :: r) :
    ∃ c U, w.cell? ⟨g, off, none⟩ = some c ∧ E w [c] x U ∧ (∀ y ∈ U, y ∈ S) ∧ g ∈ S ∧ g < w.heap.size := by
  obtain ⟨g', off', cs, U, e, h1, h2, h3, h4, h5, h6⟩ := h.get (k := 0) (a := x) (by rw [hl]; rfl)
  obtain ⟨rfl, rfl⟩ := by simpa using e
  match cs, h3 with
  | [c], _ => exact ⟨c, U, by have := h4 0 (by omega); simpa using this, h5, h6, h1, h2⟩
end
end Go.Proofs.YtbjnbngpjdoejaaDoor
/- RegL -/
namespace Go.Proofs.YtbjnbngpjdoejaaDoor
set_option linter.unusedVariables false
set_option linter.unusedSimpArgs false
set_option linter.unnecessarySimpa false

section
variable {P : Program} {ops : Array Oper} {Q : Exit → Act → World → Prop} {md : Region.Mode} {S : World → Prop} {m : Nat}
def Goes (P : Program) (md : Region.Mode) (ops : Array Oper) (Q : Exit → Act → World → Prop) (S : World → Prop) (m : Nat) : Nat → Array Bool → Act → World → Prop
  | 0, listed, a, w => Region.ready md ops listed = [] ∧ Q .normal a w
  | n + 1, listed, a, w => (Region.ready md ops listed = [] → Q .normal a w) ∧
    ∀ i ∈ Region.ready md ops listed, wpOp P ops Q i (fun a' w' => (i = m ∨ S w') ∧ Goes P md ops Q S m n (listed.setIfInBounds i true) a' w') a w
theorem Goes.any : ∀ (n : Nat) (listed : Array Bool) (a : Act) (w : World), Goes P md ops Q S m n listed a w → wpAny P md ops Q n listed a w
  | 0, _, _, _, h => h
  | n + 1, _, _, _, h => ⟨h.1, fun i hi => wpOp_mono (fun a' w' h' => Goes.any n _ a' w' h'.2) (h.2 i hi)⟩
def waitsFor (md : Region.Mode) (ops : Array Oper) (m i : Nat) : Bool := match ops[m]? with
  | some o => o.after.any (fun e => e.on == i && Region.binds md e)
  | none => false
theorem not_ready_yet {i : Nat} {oj : Oper} {listed : Array Bool} (hr : i ∈ Region.ready md ops listed) (hall : ∀ e ∈ oj.after, Region.binds md e = true → listed.getD e.on false = true) : ∀ e ∈ oj.after, Region.binds md e = true → e.on ≠ i := fun e he hb heq => by
  have h1 := hall e he hb
  have h0 := (mem_ready.1 hr).1
  rw [heq] at h1
  by_cases hl : i < listed.size
  · simp [hl] at h0 h1
    rw [h0] at h1; cases h1
  · simp [Array.getElem?_eq_none (Nat.le_of_not_lt hl)] at h1
theorem Goes.first {i : Nat} {oi : Oper} {v : Value} (hi : ops[i]? = some oi) (hsel : ∀ (j : Nat) (o : Oper) cs b, ops[j]? = some o → o.op ≠ .select cs b) (hQ : ∀ c a w, Q (.panic c) (a.put oi.dst v) w → Q (.panic c) a w) (hm : waitsFor md ops m i = true) :
    ∀ (n : Nat) (listed : Array Bool) (a : Act) (w : World), (∀ (j : Nat) oj, ops[j]? = some oj → j ≠ i → listed.getD j true = false → (∀ e ∈ oj.after, Region.binds md e = true → e.on ≠ i) → oi.apart ops oj = true) →
      i ∈ Region.ready md ops listed → YieldsIf P ops S oi v a → S w → Goes P md ops Q S m n (listed.setIfInBounds i true) (a.put oi.dst v) w → Goes P md ops Q S m (n + 1) listed a w
  | n, listed, a, w, hfree, hr, hy, hS, H => by
    refine ⟨fun h => (by rw [h] at hr; cases hr), fun j hj => ?_⟩
    by_cases hji : j = i
    · subst hji; exact hy.wpOp hi hS ⟨.inr hS, H⟩
    · cases n with
      | zero =>
        have := ready_mono hj hji
        rw [H.1] at this
        cases this
      | succ n =>
        obtain ⟨hjun, oj, hoj, hall⟩ := mem_ready.1 hj
        have hno := not_ready_yet hr hall
        have hjm : j ≠ m := fun e => by
          subst e
          unfold waitsFor at hm
          rw [hoj] at hm
          obtain ⟨x, hx, hp⟩ := Array.any_eq_true'.1 hm
          simp only [Bool.and_eq_true, beq_iff_eq] at hp
          exact hno x hx hp.2 hp.1
        have h2 := wpOp_putIf hoj (hfree j oj hoj hji hjun hno) (fun cs b => hsel i oi cs b hi) (fun cs b => hsel j oj cs b hoj) hQ hy (H.2 j (ready_mono hj hji))
        have hr2 : i ∈ Region.ready md ops (listed.setIfInBounds j true) := ready_mono hr (Ne.symm hji)
        refine wpOp_mono (fun a' w' h3 => ?_) h2
        have hcomm := Array.setIfInBounds_comm (xs := listed) true true hji
        have h4 : S w' := h3.2.1.resolve_left hjm
        exact ⟨.inr h4, Goes.first hi hsel hQ hm n (listed.setIfInBounds j true) a' w' (fun k ok hk hki hun hno => by
          refine hfree k ok hk hki ?_ hno
          by_cases hjk : j = k
          · subst hjk; exact hjun
          · rw [getD_set_ne true hjk] at hun; exact hun) hr2 h3.1 h4 (by rw [hcomm]; exact h3.2.2)⟩
theorem Goes.take (i : Nat) {oi : Oper} {v : Value} {n : Nat} {listed : Array Bool} {a : Act} {w : World} (hi : ops[i]? = some oi) (hs : Region.noSelect ops = true) (hf : Region.free md ops listed i = true) (hr : (Region.ready md ops listed).contains i = true) (hm : waitsFor md ops m i = true)
    (hQ : ∀ c a w, Q (.panic c) (a.put oi.dst v) w → Q (.panic c) a w) (hS : S w) (hy : YieldsIf P ops S oi v a) (h : Goes P md ops Q S m n (listed.setIfInBounds i true) (a.put oi.dst v) w) : Goes P md ops Q S m (n + 1) listed a w :=
  Goes.first hi (Region.noSelect_spec hs) hQ hm n listed a w (Region.free_spec hi hf) (by simpa using hr) hy hS h
theorem Goes.one (i : Nat) {o : Oper} {n : Nat} {listed : Array Bool} {a : Act} {w : World} (hr : Region.ready md ops listed = [i]) (ho : ops[i]? = some o)
    (h : ∀ K' : Act → World → Prop, Shut (∀ a w, S w → (S w → Goes P md ops Q S m n (listed.setIfInBounds i true) a w) → K' a w) → if Region.wanted o (yielded ops a.tmps) = true then Oper.wp P o a w K' Q else K' (a.put o.dst undef) w) : Goes P md ops Q S m (n + 1) listed a w :=
  ⟨fun h0 => (by rw [hr] at h0; cases h0), fun j hj => by
    rw [hr] at hj
    simp at hj
    subst hj
    exact wpOp_step ho (fun K' hK => h K' (fun a w hS hW => hK a w ⟨.inr hS, hW hS⟩))⟩
theorem Goes.two (i j : Nat) {o p : Oper} {n : Nat} {listed : Array Bool} {a : Act} {w : World} (hr : Region.ready md ops listed = [i, j]) (ho : ops[i]? = some o) (hp : ops[j]? = some p)
    (h : ∀ K' : Act → World → Prop, Shut (∀ a w, S w → (S w → Goes P md ops Q S m n (listed.setIfInBounds i true) a w) → K' a w) → if Region.wanted o (yielded ops a.tmps) = true then Oper.wp P o a w K' Q else K' (a.put o.dst undef) w)
    (h2 : ∀ K' : Act → World → Prop, Shut (∀ a w, S w → (S w → Goes P md ops Q S m n (listed.setIfInBounds j true) a w) → K' a w) → if Region.wanted p (yielded ops a.tmps) = true then Oper.wp P p a w K' Q else K' (a.put p.dst undef) w) : Goes P md ops Q S m (n + 1) listed a w :=
  ⟨fun h0 => (by rw [hr] at h0; cases h0), fun k hk => by
    rw [hr] at hk
    simp at hk
    rcases hk with rfl | rfl
    · exact wpOp_step ho (fun K' hK => h K' (fun a w hS hW => hK a w ⟨.inr hS, hW hS⟩))
    · exact wpOp_step hp (fun K' hK => h2 K' (fun a w hS hW => hK a w ⟨.inr hS, hW hS⟩))⟩
theorem Goes.last {o : Oper} {n : Nat} {listed : Array Bool} {a : Act} {w : World} (hr : Region.ready md ops listed = [m]) (hl : Region.ready md ops (listed.setIfInBounds m true) = []) (ho : ops[m]? = some o)
    (h : ∀ K' : Act → World → Prop, Shut (∀ a w, Q .normal a w → K' a w) → if Region.wanted o (yielded ops a.tmps) = true then Oper.wp P o a w K' Q else K' (a.put o.dst undef) w) : Goes P md ops Q S m (n + 1) listed a w :=
  ⟨fun h0 => (by rw [hr] at h0; cases h0), fun j hj => by
    rw [hr] at hj
    simp at hj
    subst hj
    refine wpOp_step ho (fun K' hK => h K' (fun a w hq => hK a w ⟨.inl rfl, ?_⟩))
    cases n with
    | zero => exact ⟨hl, hq⟩
    | succ n => exact ⟨fun _ => hq, fun k hk => by rw [hl] at hk; cases hk⟩⟩
theorem Goes.begin (S : World → Prop) (m : Nat) {id : Nat} {a : Act} {w : World} (hm : P.follows .mixedOrders = true) (h : Goes P .any ops Q S m ops.size (Array.replicate ops.size false) a w.drew) : (Code.region id ops true).wp P Q a w :=
  wp_region_any hm (Goes.any _ _ _ _ h)
end
end Go.Proofs.YtbjnbngpjdoejaaDoor
/- Nest -/
namespace Go.Proofs.YtbjnbngpjdoejaaDoor
open Go.RowKit
set_option linter.unusedVariables false
set_option linter.unusedSimpArgs false
set_option linter.unnecessarySimpa false

def NR (w : World) (v : Value) (es e : TypeId) (ll : List (List Int)) (T : List Nat) (Us : List (List Nat)) : Prop :=
  ∃ vs : List Value, Row w v es 1 ll.length vs T ∧ Us.length = ll.length ∧
    (∀ (k : Nat) x U l, vs[k]? = some x → Us[k]? = some U → ll[k]? = some l → IR w x e l U) ∧
    (∀ U ∈ Us, ∀ x ∈ U, x ∉ T) ∧ (∀ (i j : Nat) A B, i ≠ j → Us[i]? = some A → Us[j]? = some B → ∀ x ∈ A, x ∉ B)

theorem IR.prefix {w : World} {g off cap : Nat} {e : TypeId} {l : List Int} {S : List Nat} (h : IR w (.slice (some ⟨g, off, none⟩) l.length cap) e l S) (k : Nat) (hk : k ≤ l.length) :
    IR w (.slice (some ⟨g, off, none⟩) k cap) e (l.take k) S := by
  obtain ⟨h0, ao, cap', h1, h2, h3, h4⟩ := h
  obtain ⟨rfl, rfl⟩ := by simpa using h1
  rcases h4 with ⟨h4, _⟩ | ⟨g', off', cur, h4, rfl, hb, hl, hc⟩
  · cases h4
  · obtain ⟨rfl, rfl⟩ := by simpa using h4
    have e : (l.take k).length = k := by simp; omega
    refine ⟨by simp, _, cap, by rw [e], by rw [e]; omega, h3, .inr ⟨g, off, cur, rfl, rfl, hb, hl, fun j hj => ?_⟩⟩
    have hj' : j < k := by simp at hj; omega
    rw [hc j (by simp; omega)]
    simp [hj', List.getElem?_take]

section
variable {w w' : World} {v : Value} {es e : TypeId} {ll : List (List Int)} {T S : List Nat} {Us : List (List Nat)}
theorem NR.shape (h : NR w v es e ll T Us) : ∃ ao cap, v = .slice ao ll.length cap := by
  obtain ⟨vs, h, _⟩ := h; exact h.shape
theorem NR.le (h : NR w v es e ll T Us) : ll.length ≤ maxLen := by
  obtain ⟨vs, h, _⟩ := h; exact h.le
theorem NR.keep (h : NR w v es e ll T Us) (k : Keeps S w w') (h1 : ∀ x ∈ T, x ∉ S) (h2 : ∀ U ∈ Us, ∀ x ∈ U, x ∉ S) : NR w' v es e ll T Us := by
  obtain ⟨vs, hr, hl, hi, hd, hp⟩ := h
  exact ⟨vs, hr.keep k h1, hl, fun j x U l a b c => (hi j x U l a b c).keep k (h2 U (List.mem_of_getElem? b)), hd, hp⟩
theorem NR.then (h : NR w v es e ll T Us) (k : Keeps [] w w') : NR w' v es e ll T Us := h.keep k (by simp) (by simp)
theorem NR.lt (h : NR w v es e ll T Us) : (∀ x ∈ T, x < w.heap.size) ∧ ∀ U ∈ Us, ∀ x ∈ U, x < w.heap.size := by
  obtain ⟨vs, hr, hl, hi, hd, hp⟩ := h
  refine ⟨hr.lt, fun U hU x hx => ?_⟩
  obtain ⟨k, hk⟩ := List.mem_iff_getElem?.1 hU
  have hkl : k < ll.length := by rw [← hl]; exact (List.getElem?_eq_some_iff.1 hk).1
  have hvl : k < vs.length := by rw [hr.len]; omega
  exact (hi k _ U _ (List.getElem?_eq_getElem hvl) hk (List.getElem?_eq_getElem hkl)).lt x hx
theorem NR.get {ao : Option Addr} {m cap : Nat} (h : NR w (.slice ao m cap) es e ll T Us) {k : Nat} {l : List Int} (hk : ll[k]? = some l) :
    ∃ g off x U, ao = some ⟨g, off, none⟩ ∧ T = [g] ∧ g < w.heap.size ∧ w.cell? ⟨g, off + k, none⟩ = some x ∧ w.frozen? ⟨g, off + k, none⟩ = false ∧ IR w x e l U ∧ Us[k]? = some U ∧ g ∉ U := by
  obtain ⟨vs, hr, hl, hi, hd, hp⟩ := h
  have hkl := (List.getElem?_eq_some_iff.1 hk).1
  have hvl : k < vs.length := by rw [hr.len]; omega
  have hul : k < Us.length := by omega
  obtain ⟨g, off, rfl, rfl, hg, hc, hf⟩ := hr.cells (by omega)
  have hx := List.getElem?_eq_getElem hvl
  have hu := List.getElem?_eq_getElem hul
  exact ⟨g, off, _, _, rfl, rfl, hg, (hc k hvl).trans hx, hf k, hi k _ _ _ hx hu hk, hu, fun hm => hd _ (List.mem_of_getElem? hu) g hm (by simp)⟩
theorem NR.put {g off m cap : Nat} (h : NR w (.slice (some ⟨g, off, none⟩) m cap) es e ll T Us) {k : Nat} {l l' : List Int} {U U' : List Nat} {x' : Value} (hk : ll[k]? = some l) (hU : Us[k]? = some U)
    (kp : Keeps U w w') (hr' : IR w' x' e l' U') (hn : ∀ x ∈ U', x ∈ U ∨ w.heap.size ≤ x) :
    NR (w'.setCell ⟨g, off + k, none⟩ x') (.slice (some ⟨g, off, none⟩) m cap) es e (ll.set k l') T (Us.set k U') ∧ Keeps (T ++ U) w (w'.setCell ⟨g, off + k, none⟩ x') := by
  have hlt := NR.lt h
  obtain ⟨vs, hr, hl, hi, hd, hp⟩ := h
  have hkl := (List.getElem?_eq_some_iff.1 hk).1
  have hvl : k < vs.length := by rw [hr.len]; omega
  have hTU : ∀ x ∈ T, x ∉ U := fun x hx hu => hd U (List.mem_of_getElem? hU) x hu hx
  have hr2 := hr.keep kp hTU
  obtain ⟨hs, hks⟩ := hr2.stored k hvl x'
  have hTU' : ∀ x ∈ U', x ∉ T := fun x hx ht => by
    rcases hn x hx with h | h
    · exact hTU x ht h
    · have := hlt.1 x ht; omega
  have hother : ∀ (j : Nat) B, j ≠ k → Us[j]? = some B → ∀ x ∈ B, x ∉ U' := fun j B hj hB x hx hx' => by
    rcases hn x hx' with h | h
    · exact hp j k B U hj hB hU x hx h
    · have := hlt.2 B (List.mem_of_getElem? hB) x hx; omega
  refine ⟨⟨vs.set k x', by rw [List.length_set]; exact hs, by simp [hl], ?_, ?_, ?_⟩, ?_⟩
  · intro j x A l2 a b c
    by_cases hj : k = j
    · subst hj
      rw [List.getElem?_set_self hvl] at a
      rw [List.getElem?_set_self (by omega)] at b c
      cases a; cases b; cases c
      exact hr'.keep hks hTU'
    · rw [List.getElem?_set_ne hj] at a b c
      exact ((hi j x A l2 a b c).keep kp (fun x hx => hp j k A U (fun e => hj e.symm) b hU x hx)).keep hks (fun x hx => hd A (List.mem_of_getElem? b) x hx)
  · intro A hA x hx
    rcases List.mem_or_eq_of_mem_set hA with h | rfl
    · exact hd A h x hx
    · exact hTU' x hx
  · intro i j A B hij hA hB x hx hxB
    by_cases hi' : k = i
    · subst hi'
      rw [List.getElem?_set_self (by omega)] at hA
      cases hA
      rw [List.getElem?_set_ne hij] at hB
      exact hother j B (fun e => hij e.symm) hB x hxB hx
    · rw [List.getElem?_set_ne hi'] at hA
      by_cases hj' : k = j
      · subst hj'
        rw [List.getElem?_set_self (by omega)] at hB
        cases hB
        exact hother i A (fun e => hi' e.symm) hA x hx hxB
      · rw [List.getElem?_set_ne hj'] at hB
        exact hp i j A B hij hA hB x hx hxB
  · exact (kp.mono (T := T ++ U) (fun x hx => by simp [hx])).trans (hks.mono (T := T ++ U) (fun x hx => by simp [hx])) (fun x hx => .inl hx)
end
end Go.Proofs.YtbjnbngpjdoejaaDoor
/- Raw -/
namespace Go.Proofs.YtbjnbngpjdoejaaDoor
open Go.RowKit
set_option linter.unusedVariables false
set_option linter.unusedSimpArgs false
set_option linter.unnecessarySimpa false
def rawE (w : World) (cs : List Value) (n : Int) (U : List Nat) : Prop := cs = [.int .i64 n] ∧ U = []
theorem rawE_kept : Kept rawE := ⟨fun h _ _ => h, fun h x hx => by obtain ⟨_, rfl⟩ := h; simp at hx⟩
def rawsE : World → List Value → List Int → List Nat → Prop := rowE rawE 1
theorem rawsE_kept : Kept rawsE := rowE_kept rawE_kept
theorem IV.raw {w : World} {v : Value} {l : List Int} {S : List Nat} (h : IV w v l S) : GV rawE 1 w v l S := by
  refine ⟨l.map (Value.int .i64), S, h, fun k a hk => ⟨[], ?_, by simp⟩, fun x hx => hx, h.lt, oc_ints l⟩
  have hkl := (List.getElem?_eq_some_iff.1 hk).1
  refine ⟨?_, rfl⟩
  apply List.ext_getElem?
  intro j
  by_cases hj : j < 1
  · rw [chunk_get hj, Nat.mul_one]
    obtain rfl : j = 0 := by omega
    simp [hk]
  · rw [List.getElem?_eq_none (by unfold chunk; rw [List.length_take]; omega), List.getElem?_eq_none (by simp; omega)]
theorem GV.rawIv {w : World} {v : Value} {l : List Int} {S : List Nat} (h : GV rawE 1 w v l S) : ∃ T, IV w v l T ∧ ∀ x ∈ T, x ∈ S := by
  obtain ⟨xs, T, h1, h2, h3, h4, h5⟩ := h
  have hl := h1.len
  have e : xs = l.map (Value.int .i64) := by
    apply List.ext_getElem?
    intro k
    by_cases hk : k < l.length
    · obtain ⟨U, ⟨hc, _⟩, _⟩ := h2 k _ (List.getElem?_eq_getElem hk)
      have hg := chunk_get (xs := xs) (sz := 1) (k := k) (j := 0) (by omega)
      rw [hc, Nat.mul_one, Nat.add_zero] at hg
      rw [← hg]; simp [hk]
    · rw [List.getElem?_eq_none (by omega), List.getElem?_eq_none (by simp; omega)]
  exact ⟨T, (by unfold IV; rw [← e]; exact h1), h3⟩
end Go.Proofs.YtbjnbngpjdoejaaDoor
