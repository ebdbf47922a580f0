/-
  Plain data, and how they lie in memory: one predicate for all types; resources that a function owns.
  Conditions: none; nothing of the program stands here.
-/
import Derived.Test.YtgjpdogjekmemaaDoorCore
namespace Go.Proofs.YtgjpdogjekmemaaDoor
open Go.RowKit
set_option linter.unusedVariables false
set_option linter.unusedSimpArgs false
set_option linter.unnecessarySimpa false

namespace Fl
/-- what one cell holds: a value, or a slice that is read (sz cells for each element) -/
inductive A where
  | v (x : Value)
  | r (sz : Nat) (l : List (List A))
mutual
def RA (ok : Nat → Prop) (w : World) : A → Value → Prop
  | .v y, x => x = y ∧ y.oneCell' = true
  | .r sz l, x => ∃ ao cap, x = .slice ao l.length cap ∧ l.length ≤ cap ∧ cap ≤ maxLen ∧ (l = [] ∨ ∃ g off, ao = some ⟨g, off, none⟩ ∧ ok g ∧ g < w.heap.size ∧ RL ok w l g off sz)
def RL (ok : Nat → Prop) (w : World) : List (List A) → Nat → Nat → Nat → Prop
  | [], _, _, _ => True
  | cs :: l, g, off, sz => (∃ vs : List Value, vs.length = sz ∧ w.rangeAt g off vs ∧ RC ok w cs vs) ∧ RL ok w l g (off + sz) sz
def RC (ok : Nat → Prop) (w : World) : List A → List Value → Prop
  | [], vs => vs = []
  | a :: cs, vs => ∃ x xs, vs = x :: xs ∧ RA ok w a x ∧ RC ok w cs xs
end

/-- w' has what w has in the blocks that are ok -/
def Mon (ok ok' : Nat → Prop) (w w' : World) : Prop := w.heap.size ≤ w'.heap.size ∧ ∀ g, g < w.heap.size → ok g → ok' g ∧ w'.heap[g]? = w.heap[g]?
theorem Mon.refl (ok : Nat → Prop) (w : World) : Mon ok ok w w := ⟨Nat.le_refl _, fun g _ h => ⟨h, rfl⟩⟩
theorem Mon.trans {a b c : Nat → Prop} {w w' w'' : World} (h : Mon a b w w') (k : Mon b c w' w'') : Mon a c w w'' :=
  ⟨Nat.le_trans h.1 k.1, fun g hg ho => by
    obtain ⟨h1, h2⟩ := h.2 g hg ho
    obtain ⟨k1, k2⟩ := k.2 g (Nat.lt_of_lt_of_le hg h.1) h1
    exact ⟨k1, k2.trans h2⟩⟩
theorem Mon.of_keeps {ok ok' : Nat → Prop} {S : List Nat} {w w' : World} (k : Keeps S w w') (h : ∀ g, g < w.heap.size → ok g → ok' g ∧ g ∉ S) : Mon ok ok' w w' :=
  ⟨k.size, fun g hg ho => ⟨(h g hg ho).1, k.block g hg (h g hg ho).2⟩⟩
theorem rangeAt_of_block {w w' : World} {g off : Nat} {vs : List Value} (h : w.rangeAt g off vs) (e : w'.heap[g]? = w.heap[g]?) : w'.rangeAt g off vs := fun j v hj => by
  rw [World.cell?_of_block (w := w) e]; exact h j v hj
mutual
theorem RA.mon {ok ok' : Nat → Prop} {w w' : World} (m : Mon ok ok' w w') : ∀ (a : A) (x : Value), RA ok w a x → RA ok' w' a x
  | .v y, x, h => by unfold RA at h ⊢; exact h
  | .r sz l, x, h => by
    unfold RA at h ⊢
    obtain ⟨ao, cap, h1, h2, h3, h4⟩ := h
    refine ⟨ao, cap, h1, h2, h3, ?_⟩
    rcases h4 with h4 | ⟨g, off, h4, h5, h6, h7⟩
    · exact .inl h4
    · exact .inr ⟨g, off, h4, (m.2 g h6 h5).1, Nat.lt_of_lt_of_le h6 m.1, RL.mon m l g off sz (m.2 g h6 h5).2 h7⟩
theorem RL.mon {ok ok' : Nat → Prop} {w w' : World} (m : Mon ok ok' w w') : ∀ (l : List (List A)) (g off sz : Nat), w'.heap[g]? = w.heap[g]? → RL ok w l g off sz → RL ok' w' l g off sz
  | [], _, _, _, _, _ => by unfold RL; trivial
  | cs :: l, g, off, sz, e, h => by
    unfold RL at h ⊢
    obtain ⟨⟨vs, h1, h2, h3⟩, h4⟩ := h
    exact ⟨⟨vs, h1, rangeAt_of_block h2 e, RC.mon m cs vs h3⟩, RL.mon m l g (off + sz) sz e h4⟩
theorem RC.mon {ok ok' : Nat → Prop} {w w' : World} (m : Mon ok ok' w w') : ∀ (cs : List A) (vs : List Value), RC ok w cs vs → RC ok' w' cs vs
  | [], vs, h => by unfold RC at h ⊢; exact h
  | a :: cs, vs, h => by
    unfold RC at h ⊢
    obtain ⟨x, xs, h1, h2, h3⟩ := h
    exact ⟨x, xs, h1, RA.mon m a x h2, RC.mon m cs xs h3⟩
end
section
variable {ok : Nat → Prop} {w : World}
theorem RA.one {a : A} {x : Value} (h : RA ok w a x) : x.oneCell' = true := by
  cases a with
  | v y => unfold RA at h; obtain ⟨rfl, h⟩ := h; exact h
  | r sz l => unfold RA at h; obtain ⟨ao, cap, rfl, _⟩ := h; rfl
theorem RC.len : ∀ {cs : List A} {vs : List Value}, RC ok w cs vs → vs.length = cs.length
  | [], vs, h => by unfold RC at h; simp [h]
  | a :: cs, vs, h => by unfold RC at h; obtain ⟨x, xs, rfl, _, h⟩ := h; simp [RC.len h]
theorem RC.one : ∀ {cs : List A} {vs : List Value}, RC ok w cs vs → ∀ v ∈ vs, v.oneCell' = true
  | [], vs, h => by unfold RC at h; simp [h]
  | a :: cs, vs, h => by
    unfold RC at h; obtain ⟨x, xs, rfl, h1, h⟩ := h
    intro v hv
    rcases List.mem_cons.1 hv with rfl | hv
    · exact h1.one
    · exact h.one v hv
theorem RC.nil : RC ok w [] [] := by unfold RC; rfl
theorem RC.cons {a : A} {x : Value} {cs : List A} {xs : List Value} (h : RA ok w a x) (k : RC ok w cs xs) : RC ok w (a :: cs) (x :: xs) := by unfold RC; exact ⟨x, xs, rfl, h, k⟩
theorem RC.get : ∀ {cs : List A} {vs : List Value} (k : Nat) {a : A}, RC ok w cs vs → cs[k]? = some a → ∃ x, vs[k]? = some x ∧ RA ok w a x
  | [], vs, k, a, h, e => by simp at e
  | b :: cs, vs, 0, a, h, e => by
    unfold RC at h; obtain ⟨x, xs, rfl, h1, h⟩ := h
    simp at e; subst e; exact ⟨x, rfl, h1⟩
  | b :: cs, vs, k + 1, a, h, e => by
    unfold RC at h; obtain ⟨x, xs, rfl, h1, h⟩ := h
    simp at e; simpa using RC.get k h e
theorem RC.set : ∀ {cs : List A} {vs : List Value} (k : Nat) {a : A} {x : Value}, RC ok w cs vs → RA ok w a x → RC ok w (cs.set k a) (vs.set k x)
  | [], vs, k, a, x, h, e => by unfold RC at h; subst h; simp [RC.nil]
  | b :: cs, vs, 0, a, x, h, e => by
    unfold RC at h; obtain ⟨y, ys, rfl, h1, h⟩ := h
    exact RC.cons e h
  | b :: cs, vs, k + 1, a, x, h, e => by
    unfold RC at h; obtain ⟨y, ys, rfl, h1, h⟩ := h
    exact RC.cons h1 (RC.set k h e)
theorem RC.app : ∀ {cs ds : List A} {vs us : List Value}, RC ok w cs vs → RC ok w ds us → RC ok w (cs ++ ds) (vs ++ us)
  | [], ds, vs, us, h, k => by unfold RC at h; subst h; exact k
  | a :: cs, ds, vs, us, h, k => by
    unfold RC at h; obtain ⟨x, xs, rfl, h1, h⟩ := h
    exact RC.cons h1 (RC.app h k)
theorem RC.drop : ∀ (n : Nat) {cs : List A} {vs : List Value}, RC ok w cs vs → RC ok w (cs.drop n) (vs.drop n)
  | 0, cs, vs, h => h
  | n + 1, [], vs, h => by unfold RC at h; subst h; exact RC.nil
  | n + 1, a :: cs, vs, h => by
    unfold RC at h; obtain ⟨x, xs, rfl, h1, h⟩ := h
    exact RC.drop n h
theorem RC.take : ∀ (n : Nat) {cs : List A} {vs : List Value}, RC ok w cs vs → RC ok w (cs.take n) (vs.take n)
  | 0, cs, vs, h => by simpa using RC.nil
  | n + 1, [], vs, h => by unfold RC at h; subst h; exact RC.nil
  | n + 1, a :: cs, vs, h => by
    unfold RC at h; obtain ⟨x, xs, rfl, h1, h⟩ := h
    exact RC.cons h1 (RC.take n h)
/-- element k of a slice that is read -/
theorem RL.get : ∀ {l : List (List A)} {g off sz : Nat} (k : Nat) {cs : List A}, RL ok w l g off sz → l[k]? = some cs → ∃ vs : List Value, vs.length = sz ∧ w.rangeAt g (off + k * sz) vs ∧ RC ok w cs vs
  | [], g, off, sz, k, cs, h, e => by simp at e
  | c :: l, g, off, sz, 0, cs, h, e => by
    unfold RL at h; simp at e; subst e
    simpa using h.1
  | c :: l, g, off, sz, k + 1, cs, h, e => by
    unfold RL at h; simp at e
    have := RL.get k h.2 e
    rw [show off + (k + 1) * sz = off + sz + k * sz by rw [Nat.add_mul]; omega]
    exact this
theorem RL.drop : ∀ {l : List (List A)} {g off sz : Nat} (n : Nat), RL ok w l g off sz → RL ok w (l.drop n) g (off + n * sz) sz
  | l, g, off, sz, 0, h => by simpa using h
  | [], g, off, sz, n + 1, h => by simp; unfold RL; trivial
  | c :: l, g, off, sz, n + 1, h => by
    unfold RL at h
    have := RL.drop n h.2
    rw [show off + (n + 1) * sz = off + sz + n * sz by rw [Nat.add_mul]; omega]
    exact this
theorem RL.take : ∀ {l : List (List A)} {g off sz : Nat} (n : Nat), RL ok w l g off sz → RL ok w (l.take n) g off sz
  | l, g, off, sz, 0, h => by simp; unfold RL; trivial
  | [], g, off, sz, n + 1, h => by simp; unfold RL; trivial
  | c :: l, g, off, sz, n + 1, h => by
    unfold RL at h
    simp only [List.take_succ_cons]
    unfold RL
    exact ⟨h.1, RL.take n h.2⟩
end

/-- what a slot holds -/
inductive D where
  | c (a : A)
  | agg (cs : List A)
  | tup (l : List D)
  | el (cs : List A) (o : Nat)
  | ow (v : Value) (sz k o : Nat)
  | any
mutual
def RD (ok : Nat → Prop) (w : World) : D → Value → Prop
  | .c a, x => RA ok w a x
  | .agg cs, x => ∃ vs : List Value, x = .agg vs.toArray ∧ RC ok w cs vs
  | .tup l, x => ∃ vs : List Value, x = .tuple vs.toArray ∧ RDs ok w l vs
  | .el cs o, x => ∃ g off, ∃ vs : List Value, x = .pointer (some ⟨g, off + o, none⟩) ∧ ok g ∧ g < w.heap.size ∧ w.rangeAt g off vs ∧ RC ok w cs vs
  | .ow v sz k o, x => ∃ g off n cap, v = .slice (some ⟨g, off, none⟩) n cap ∧ x = .pointer (some ⟨g, off + k * sz + o, none⟩)
  | .any, _ => True
def RDs (ok : Nat → Prop) (w : World) : List D → List Value → Prop
  | [], vs => vs = []
  | d :: l, vs => ∃ x xs, vs = x :: xs ∧ RD ok w d x ∧ RDs ok w l xs
end
mutual
theorem RD.mon {ok ok' : Nat → Prop} {w w' : World} (m : Mon ok ok' w w') : ∀ (d : D) (x : Value), RD ok w d x → RD ok' w' d x
  | .c a, x, h => by unfold RD at h ⊢; exact RA.mon m a x h
  | .agg cs, x, h => by unfold RD at h ⊢; obtain ⟨vs, h1, h2⟩ := h; exact ⟨vs, h1, RC.mon m cs vs h2⟩
  | .tup l, x, h => by unfold RD at h ⊢; obtain ⟨vs, h1, h2⟩ := h; exact ⟨vs, h1, RDs.mon m l vs h2⟩
  | .el cs o, x, h => by
    unfold RD at h ⊢
    obtain ⟨g, off, vs, h1, h2, h3, h4, h5⟩ := h
    exact ⟨g, off, vs, h1, (m.2 g h3 h2).1, Nat.lt_of_lt_of_le h3 m.1, rangeAt_of_block h4 (m.2 g h3 h2).2, RC.mon m cs vs h5⟩
  | .ow v sz k o, x, h => by unfold RD at h ⊢; exact h
  | .any, x, h => by unfold RD; trivial
theorem RDs.mon {ok ok' : Nat → Prop} {w w' : World} (m : Mon ok ok' w w') : ∀ (l : List D) (vs : List Value), RDs ok w l vs → RDs ok' w' l vs
  | [], vs, h => by unfold RDs at h ⊢; exact h
  | d :: l, vs, h => by
    unfold RDs at h ⊢
    obtain ⟨x, xs, h1, h2, h3⟩ := h
    exact ⟨x, xs, h1, RD.mon m d x h2, RDs.mon m l xs h3⟩
end
theorem RDs.nil {ok : Nat → Prop} {w : World} : RDs ok w [] [] := by unfold RDs; rfl
theorem RDs.cons {ok : Nat → Prop} {w : World} {d : D} {x : Value} {l : List D} {xs : List Value} (h : RD ok w d x) (k : RDs ok w l xs) : RDs ok w (d :: l) (x :: xs) := by unfold RDs; exact ⟨x, xs, rfl, h, k⟩
theorem RDs.len {ok : Nat → Prop} {w : World} : ∀ {l : List D} {vs : List Value}, RDs ok w l vs → vs.length = l.length
  | [], vs, h => by unfold RDs at h; simp [h]
  | a :: cs, vs, h => by unfold RDs at h; obtain ⟨x, xs, rfl, _, h⟩ := h; simp [RDs.len h]
theorem RDs.get {ok : Nat → Prop} {w : World} : ∀ {l : List D} {vs : List Value} (k : Nat) {d : D}, RDs ok w l vs → l[k]? = some d → ∃ x, vs[k]? = some x ∧ RD ok w d x
  | [], vs, k, a, h, e => by simp at e
  | b :: cs, vs, 0, a, h, e => by
    unfold RDs at h; obtain ⟨x, xs, rfl, h1, h⟩ := h
    simp at e; subst e; exact ⟨x, rfl, h1⟩
  | b :: cs, vs, k + 1, a, h, e => by
    unfold RDs at h; obtain ⟨x, xs, rfl, h1, h⟩ := h
    simp at e; simpa using RDs.get k h e

/-- the block of a slice -/
def vfoot : Value → List Nat
  | .slice (some a) _ _ => [a.block]
  | _ => []
/-- the cells of an owned row -/
def RX (ok : Nat → Prop) (w : World) (sz : Nat) : List (List A) → List Value → Prop
  | [], xs => xs = []
  | cs :: l, xs => ∃ vs ys, xs = vs ++ ys ∧ vs.length = sz ∧ RC ok w cs vs ∧ RX ok w sz l ys
/-- what a function owns: a block known whole, a row of elements, or some blocks of which something is known -/
inductive Res where
  | box (b : Nat) (t : TypeId) (cs : List A)
  | row (v : Value) (e : TypeId) (sz : Nat) (l : List (List A))
  | obj (T : List Nat) (Φ : World → Prop)
def Res.foot : Res → List Nat
  | .box b _ _ => [b]
  | .row v _ _ _ => vfoot v
  | .obj T _ => T
def Res.holds (ok : Nat → Prop) (w : World) : Res → Prop
  | .box b t cs => ∃ vs, Blk w b vs t ∧ RC ok w cs vs
  | .row v e sz l => ∃ xs, Row w v e sz l.length xs (vfoot v) ∧ RX ok w sz l xs
  | .obj T Φ => (∀ x ∈ T, x < w.heap.size) ∧ ∀ w' S, Keeps S w w' → (∀ x ∈ T, x ∉ S) → Φ w'
theorem RX.mon {ok ok' : Nat → Prop} {w w' : World} (m : Mon ok ok' w w') {sz : Nat} : ∀ (l : List (List A)) (xs : List Value), RX ok w sz l xs → RX ok' w' sz l xs
  | [], xs, h => h
  | cs :: l, xs, h => by
    obtain ⟨vs, ys, h1, h2, h3, h4⟩ := h
    exact ⟨vs, ys, h1, h2, RC.mon m cs vs h3, RX.mon m l ys h4⟩
theorem RX.one {ok : Nat → Prop} {w : World} {sz : Nat} : ∀ {l : List (List A)} {xs : List Value}, RX ok w sz l xs → ∀ v ∈ xs, v.oneCell' = true
  | [], xs, h => by unfold RX at h; simp [h]
  | cs :: l, xs, h => by
    obtain ⟨vs, ys, rfl, h2, h3, h4⟩ := h
    intro v hv
    rcases List.mem_append.1 hv with hv | hv
    · exact h3.one v hv
    · exact h4.one v hv
theorem RX.app {ok : Nat → Prop} {w : World} {sz : Nat} : ∀ {l m : List (List A)} {xs ys : List Value}, RX ok w sz l xs → RX ok w sz m ys → RX ok w sz (l ++ m) (xs ++ ys)
  | [], m, xs, ys, h, k => by unfold RX at h; subst h; exact k
  | cs :: l, m, xs, ys, h, k => by
    obtain ⟨vs, us, rfl, h2, h3, h4⟩ := h
    exact ⟨vs, us ++ ys, by simp, h2, h3, RX.app h4 k⟩
theorem RX.len {ok : Nat → Prop} {w : World} {sz : Nat} : ∀ {l : List (List A)} {xs : List Value}, RX ok w sz l xs → xs.length = l.length * sz
  | [], xs, h => by unfold RX at h; simp [h]
  | cs :: l, xs, h => by
    obtain ⟨vs, us, rfl, h2, h3, h4⟩ := h
    have := RX.len h4
    simp [this, h2, Nat.add_mul, Nat.add_comm]
/-- element k of an owned row -/
theorem RX.get {ok : Nat → Prop} {w : World} {sz : Nat} : ∀ {l : List (List A)} {xs : List Value} (k : Nat) {cs : List A}, RX ok w sz l xs → l[k]? = some cs → ∃ vs : List Value, vs.length = sz ∧ (∀ j, j < sz → xs[k * sz + j]? = vs[j]?) ∧ RC ok w cs vs
  | [], xs, k, cs, h, e => by simp at e
  | c :: l, xs, 0, cs, h, e => by
    obtain ⟨vs, ys, rfl, h2, h3, h4⟩ := h
    simp at e; subst e
    exact ⟨vs, h2, fun j hj => by rw [Nat.zero_mul, Nat.zero_add, List.getElem?_append_left (by omega)], h3⟩
  | c :: l, xs, k + 1, cs, h, e => by
    obtain ⟨vs, ys, rfl, h2, h3, h4⟩ := h
    simp at e
    obtain ⟨us, g1, g2, g3⟩ := RX.get k h4 e
    exact ⟨us, g1, fun j hj => by
      rw [← g2 j hj, List.getElem?_append_right (by rw [h2, Nat.add_mul]; omega), h2]
      congr 1; rw [Nat.add_mul]; omega, g3⟩
/-- cell o of element k of an owned row is another one -/
theorem RX.set {ok : Nat → Prop} {w : World} {sz : Nat} : ∀ {l : List (List A)} {xs : List Value} (k o : Nat) {cs : List A} {a : A} {x : Value}, RX ok w sz l xs → l[k]? = some cs → o < sz → RA ok w a x → RX ok w sz (l.set k (cs.set o a)) (xs.set (k * sz + o) x)
  | [], xs, k, o, cs, a, x, h, e, ho, ha => by simp at e
  | c :: l, xs, 0, o, cs, a, x, h, e, ho, ha => by
    obtain ⟨vs, ys, rfl, h2, h3, h4⟩ := h
    simp at e; subst e
    refine ⟨vs.set o x, ys, ?_, by simpa using h2, RC.set o h3 ha, h4⟩
    rw [Nat.zero_mul, Nat.zero_add, List.set_append_left _ _ (by omega)]
  | c :: l, xs, k + 1, o, cs, a, x, h, e, ho, ha => by
    obtain ⟨vs, ys, rfl, h2, h3, h4⟩ := h
    simp at e
    refine ⟨vs, ys.set (k * sz + o) x, ?_, h2, h3, RX.set k o h4 e ho ha⟩
    rw [List.set_append_right _ _ (by rw [h2, Nat.add_mul]; omega), h2]
    congr 2; rw [Nat.add_mul]; omega
theorem Res.holds.mon {ok ok' : Nat → Prop} {w w' : World} {S : List Nat} (k : Keeps S w w') (m : Mon ok ok' w w') : ∀ {r : Res}, r.holds ok w → (∀ x ∈ r.foot, x ∉ S) → r.holds ok' w'
  | .box b t cs, h, hn => by
    obtain ⟨vs, h1, h2⟩ := h
    exact ⟨vs, h1.keep k (hn b (by simp [Res.foot])), RC.mon m cs vs h2⟩
  | .row v e sz l, h, hn => by
    obtain ⟨xs, h1, h2⟩ := h
    exact ⟨xs, h1.keep k hn, RX.mon m l xs h2⟩
  | .obj T Φ, h, hn => by
    exact ⟨fun x hx => Nat.lt_of_lt_of_le (h.1 x hx) k.size, fun w'' S' k' hS' => h.2 w'' (S ++ S') ((k.mono (fun x hx => .inl (List.mem_append_left S' hx))).trans k' (fun x hx => .inl (List.mem_append_right S hx))) (fun x hx hm => by
      rcases List.mem_append.1 hm with hm | hm
      · exact hn x hx hm
      · exact hS' x hx hm)⟩
theorem Res.holds.lt {ok : Nat → Prop} {w : World} : ∀ {r : Res}, r.holds ok w → ∀ x ∈ r.foot, x < w.heap.size
  | .box b t cs, h, x, hx => by
    obtain ⟨vs, h1, h2⟩ := h
    simp [Res.foot] at hx; subst hx; exact h1.lt
  | .row v e sz l, h, x, hx => by obtain ⟨xs, h1, h2⟩ := h; exact h1.lt x hx
  | .obj T Φ, h, x, hx => h.1 x hx
def foots (L : List Res) : List Nat := L.flatMap Res.foot
theorem mem_foots {L : List Res} {x : Nat} : x ∈ foots L ↔ ∃ r ∈ L, x ∈ r.foot := by simp [foots]
end Fl
end Go.Proofs.YtgjpdogjekmemaaDoor
