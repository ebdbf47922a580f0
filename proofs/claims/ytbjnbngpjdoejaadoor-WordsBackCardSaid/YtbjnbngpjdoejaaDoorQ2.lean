/-
  Texts Fla Rnd Flb of this claim, put together: what they show stands at their heads.
  Conditions: none but those that each theorem states.
-/
import Derived.Test.YtbjnbngpjdoejaaDoorQ1
import Derived.RangeFuncIn
import Derived.OrdersIn
import Derived.TacticsIn
import Derived.AtR
namespace Go.Proofs.YtbjnbngpjdoejaaDoor
open Go.RowKit
set_option linter.unusedVariables false
set_option linter.unusedSimpArgs false
set_option linter.unnecessarySimpa false

namespace Fl
inductive A where
  | v (x : Value)
  | r (sz : Nat) (l : List (List A))
mutual
def RA (ok : Nat → Prop) (w : World) : A → Value → Prop
  | .v y, x => x = y ∧ y.oneCell' = true
  | .r sz l, x => ∃ ao cap, x = .slice ao l.length cap ∧ l.length ≤ cap ∧ cap ≤ maxLen ∧ (l = [] ∨ ∃ g off, ao = some ⟨g, off, none⟩ ∧ ok g ∧ g < w.heap.size ∧ RL ok w l g off sz)
def RL (ok : Nat → Prop) (w : World) : List (List A) → Nat → Nat → Nat → Prop
  | [], _, _, _ => True
  | cs :: l, g, off, sz => (∃ vs : List Value, vs.length = sz ∧ w.rangeAt g off vs ∧ RC ok w cs vs) ∧ RL ok w l g (off + sz) sz
def RC (ok : Nat → Prop) (w : World) : List A → List Value → Prop
  | [], vs => vs = []
  | a :: cs, vs => ∃ x xs, vs = x :: xs ∧ RA ok w a x ∧ RC ok w cs xs
end

def Mon (ok ok' : Nat → Prop) (w w' : World) : Prop := w.heap.size ≤ w'.heap.size ∧ ∀ g, g < w.heap.size → ok g → ok' g ∧ w'.heap[g]? = w.heap[g]?
theorem Mon.refl (ok : Nat → Prop) (w : World) : Mon ok ok w w := ⟨Nat.le_refl _, fun g _ h => ⟨h, rfl⟩⟩
theorem Mon.trans {a b c : Nat → Prop} {w w' w'' : World} (h : Mon a b w w') (k : Mon b c w' w'') : Mon a c w w'' :=
  ⟨Nat.le_trans h.1 k.1, fun g hg ho => by
    obtain ⟨h1, h2⟩ := h.2 g hg ho
    obtain ⟨k1, k2⟩ := k.2 g (Nat.lt_of_lt_of_le hg h.1) h1
    exact ⟨k1, k2.trans h2⟩⟩
theorem Mon.of_keeps {ok ok' : Nat → Prop} {S : List Nat} {w w' : World} (k : Keeps S w w') (h : ∀ g, g < w.heap.size → ok g → ok' g ∧ g ∉ S) : Mon ok ok' w w' :=
  ⟨k.size, fun g hg ho => ⟨(h g hg ho).1, k.block g hg (h g hg ho).2⟩⟩
theorem rangeAt_of_block {w w' : World} {g off : Nat} {vs : List Value} (h : w.rangeAt g off vs) (e : w'.heap[g]? = w.heap[g]?) : w'.rangeAt g off vs := fun j v hj => by
  rw [World.cell?_of_block (w := w) e]; exact h j v hj
mutual
theorem RA.mon {ok ok' : Nat → Prop} {w w' : World} (m : Mon ok ok' w w') : ∀ (a : A) (x : Value), RA ok w a x → RA ok' w' a x
  | .v y, x, h => by unfold RA at h ⊢; exact h
  | .r sz l, x, h => by
    unfold RA at h ⊢
    obtain ⟨ao, cap, h1, h2, h3, h4⟩ := h
    refine ⟨ao, cap, h1, h2, h3, ?_⟩
    rcases h4 with h4 | ⟨g, off, h4, h5, h6, h7⟩
    · exact .inl h4
    · exact .inr ⟨g, off, h4, (m.2 g h6 h5).1, Nat.lt_of_lt_of_le h6 m.1, RL.mon m l g off sz (m.2 g h6 h5).2 h7⟩
theorem RL.mon {ok ok' : Nat → Prop} {w w' : World} (m : Mon ok ok' w w') : ∀ (l : List (List A)) (g off sz : Nat), w'.heap[g]? = w.heap[g]? → RL ok w l g off sz → RL ok' w' l g off sz
  | [], _, _, _, _, _ => by unfold RL; trivial
  | cs :: l, g, off, sz, e, h => by
    unfold RL at h ⊢
    obtain ⟨⟨vs, h1, h2, h3⟩, h4⟩ := h
    exact ⟨⟨vs, h1, rangeAt_of_block h2 e, RC.mon m cs vs h3⟩, RL.mon m l g (off + sz) sz e h4⟩
theorem RC.mon {ok ok' : Nat → Prop} {w w' : World} (m : Mon ok ok' w w') : ∀ (cs : List A) (vs : List Value), RC ok w cs vs → RC ok' w' cs vs
  | [], vs, h => by unfold RC at h ⊢; exact h
  | a :: cs, vs, h => by
    unfold RC at h ⊢
    obtain ⟨x, xs, h1, h2, h3⟩ := h
    exact ⟨x, xs, h1, RA.mon m a x h2, RC.mon m cs xs h3⟩
end
section
variable {ok : Nat → Prop} {w : World}
theorem RA.one {a : A} {x : Value} (h : RA ok w a x) : x.oneCell' = true := by
  cases a with
  | v y => unfold RA at h; obtain ⟨rfl, h⟩ := h; exact h
  | r sz l => unfold RA at h; obtain ⟨ao, cap, rfl, _⟩ := h; rfl
theorem RC.len : ∀ {cs : List A} {vs : List Value}, RC ok w cs vs → vs.length = cs.length
  | [], vs, h => by unfold RC at h; simp [h]
  | a :: cs, vs, h => by unfold RC at h; obtain ⟨x, xs, rfl, _, h⟩ := h; simp [RC.len h]
theorem RC.one : ∀ {cs : List A} {vs : List Value}, RC ok w cs vs → ∀ v ∈ vs, v.oneCell' = true
  | [], vs, h => by unfold RC at h; simp [h]
  | a :: cs, vs, h => by
    unfold RC at h; obtain ⟨x, xs, rfl, h1, h⟩ := h
    intro v hv
    rcases List.mem_cons.1 hv with rfl | hv
    · exact h1.one
    · exact h.one v hv
theorem RC.nil : RC ok w [] [] := by unfold RC; rfl
theorem RC.cons {a : A} {x : Value} {cs : List A} {xs : List Value} (h : RA ok w a x) (k : RC ok w cs xs) : RC ok w (a :: cs) (x :: xs) := by unfold RC; exact ⟨x, xs, rfl, h, k⟩
theorem RC.get : ∀ {cs : List A} {vs : List Value} (k : Nat) {a : A}, RC ok w cs vs → cs[k]? = some a → ∃ x, vs[k]? = some x ∧ RA ok w a x
  | [], vs, k, a, h, e => by simp at e
  | b :: cs, vs, 0, a, h, e => by
    unfold RC at h; obtain ⟨x, xs, rfl, h1, h⟩ := h
    simp at e; subst e; exact ⟨x, rfl, h1⟩
  | b :: cs, vs, k + 1, a, h, e => by
    unfold RC at h; obtain ⟨x, xs, rfl, h1, h⟩ := h
    simp at e; simpa using RC.get k h e
theorem RC.set : ∀ {cs : List A} {vs : List Value} (k : Nat) {a : A} {x : Value}, RC ok w cs vs → RA ok w a x → RC ok w (cs.set k a) (vs.set k x)
  | [], vs, k, a, x, h, e => by unfold RC at h; subst h; simp [RC.nil]
  | b :: cs, vs, 0, a, x, h, e => by
    unfold RC at h; obtain ⟨y, ys, rfl, h1, h⟩ := h
    exact RC.cons e h
  | b :: cs, vs, k + 1, a, x, h, e => by
    unfold RC at h; obtain ⟨y, ys, rfl, h1, h⟩ := h
    exact RC.cons h1 (RC.set k h e)
theorem RC.app : ∀ {cs ds : List A} {vs us : List Value}, RC ok w cs vs → RC ok w ds us → RC ok w (cs ++ ds) (vs ++ us)
  | [], ds, vs, us, h, k => by unfold RC at h; subst h; exact k
  | a :: cs, ds, vs, us, h, k => by
    unfold RC at h; obtain ⟨x, xs, rfl, h1, h⟩ := h
    exact RC.cons h1 (RC.app h k)
theorem RC.drop : ∀ (n : Nat) {cs : List A} {vs : List Value}, RC ok w cs vs → RC ok w (cs.drop n) (vs.drop n)
  | 0, cs, vs, h => h
  | n + 1, [], vs, h => by unfold RC at h; subst h; exact RC.nil
  | n + 1, a :: cs, vs, h => by
    unfold RC at h; obtain ⟨x, xs, rfl, h1, h⟩ := h
    exact RC.drop n h
theorem RC.take : ∀ (n : Nat) {cs : List A} {vs : List Value}, RC ok w cs vs → RC ok w (cs.take n) (vs.take n)
  | 0, cs, vs, h => by simpa using RC.nil
  | n + 1, [], vs, h => by unfold RC at h; subst h; exact RC.nil
  | n + 1, a :: cs, vs, h => by
    unfold RC at h; obtain ⟨x, xs, rfl, h1, h⟩ := h
    exact RC.cons h1 (RC.take n h)
theorem RL.get : ∀ {l : List (List A)} {g off sz : Nat} (k : Nat) {cs : List A}, RL ok w l g off sz → l[k]? = some cs → ∃ vs : List Value, vs.length = sz ∧ w.rangeAt g (off + k * sz) vs ∧ RC ok w cs vs
  | [], g, off, sz, k, cs, h, e => by simp at e
  | c :: l, g, off, sz, 0, cs, h, e => by
    unfold RL at h; simp at e; subst e
    simpa using h.1
  | c :: l, g, off, sz, k + 1, cs, h, e => by
    unfold RL at h; simp at e
    have := RL.get k h.2 e
    rw [show off + (k + 1) * sz = off + sz + k * sz by rw [Nat.add_mul]; omega]
    exact this
theorem RL.drop : ∀ {l : List (List A)} {g off sz : Nat} (n : Nat), RL ok w l g off sz → RL ok w (l.drop n) g (off + n * sz) sz
  | l, g, off, sz, 0, h => by simpa using h
  | [], g, off, sz, n + 1, h => by simp; unfold RL; trivial
  | c :: l, g, off, sz, n + 1, h => by
    unfold RL at h
    have := RL.drop n h.2
    rw [show off + (n + 1) * sz = off + sz + n * sz by rw [Nat.add_mul]; omega]
    exact this
theorem RL.take : ∀ {l : List (List A)} {g off sz : Nat} (n : Nat), RL ok w l g off sz → RL ok w (l.take n) g off sz
  | l, g, off, sz, 0, h => by simp; unfold RL; trivial
  | [], g, off, sz, n + 1, h => by simp; unfold RL; trivial
  | c :: l, g, off, sz, n + 1, h => by
    unfold RL at h
    simp only [List.take_succ_cons]
    unfold RL
    exact ⟨h.1, RL.take n h.2⟩
end

inductive D where
  | c (a : A)
  | agg (cs : List A)
  | tup (l : List D)
  | el (cs : List A) (o : Nat)
  | ow (v : Value) (sz k o : Nat)
  | any
mutual
def RD (ok : Nat → Prop) (w : World) : D → Value → Prop
  | .c a, x => RA ok w a x
  | .agg cs, x => ∃ vs : List Value, x = .agg vs.toArray ∧ RC ok w cs vs
  | .tup l, x => ∃ vs : List Value, x = .tuple vs.toArray ∧ RDs ok w l vs
  | .el cs o, x => ∃ g off, ∃ vs : List Value, x = .pointer (some ⟨g, off + o, none⟩) ∧ ok g ∧ g < w.heap.size ∧ w.rangeAt g off vs ∧ RC ok w cs vs
  | .ow v sz k o, x => ∃ g off n cap, v = .slice (some ⟨g, off, none⟩) n cap ∧ x = .pointer (some ⟨g, off + k * sz + o, none⟩)
  | .any, _ => True
def RDs (ok : Nat → Prop) (w : World) : List D → List Value → Prop
  | [], vs => vs = []
  | d :: l, vs => ∃ x xs, vs = x :: xs ∧ RD ok w d x ∧ RDs ok w l xs
end
mutual
theorem RD.mon {ok ok' : Nat → Prop} {w w' : World} (m : Mon ok ok' w w') : ∀ (d : D) (x : Value), RD ok w d x → RD ok' w' d x
  | .c a, x, h => by unfold RD at h ⊢; exact RA.mon m a x h
  | .agg cs, x, h => by unfold RD at h ⊢; obtain ⟨vs, h1, h2⟩ := h; exact ⟨vs, h1, RC.mon m cs vs h2⟩
  | .tup l, x, h => by unfold RD at h ⊢; obtain ⟨vs, h1, h2⟩ := h; exact ⟨vs, h1, RDs.mon m l vs h2⟩
  | .el cs o, x, h => by
    unfold RD at h ⊢
    obtain ⟨g, off, vs, h1, h2, h3, h4, h5⟩ := h
    exact ⟨g, off, vs, h1, (m.2 g h3 h2).1, Nat.lt_of_lt_of_le h3 m.1, rangeAt_of_block h4 (m.2 g h3 h2).2, RC.mon m cs vs h5⟩
  | .ow v sz k o, x, h => by unfold RD at h ⊢; exact h
  | .any, x, h => by unfold RD; trivial
theorem RDs.mon {ok ok' : Nat → Prop} {w w' : World} (m : Mon ok ok' w w') : ∀ (l : List D) (vs : List Value), RDs ok w l vs → RDs ok' w' l vs
  | [], vs, h => by unfold RDs at h ⊢; exact h
  | d :: l, vs, h => by
    unfold RDs at h ⊢
    obtain ⟨x, xs, h1, h2, h3⟩ := h
    exact ⟨x, xs, h1, RD.mon m d x h2, RDs.mon m l xs h3⟩
end
theorem RDs.nil {ok : Nat → Prop} {w : World} : RDs ok w [] [] := by unfold RDs; rfl
theorem RDs.cons {ok : Nat → Prop} {w : World} {d : D} {x : Value} {l : List D} {xs : List Value} (h : RD ok w d x) (k : RDs ok w l xs) : RDs ok w (d :: l) (x :: xs) := by unfold RDs; exact ⟨x, xs, rfl, h, k⟩
theorem RDs.len {ok : Nat → Prop} {w : World} : ∀ {l : List D} {vs : List Value}, RDs ok w l vs → vs.length = l.length
  | [], vs, h => by unfold RDs at h; simp [h]
  | a :: cs, vs, h => by unfold RDs at h; obtain ⟨x, xs, rfl, _, h⟩ := h; simp [RDs.len h]
theorem RDs.get {ok : Nat → Prop} {w : World} : ∀ {l : List D} {vs : List Value} (k : Nat) {d : D}, RDs ok w l vs → l[k]? = some d → ∃ x, vs[k]? = some x ∧ RD ok w d x
  | [], vs, k, a, h, e => by simp at e
  | b :: cs, vs, 0, a, h, e => by
    unfold RDs at h; obtain ⟨x, xs, rfl, h1, h⟩ := h
    simp at e; subst e; exact ⟨x, rfl, h1⟩
  | b :: cs, vs, k + 1, a, h, e => by
    unfold RDs at h; obtain ⟨x, xs, rfl, h1, h⟩ := h
    simp at e; simpa using RDs.get k h e

def vfoot : Value → List Nat
  | .slice (some a) _ _ => [a.block]
  | _ => []
def RX (ok : Nat → Prop) (w : World) (sz : Nat) : List (List A) → List Value → Prop
  | [], xs => xs = []
  | cs :: l, xs => ∃ vs ys, xs = vs ++ ys ∧ vs.length = sz ∧ RC ok w cs vs ∧ RX ok w sz l ys
inductive Res where
  | box (b : Nat) (t : TypeId) (cs : List A)
  | row (v : Value) (e : TypeId) (sz : Nat) (l : List (List A))
  | obj (T : List Nat) (Φ : World → Prop)
def Res.foot : Res → List Nat
  | .box b _ _ => [b]
  | .row v _ _ _ => vfoot v
  | .obj T _ => T
def Res.holds (ok : Nat → Prop) (w : World) : Res → Prop
  | .box b t cs => ∃ vs, Blk w b vs t ∧ RC ok w cs vs
  | .row v e sz l => ∃ xs, Row w v e sz l.length xs (vfoot v) ∧ RX ok w sz l xs
  | .obj T Φ => (∀ x ∈ T, x < w.heap.size) ∧ ∀ w' S, Keeps S w w' → (∀ x ∈ T, x ∉ S) → Φ w'
theorem RX.mon {ok ok' : Nat → Prop} {w w' : World} (m : Mon ok ok' w w') {sz : Nat} : ∀ (l : List (List A)) (xs : List Value), RX ok w sz l xs → RX ok' w' sz l xs
  | [], xs, h => h
  | cs :: l, xs, h => by
    obtain ⟨vs, ys, h1, h2, h3, h4⟩ := h
    exact ⟨vs, ys, h1, h2, RC.mon m cs vs h3, RX.mon m l ys h4⟩
theorem RX.one {ok : Nat → Prop} {w : World} {sz : Nat} : ∀ {l : List (List A)} {xs : List Value}, RX ok w sz l xs → ∀ v ∈ xs, v.oneCell' = true
  | [], xs, h => by unfold RX at h; simp [h]
  | cs :: l, xs, h => by
    obtain ⟨vs, ys, rfl, h2, h3, h4⟩ := h
    intro v hv
    rcases List.mem_append.1 hv with hv | hv
    · exact h3.one v hv
    · exact h4.one v hv
theorem RX.app {ok : Nat → Prop} {w : World} {sz : Nat} : ∀ {l m : List (List A)} {xs ys : List Value}, RX ok w sz l xs → RX ok w sz m ys → RX ok w sz (l ++ m) (xs ++ ys)
  | [], m, xs, ys, h, k => by unfold RX at h; subst h; exact k
  | cs :: l, m, xs, ys, h, k => by
    obtain ⟨vs, us, rfl, h2, h3, h4⟩ := h
    exact ⟨vs, us ++ ys, by simp, h2, h3, RX.app h4 k⟩
theorem RX.len {ok : Nat → Prop} {w : World} {sz : Nat} : ∀ {l : List (List A)} {xs : List Value}, RX ok w sz l xs → xs.length = l.length * sz
  | [], xs, h => by unfold RX at h; simp [h]
  | cs :: l, xs, h => by
    obtain ⟨vs, us, rfl, h2, h3, h4⟩ := h
    have := RX.len h4
    simp [this, h2, Nat.add_mul, Nat.add_comm]
theorem RX.get {ok : Nat → Prop} {w : World} {sz : Nat} : ∀ {l : List (List A)} {xs : List Value} (k : Nat) {cs : List A}, RX ok w sz l xs → l[k]? = some cs → ∃ vs : List Value, vs.length = sz ∧ (∀ j, j < sz → xs[k * sz + j]? = vs[j]?) ∧ RC ok w cs vs
  | [], xs, k, cs, h, e => by simp at e
  | c :: l, xs, 0, cs, h, e => by
    obtain ⟨vs, ys, rfl, h2, h3, h4⟩ := h
    simp at e; subst e
    exact ⟨vs, h2, fun j hj => by rw [Nat.zero_mul, Nat.zero_add, List.getElem?_append_left (by omega)], h3⟩
  | c :: l, xs, k + 1, cs, h, e => by
    obtain ⟨vs, ys, rfl, h2, h3, h4⟩ := h
    simp at e
    obtain ⟨us, g1, g2, g3⟩ := RX.get k h4 e
    exact ⟨us, g1, fun j hj => by
      rw [← g2 j hj, List.getElem?_append_right (by rw [h2, Nat.add_mul]; omega), h2]
      congr 1; rw [Nat.add_mul]; omega, g3⟩
theorem RX.set {ok : Nat → Prop} {w : World} {sz : Nat} : ∀ {l : List (List A)} {xs : List Value} (k o : Nat) {cs : List A} {a : A} {x : Value}, RX ok w sz l xs → l[k]? = some cs → o < sz → RA ok w a x → RX ok w sz (l.set k (cs.set o a)) (xs.set (k * sz + o) x)
  | [], xs, k, o, cs, a, x, h, e, ho, ha => by simp at e
  | c :: l, xs, 0, o, cs, a, x, h, e, ho, ha => by
    obtain ⟨vs, ys, rfl, h2, h3, h4⟩ := h
    simp at e; subst e
    refine ⟨vs.set o x, ys, ?_, by simpa using h2, RC.set o h3 ha, h4⟩
    rw [Nat.zero_mul, Nat.zero_add, List.set_append_left _ _ (by omega)]
  | c :: l, xs, k + 1, o, cs, a, x, h, e, ho, ha => by
    obtain ⟨vs, ys, rfl, h2, h3, h4⟩ := h
    simp at e
    refine ⟨vs, ys.set (k * sz + o) x, ?_, h2, h3, RX.set k o h4 e ho ha⟩
    rw [List.set_append_right _ _ (by rw [h2, Nat.add_mul]; omega), h2]
    congr 2; rw [Nat.add_mul]; omega
theorem Res.holds.mon {ok ok' : Nat → Prop} {w w' : World} {S : List Nat} (k : Keeps S w w') (m : Mon ok ok' w w') : ∀ {r : Res}, r.holds ok w → (∀ x ∈ r.foot, x ∉ S) → r.holds ok' w'
  | .box b t cs, h, hn => by
    obtain ⟨vs, h1, h2⟩ := h
    exact ⟨vs, h1.keep k (hn b (by simp [Res.foot])), RC.mon m cs vs h2⟩
  | .row v e sz l, h, hn => by
    obtain ⟨xs, h1, h2⟩ := h
    exact ⟨xs, h1.keep k hn, RX.mon m l xs h2⟩
  | .obj T Φ, h, hn => by
    exact ⟨fun x hx => Nat.lt_of_lt_of_le (h.1 x hx) k.size, fun w'' S' k' hS' => h.2 w'' (S ++ S') ((k.mono (fun x hx => .inl (List.mem_append_left S' hx))).trans k' (fun x hx => .inl (List.mem_append_right S hx))) (fun x hx hm => by
      rcases List.mem_append.1 hm with hm | hm
      · exact hn x hx hm
      · exact hS' x hx hm)⟩
theorem Res.holds.lt {ok : Nat → Prop} {w : World} : ∀ {r : Res}, r.holds ok w → ∀ x ∈ r.foot, x < w.heap.size
  | .box b t cs, h, x, hx => by
    obtain ⟨vs, h1, h2⟩ := h
    simp [Res.foot] at hx; subst hx; exact h1.lt
  | .row v e sz l, h, x, hx => by obtain ⟨xs, h1, h2⟩ := h; exact h1.lt x hx
  | .obj T Φ, h, x, hx => h.1 x hx
def foots (L : List Res) : List Nat := L.flatMap Res.foot
theorem mem_foots {L : List Res} {x : Nat} : x ∈ foots L ↔ ∃ r ∈ L, x ∈ r.foot := by simp [foots]
end Fl
end Go.Proofs.YtbjnbngpjdoejaaDoor
namespace Go.Proofs.YtbjnbngpjdoejaaDoor
open Go.RowKit
set_option linter.unusedVariables false
set_option linter.unusedSimpArgs false
set_option linter.unnecessarySimpa false
namespace Fl
def ndOp (o : Oper) : Bool := match o.op with | .defer _ => false | _ => true
theorem ndOp.ne {o : Oper} (h : ndOp o = true) : ∀ c, o.op ≠ .defer c := fun c e => by
  unfold ndOp at h; rw [e] at h; cases h
abbrev wR (r : Option Nat) : Fence := { Fence.wide with round := r }
theorem wR_calls {r : Option Nat} {n : Nat} {P : Program} {f : FuncId} {args : Array Value} {w : World} {R : Ending → World → Prop} (h : Calls P f args w R) : CallsIn (wR r) n P f args w R :=
  (callsIn_wide (n := n)).2 h
theorem wR_steps {r : Option Nat} {P : Program} {m m' : Machine} : StepsIn (Machine.fenced P (wR r)) P m m' ↔ Steps P m m' := stepsIn_wide
theorem Oper.wp_round {r : Option Nat} {n : Nat} {P : Program} {o : Oper} {a : Act} {w : World} {K : Act → World → Prop} {Q : Exit → Act → World → Prop} (hd : ndOp o = true) (h : o.wp P a w K Q) : o.wpIn (wR r) n P a w K Q := by
  refine ⟨fun _ _ => trivial, ?_⟩
  rw [Oper.semAt_eq _ _ _ (ndOp.ne hd)]
  unfold Oper.wp at h
  generalize (execOp a.eval o).run P w = x at h ⊢
  cases x with
  | ok n' w' =>
    cases n' with
    | enter f args => exact ⟨(fun h => by cases h), wR_calls h⟩
    | row row args =>
      refine ⟨(fun h => by cases h), fun c cs _ => ?_⟩
      obtain ⟨v, w2, h1, h2⟩ := h c cs
      exact ⟨v, w2, h1, wR_steps.2 h2⟩
    | _ => first | exact h | exact h.elim
  | halt x w' => cases x <;> first | exact h | exact h.elim
theorem wpOps_round {r : Option Nat} {n : Nat} {P : Program} {ops : Array Oper} {Q : Exit → Act → World → Prop} (hd : ops.all ndOp = true) (hq : ¬ LetsOut Q) :
    ∀ (l : List Nat) (a : Act) (w : World), wpOps P ops Q l a w → wpOpsIn (wR r) n P ops Q l a w
  | [], a, w, h => h
  | i :: l, a, w, h => by
    unfold wpOps at h
    unfold wpOpsIn
    cases ho : ops[i]? with
    | none => rw [ho] at h; exact wpOps_round hd hq l _ _ h
    | some o =>
      rw [ho] at h
      simp only at h ⊢
      have hn : ndOp o = true := by
        obtain ⟨hi, rfl⟩ := Array.getElem?_eq_some_iff.1 ho
        exact (Array.all_eq_true.1 hd) i hi
      split
      · rename_i hw
        rw [if_pos hw] at h
        rcases h with h | h
        · exact Oper.wpIn_mono (fun a w => wpOps_round hd hq l a w) (Oper.wp_round hn h)
        · exact absurd h.2 hq
      · rename_i hw
        rw [if_neg hw] at h
        exact ⟨fun _ _ => trivial, wpOps_round hd hq l _ _ h⟩
theorem region_round {r : Option Nat} {n : Nat} {P : Program} {id : Nat} {l : List Oper} {Q : Exit → Act → World → Prop} {a : Act} {w : World} (hd : l.toArray.all ndOp = true) (hq : ¬ LetsOut Q) (h : wpList P l.toArray Q l a w) : (Code.region id l.toArray false).wpIn (wR r) n P Q a w :=
  wpIn_region (wpOps_round hd hq _ _ _ (by
    rw [List.range_eq_range', ← Array.length_toList, wpOps_eq_wpList l.toArray.toList 0 (by simp)]
    simpa using h))
theorem draw_round {r : Option Nat} {n : Nat} {P : Program} {id : Nat} {ops : Array Oper} {Q : Exit → Act → World → Prop} {a : Act} {w : World} (hd : ops.all ndOp = true) (hq : ¬ LetsOut Q) (hm : P.follows .mixedOrders = true)
    (h : wpAny P .any ops Q ops.size (Array.replicate ops.size false) a { w with drawn := w.drawn + 1 }) : (Code.region id ops true).wpIn (wR r) n P Q a w :=
  wpIn_region_draw fun t => by
    simp only [Region.schedule, hm, Bool.true_or, if_true]
    exact wpOps_round hd hq _ _ _ (wpAny_sound ops.size t _ a _ h)
end Fl
end Go.Proofs.YtbjnbngpjdoejaaDoor
namespace Go.Proofs.YtbjnbngpjdoejaaDoor
open Go.RowKit
set_option linter.unusedVariables false
set_option linter.unusedSimpArgs false
set_option linter.unnecessarySimpa false

namespace Fl
structure Cx where
  F : FuncId
  R : Ending → World → Prop
  lent : List Nat
  okE : Nat → Prop
  e : World
  N : Nat
  rnd : Option Nat := none
  dfs : List Deferred := []
abbrev Fm := List (Nat × D)
def look : Fm → Nat → Option D
  | [], _ => none
  | (k, d) :: f, t => cond (Nat.beq k t) (some d) (look f t)
def okk (c : Cx) (L : List Res) (x : Nat) : Prop := (c.okE x ∨ x ∈ c.lent ∨ c.e.heap.size ≤ x) ∧ x ∉ foots L
def Apart (L : List Res) : Prop := L.Pairwise (fun r s => ∀ x ∈ r.foot, x ∉ s.foot)
structure St (c : Cx) (f : Fm) (L : List Res) (a : Act) (w : World) : Prop where
  kp : Keeps c.lent c.e w
  size : a.tmps.size = c.N
  dfr : a.defers = c.dfs
  res : ∀ r ∈ L, r.holds (okk c L) w
  frm : ∀ x ∈ foots L, x ∈ c.lent ∨ c.e.heap.size ≤ x
  ap : Apart L
  fr : ∀ t d, look f t = some d → RD (okk c L) w d (a.tmps.getD t undef)
theorem St.lt {c : Cx} {f : Fm} {L : List Res} {a : Act} {w : World} (h : St c f L a w) : ∀ x ∈ foots L, x < w.heap.size := fun x hx => by
  obtain ⟨r, hr, hx⟩ := mem_foots.1 hx
  exact (h.res r hr).lt x hx
def RFin (en : Ending) (k' : List Item) : Prop := (en = .returned (.bool true) ∧ k' = []) ∨ (en = .returned (.bool false) ∧ ∃ k1, k' = .code .ret :: k1)
def Fin (P : Program) (c : Cx) (b : Frame) (cs : List Frame) (m : Machine) : Prop := match c.rnd with
  | none => ∃ en w' fr, c.R en w' ∧ Comes P m (lone fr cs w') en ∧ fr.fn = c.F ∧ fr.leaving P w' en
  | some _ => ∃ en w' a' k', c.R en w' ∧ Steps P m (lone (b.atR a' k') cs w') ∧ RFin en k'
theorem Fin.of {P : Program} {c : Cx} {b : Frame} {cs : List Frame} {m m' : Machine} (h : Fin P c b cs m') (s : Steps P m m') : Fin P c b cs m := by
  unfold Fin at h ⊢
  split at h
  · obtain ⟨en, w2, fr, h1, h2, h3⟩ := h
    exact ⟨en, w2, fr, h1, h2.of_steps s, h3⟩
  · obtain ⟨en, w2, a', k', h1, h2, h3⟩ := h
    exact ⟨en, w2, a', k', h1, s.trans h2, h3⟩
def Run (P : Program) (c : Cx) (k : List Item) (a : Act) (w : World) : Prop :=
  ∀ (b : Frame) (cs : List Frame), b.fn = c.F → b.kind = .normal → b.roundOf = c.rnd → Fin P c b cs (lone (b.atR a k) cs w)
structure J (P : Program) (c : Cx) (k : List Item) (f : Fm) (L : List Res) : Prop where
  go : ∀ a w, St c f L a w → Run P c k a w
theorem Run.step {P : Program} {c : Cx} {k k' : List Item} {a a' : Act} {w w' : World} (h : Run P c k' a' w') (hs : ∀ (b : Frame) (cs : List Frame), step P (lone (b.atR a k) cs w) = .next (lone (b.atR a' k') cs w')) : Run P c k a w := fun b cs hb hk hr =>
  (h b cs hb hk hr).of (.one (hs b cs))
theorem Run.wp {P : Program} {c : Cx} {k : List Item} {x : Code} {a : Act} {w : World} (h : x.wpIn (wR c.rnd) 0 P (fun e a' w' => e = .normal ∧ Run P c k a' w') a w) : Run P c (.code x :: k) a w := fun b cs hb hk hr => by
  obtain ⟨e, a', w', ⟨rfl, hr'⟩, harr⟩ := h b k cs hr trivial (room_wide _)
  exact (hr' b cs hb hk hr).of (wR_steps.1 harr)
theorem noOut {P : Program} {c : Cx} {k : List Item} : ¬ LetsOut (fun e a' w' => e = .normal ∧ Run P c k a' w') := by
  rintro ⟨a, w, h, _⟩; cases h
def ndf (c : Cx) (l : List Oper) : Bool := match c.rnd with
  | none => true
  | some _ => l.all ndOp
theorem ndf.none {P : Program} {c : Cx} {k : List Item} {x : Code} {a : Act} {w : World} (hr : c.rnd = .none) (h : x.wp P (fun e a' w' => e = .normal ∧ Run P c k a' w') a w) : x.wpIn (wR c.rnd) 0 P (fun e a' w' => e = .normal ∧ Run P c k a' w') a w := by
  rw [hr]; exact wpIn_wide.2 h
theorem ndf.cases {c : Cx} {l : List Oper} (h : ndf c l = true) : c.rnd = .none ∨ l.toArray.all ndOp = true := by
  unfold ndf at h
  split at h
  · exact .inl (by assumption)
  · exact .inr (by simpa using h)
section
variable {P : Program} {c : Cx} {k : List Item} {f : Fm} {L : List Res}
theorem J.seq {x y : Code} (h : J P c (.code x :: .code y :: k) f L) : J P c (.code (.seq x y) :: k) f L := ⟨fun a w s => (h.go a w s).step fun _ _ => stepR_seq⟩
theorem J.skip (h : J P c k f L) : J P c (.code .skip :: k) f L := ⟨fun a w s => (h.go a w s).step fun _ _ => stepR_skip⟩
theorem J.block {id : Nat} {x : Code} (h : J P c (.code x :: .inBlock id :: k) f L) : J P c (.code (.block id x) :: k) f L := ⟨fun a w s => (h.go a w s).step fun _ _ => stepR_block⟩
theorem J.inBlock {id : Nat} (h : J P c k f L) : J P c (.inBlock id :: k) f L := ⟨fun a w s => (h.go a w s).step fun _ _ => stepR_inBlock⟩
theorem J.exit {id : Nat} {k' : List Item} (e : exitTo id k = some k') (h : J P c k' f L) : J P c (.code (.exit id) :: k) f L := ⟨fun a w s => (h.go a w s).step fun _ _ => stepR_exit e⟩
def evD (f : Fm) : Operand → Option D
  | .tmp t => look f t
  | .const v => cond v.oneCell' (some (.c (.v v))) none
  | .global g => some (.c (.v (.pointer (some ⟨g, 0, none⟩))))
  | .func fn => some (.c (.v (.func (.func fn) #[] #[])))
theorem St.ev {a : Act} {w : World} (s : St c f L a w) {x : Operand} {d : D} (h : evD f x = some d) : RD (okk c L) w d (a.eval x) := by
  cases x with
  | tmp t => exact s.fr t d h
  | const v =>
    simp only [evD] at h
    cases ho : v.oneCell' with
    | false => rw [ho] at h; cases h
    | true => rw [ho] at h; cases h; unfold RD RA; exact ⟨rfl, ho⟩
  | global g => unfold evD at h; cases h; unfold RD RA; exact ⟨rfl, rfl⟩
  | func g => unfold evD at h; cases h; unfold RD RA; exact ⟨rfl, rfl⟩
theorem St.val {a : Act} {w : World} (s : St c f L a w) {x : Operand} {v : Value} (h : evD f x = some (.c (.v v))) : a.eval x = v := by
  have := s.ev h
  unfold RD RA at this
  exact this.1
theorem J.cond {x y : Code} {t : Operand} {b : Bool} (hc : evD f t = some (.c (.v (.bool b)))) (ht : b = true → J P c (.code x :: k) f L) (hf : b = false → J P c (.code y :: k) f L) : J P c (.code (.cond t x y) :: k) f L := ⟨fun a w s => by
  have hv := s.val hc
  cases b with
  | true => exact ((ht rfl).go a w s).step fun _ _ => stepR_cond hv
  | false => exact ((hf rfl).go a w s).step fun _ _ => stepR_cond hv⟩
theorem J.cond_t {x y : Code} {t : Operand} (hc : evD f t = some (.c (.v (.bool true)))) (ht : J P c (.code x :: k) f L) : J P c (.code (.cond t x y) :: k) f L := J.cond hc (fun _ => ht) (fun h => by cases h)
theorem J.cond_f {x y : Code} {t : Operand} (hc : evD f t = some (.c (.v (.bool false)))) (hf : J P c (.code y :: k) f L) : J P c (.code (.cond t x y) :: k) f L := J.cond hc (fun h => by cases h) (fun _ => hf)
theorem J.loop {x : Code} {ι : Type} (fi : ι → Fm) (Li : ι → List Res) (μ : ι → Nat) (i0 : ι) (h0 : ∀ X, J P c X (fi i0) (Li i0) → J P c X f L)
    (round : ∀ i, (∀ i', μ i' < μ i → J P c (.inLoop x :: k) (fi i') (Li i')) → J P c (.code x :: .inLoop x :: k) (fi i) (Li i)) : J P c (.code (.loop x) :: k) f L := by
  have key : ∀ n i, μ i = n → J P c (.code x :: .inLoop x :: k) (fi i) (Li i) := by
    intro n
    induction n using Nat.strongRecOn with
    | _ n ih =>
      intro i hi
      exact round i fun i' hlt => ⟨fun a w s => ((ih (μ i') (hi ▸ hlt) i' rfl).go a w s).step fun _ _ => stepR_inLoop⟩
  have h1 := h0 _ (key _ i0 rfl)
  exact ⟨fun a w s => (h1.go a w s).step fun _ _ => stepR_loop⟩
theorem J.less {f' : Fm} (hs : ∀ t d, look f' t = some d → look f t = some d) (h : J P c k f' L) : J P c k f L := ⟨fun a w s =>
  h.go a w ⟨s.kp, s.size, s.dfr, s.res, s.frm, s.ap, fun t d ht => s.fr t d (hs t d ht)⟩⟩
def Only (f : Fm) : Fm → Prop
  | [] => True
  | (t, d) :: f' => look f t = some d ∧ Only f f'
theorem Only.look {f : Fm} : ∀ {f' : Fm}, Only f f' → ∀ t d, look f' t = some d → look f t = some d
  | [], _, t, d, h => by simp [Fl.look] at h
  | (s, e) :: f', ho, t, d, h => by
    simp only [Fl.look] at h
    cases hb : Nat.beq s t with
    | true =>
      rw [hb] at h
      have : s = t := Nat.eq_of_beq_eq_true hb
      subst this
      simp at h; subst h; exact ho.1
    | false => rw [hb] at h; exact Only.look ho.2 t d h
theorem J.only (f' : Fm) (ho : Only f f') (h : J P c k f' L) : J P c k f L := J.less ho.look h
theorem pull_perm {α : Type} : ∀ (L : List α) (i : Nat) {r : α}, L[i]? = some r → (r :: L.eraseIdx i).Perm L
  | [], i, r, h => by simp at h
  | x :: L, 0, r, h => by simp at h; subst h; simp
  | x :: L, i + 1, r, h => by
    simp at h
    simp only [List.eraseIdx_cons_succ]
    exact (List.Perm.swap x r _).trans ((pull_perm L i h).cons x)
theorem J.pull (i : Nat) {r : Res} (hi : L[i]? = some r) (h : J P c k f (r :: L.eraseIdx i)) : J P c k f L := ⟨fun a w s => by
  have hp : (r :: L.eraseIdx i).Perm L := pull_perm L i hi
  have hm : ∀ x, x ∈ foots (r :: L.eraseIdx i) ↔ x ∈ foots L := fun x => by
    rw [mem_foots, mem_foots]
    exact ⟨fun ⟨q, hq, hx⟩ => ⟨q, hp.mem_iff.1 hq, hx⟩, fun ⟨q, hq, hx⟩ => ⟨q, hp.mem_iff.2 hq, hx⟩⟩
  have ho : okk c (r :: L.eraseIdx i) = okk c L := by
    funext x; unfold okk; rw [hm]
  refine h.go a w ⟨s.kp, s.size, s.dfr, fun q hq => by rw [ho]; exact s.res q (hp.mem_iff.1 hq), fun x hx => s.frm x ((hm x).1 hx), ?_, fun t d ht => by rw [ho]; exact s.fr t d ht⟩
  exact (hp.pairwise_iff (fun {x y} hxy z hz hz' => hxy z hz' hz)).2 s.ap⟩
theorem J.drop (i : Nat) (h : J P c k f (L.eraseIdx i)) : J P c k f L := ⟨fun a w s => by
  have hm : ∀ q, q ∈ L.eraseIdx i → q ∈ L := fun q hq => List.mem_of_mem_eraseIdx hq
  have hf : ∀ x, x ∈ foots (L.eraseIdx i) → x ∈ foots L := fun x hx => by
    obtain ⟨q, hq, hx⟩ := mem_foots.1 hx
    exact mem_foots.2 ⟨q, hm q hq, hx⟩
  have mo : Mon (okk c L) (okk c (L.eraseIdx i)) w w := ⟨Nat.le_refl _, fun g _ hg => ⟨⟨hg.1, fun hx => hg.2 (hf g hx)⟩, rfl⟩⟩
  exact h.go a w ⟨s.kp, s.size, s.dfr, fun q hq => (s.res q (hm q hq)).mon (Keeps.refl [] w) mo (by simp), fun x hx => s.frm x (hf x hx), s.ap.sublist (List.eraseIdx_sublist L i), fun t d ht => RD.mon mo d _ (s.fr t d ht)⟩⟩
end
end Fl
end Go.Proofs.YtbjnbngpjdoejaaDoor
