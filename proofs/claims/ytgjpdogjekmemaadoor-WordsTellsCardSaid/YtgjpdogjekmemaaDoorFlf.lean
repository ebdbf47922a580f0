/-
  Append, calls, a function's beginning and end.
  Conditions: none; nothing of the program stands here.
-/
import Derived.Test.YtgjpdogjekmemaaDoorFle
namespace Go.Proofs.YtgjpdogjekmemaaDoor
open Go.RowKit
set_option linter.unusedVariables false
set_option linter.unusedSimpArgs false
set_option linter.unnecessarySimpa false

namespace Fl
theorem foots_cons (r : Res) (L : List Res) (x : Nat) : x ∈ foots (r :: L) ↔ x ∈ r.foot ∨ x ∈ foots L := by simp [foots]
/-- a slice that is read, as the append laws want it -/
theorem RA.view {ok : Nat → Prop} {w : World} {sz : Nat} {l : List (List A)} {x : Value} (h : RA ok w (.r sz l) x) : ∃ ys S, View w x sz l.length ys S ∧ RX ok w sz l ys ∧ ∀ g ∈ S, ok g := by
  unfold RA at h
  obtain ⟨ao, cap, rfl, h1, h2, h3⟩ := h
  rcases h3 with rfl | ⟨g, off, rfl, hok, hg, hl⟩
  · exact ⟨[], [], ⟨by simp, ao, cap, rfl, by simpa using h1, h2, .inl ⟨rfl, rfl⟩⟩, rfl, by simp⟩
  · have key : ∀ (l : List (List A)) (off : Nat), RL ok w l g off sz → ∃ ys : List Value, ys.length = l.length * sz ∧ w.rangeAt g off ys ∧ RX ok w sz l ys := by
      intro l
      induction l with
      | nil => intro off _; exact ⟨[], by simp, fun j v hj => by simp at hj, rfl⟩
      | cons cs l ih =>
        intro off h
        unfold RL at h
        obtain ⟨⟨vs, a1, a2, a3⟩, h4⟩ := h
        obtain ⟨ys, b1, b2, b3⟩ := ih _ h4
        refine ⟨vs ++ ys, by simp [a1, b1, Nat.add_mul, Nat.add_comm], fun j v hj => ?_, vs, ys, rfl, a1, a3, b3⟩
        by_cases hlt : j < vs.length
        · rw [List.getElem?_append_left hlt] at hj; exact a2 j v hj
        · rw [List.getElem?_append_right (by omega)] at hj
          have := b2 _ v hj
          rw [show off + sz + (j - vs.length) = off + j by omega] at this
          exact this
    obtain ⟨ys, b1, b2, b3⟩ := key l off hl
    exact ⟨ys, [g], ⟨b1, _, cap, rfl, h1, h2, .inr ⟨g, off, rfl, rfl, hg, fun j hj => by rw [List.getElem?_eq_getElem hj]; exact b2 j _ (List.getElem?_eq_getElem hj)⟩⟩, b3, by simpa using hok⟩
/-- and back -/
theorem RA.of_view {ok : Nat → Prop} {w : World} {sz : Nat} {l : List (List A)} {x : Value} {ys : List Value} {S : List Nat} (h : View w x sz l.length ys S) (hr : RX ok w sz l ys) (hS : ∀ g ∈ S, ok g) : RA ok w (.r sz l) x := by
  unfold RA
  obtain ⟨hl, ao, cap, rfl, h1, h2, h3⟩ := h
  refine ⟨ao, cap, rfl, h1, h2, ?_⟩
  rcases h3 with ⟨h3, _⟩ | ⟨g, off, rfl, rfl, hg, hc⟩
  · exact .inl (List.length_eq_zero_iff.1 h3)
  · refine .inr ⟨g, off, rfl, hS g (by simp), hg, ?_⟩
    have key : ∀ (l : List (List A)) (ys : List Value) (off : Nat), w.rangeAt g off ys → RX ok w sz l ys → RL ok w l g off sz := by
      intro l
      induction l with
      | nil => intro ys off _ _; unfold RL; trivial
      | cons cs l ih =>
        intro ys off hc h
        obtain ⟨vs, us, rfl, a1, a2, a3⟩ := h
        unfold RL
        refine ⟨⟨vs, a1, fun j v hj => hc j v (by rw [List.getElem?_append_left (List.getElem?_eq_some_iff.1 hj).1]; exact hj), a2⟩, ih us (off + sz) (fun j v hj => ?_) a3⟩
        have := hc (sz + j) v (by rw [List.getElem?_append_right (by omega), a1, Nat.add_sub_cancel_left]; exact hj)
        rw [Nat.add_assoc]; exact this
    exact key l ys off (fun j v hj => by rw [hc j (List.getElem?_eq_some_iff.1 hj).1]; exact hj) hr
theorem vfoot_of {w : World} {v : Value} {e : TypeId} {sz n : Nat} {xs : List Value} {S : List Nat} (h : Row w v e sz n xs S) : vfoot v = S := by
  obtain ⟨h0, ao, cap, rfl, h2, h3, h4⟩ := h
  rcases h4 with ⟨rfl, _, _, rfl⟩ | ⟨g, off, cur, rfl, rfl, _⟩ <;> rfl
section
variable {P : Program} {c : Cx} {k : List Item} {f : Fm} {L : List Res} {ops : Array Oper} {l : List Oper} {o : Oper} {T X : TypeId} {ps : String} {af : Array Edge} {gd : Option (Nat × Bool)} {t : Nat}
/-- the slice to which is appended: a row that is owned (it comes first among what is owned), or none -/
inductive Dest (L : List Res) (e : TypeId) (sz : Nat) : Value → List (List A) → List Res → Prop
  | own {v m L'} : L = .row v e sz m :: L' → Dest L e sz v m L'
  | nil : Dest L e sz (.slice none 0 0) [] L
/-- what is appended: a slice that is read, or one that is owned -/
inductive Srce (L : List Res) (sz : Nat) : D → List (List A) → Prop
  | read {m} : Srce L sz (.c (.r sz m)) m
  | own (i : Nat) {v e m} : L[i]? = some (.row v e sz m) → Srce L sz (.c (.v v)) m
  | nil : Srce L sz (.c (.v (.slice none 0 0))) []
theorem Ld.append_core {e sz bytes : Nat} {z : Value} [E : TyE P X e sz bytes z] {x y : Operand} {v : Value} {l1 l2 : List (List A)} {L' : List Res} {d2 : D} (h1 : evD f x = some (.c (.v v))) (hd : Dest L e sz v l1 L') (h2 : evD f y = some d2) (hs : Srce L' sz d2 l2) (hb : (l1.length + l2.length) * bytes ≤ 140737488355328)
    {a : Act} {w : World} (s : St c f L a w) : ∃ v' w', (execOp a.eval ⟨some t, .call ⟨.builtin .append, #[x, y], #[X, X]⟩, T, ps, af, gd⟩).run P w = .ok (.value v') w' ∧ Keeps (vfoot v) w w' ∧ Mon (okk c L) (okk c (.row v' e sz (l1 ++ l2) :: L')) w w' ∧ (Res.row v' e sz (l1 ++ l2)).holds (okk c (.row v' e sz (l1 ++ l2) :: L')) w' ∧ (∀ g ∈ vfoot v', g ∈ vfoot v ∨ w.heap.size ≤ g) ∧ (∀ q ∈ L', q ∈ L ∧ ∀ g ∈ q.foot, g ∉ vfoot v) ∧ Apart L' ∧ (∀ g ∈ vfoot v, g ∈ foots L) := by
  have rx := s.val h1
  have ry := s.ev h2
  have hD : ∃ xs, Row w v e sz l1.length xs (vfoot v) ∧ RX (okk c L) w sz l1 xs ∧ (∀ q ∈ L', q ∈ L ∧ ∀ g ∈ q.foot, g ∉ vfoot v) ∧ Apart L' ∧ (∀ g ∈ vfoot v, g ∈ foots L) := by
    cases hd with
    | own e1 =>
      subst e1
      obtain ⟨xs, g1, g2⟩ := s.res _ (List.mem_cons_self ..)
      have ap := List.pairwise_cons.1 s.ap
      exact ⟨xs, g1, g2, fun q hq => ⟨List.mem_cons_of_mem _ hq, fun g hg hg' => ap.1 q hq g hg' hg⟩, ap.2, fun g hg => mem_foots.2 ⟨_, List.mem_cons_self .., hg⟩⟩
    | nil => exact ⟨[], Row.nil w e sz, rfl, fun q hq => ⟨hq, fun g _ hg => by simp [vfoot] at hg⟩, s.ap, fun g hg => by simp [vfoot] at hg⟩
  obtain ⟨xs, r1, r2, r3, r4, r5⟩ := hD
  have hS : ∃ ys S, View w (a.eval y) sz l2.length ys S ∧ RX (okk c L) w sz l2 ys := by
    cases hs with
    | read => unfold RD at ry; obtain ⟨ys, S, g1, g2, _⟩ := ry.view; exact ⟨ys, S, g1, g2⟩
    | own i hi =>
      obtain ⟨ys, g1, g2⟩ := s.res _ (r3 _ (List.mem_of_getElem? hi)).1
      unfold RD RA at ry
      rw [ry.1]
      exact ⟨ys, _, g1.view, g2⟩
    | nil =>
      unfold RD RA at ry
      rw [ry.1]
      exact ⟨[], [], View.nil w sz, rfl⟩
  obtain ⟨ys, S, s1, s2⟩ := hS
  obtain ⟨ao, cap, w', S', hrun, g1, g2, g3, _⟩ := run_app E.h T r1 s1 s2.one hb
  have hvf := vfoot_of g1
  have hm : Mon (okk c L) (okk c (.row (.slice ao (l1.length + l2.length) cap) e sz (l1 ++ l2) :: L')) w w' := by
    refine Mon.of_keeps g2 fun g hg ho => ⟨⟨ho.1, fun hin => ?_⟩, fun hin => ho.2 (r5 g hin)⟩
    rcases (foots_cons _ _ _).1 hin with hin | hin
    · rw [Res.foot, hvf] at hin
      rcases g3 g hin with h | h
      · exact ho.2 (r5 g h)
      · omega
    · obtain ⟨q, hq, hgq⟩ := mem_foots.1 hin
      exact ho.2 (mem_foots.2 ⟨q, (r3 q hq).1, hgq⟩)
  refine ⟨.slice ao (l1.length + l2.length) cap, w', ?_, g2, hm, ⟨xs ++ ys, by rw [hvf, List.length_append]; exact g1, RX.app (RX.mon hm _ _ r2) (RX.mon hm _ _ s2)⟩, fun g hg => by rw [hvf] at hg; exact g3 g hg, r3, r4, r5⟩
  simp [execOp, resolve, invoke, builtin, rx, Sem.run_bind, hrun]
theorem St.appended {e sz : Nat} {v v' : Value} {l1 l2 : List (List A)} {L' : List Res} {a : Act} {w w' : World} (s : St c f L a w) (ht : t < c.N) (k : Keeps (vfoot v) w w') (m : Mon (okk c L) (okk c (.row v' e sz (l1 ++ l2) :: L')) w w') (hh : (Res.row v' e sz (l1 ++ l2)).holds (okk c (.row v' e sz (l1 ++ l2) :: L')) w') (hv : ∀ g ∈ vfoot v', g ∈ vfoot v ∨ w.heap.size ≤ g) (h3 : ∀ q ∈ L', q ∈ L ∧ ∀ g ∈ q.foot, g ∉ vfoot v) (h4 : Apart L') (h5 : ∀ g ∈ vfoot v, g ∈ foots L) (h1 : v'.oneCell' = true) :
    St c ((t, .c (.v v')) :: f) (.row v' e sz (l1 ++ l2) :: L') (a.put (some t) v') w' := by
  refine s.put ht (by unfold RD RA; exact ⟨rfl, h1⟩) (s.kp.trans k (fun g hg => s.frm g (h5 g hg))) ?_ ?_ ?_ m
  · intro q hq
    rcases List.mem_cons.1 hq with rfl | hq
    · exact hh
    · exact (s.res q (h3 q hq).1).mon k m (fun g hg hg' => (h3 q hq).2 g hg hg')
  · intro x hx
    rcases (foots_cons _ _ _).1 hx with hx | hx
    · rcases hv x hx with h | h
      · exact s.frm x (h5 x h)
      · exact .inr (Nat.le_trans s.kp.size h)
    · obtain ⟨q, hq, hxq⟩ := mem_foots.1 hx
      exact s.frm x (mem_foots.2 ⟨q, (h3 q hq).1, hxq⟩)
  · refine List.pairwise_cons.2 ⟨fun q hq x hx hx' => ?_, h4⟩
    rcases hv x hx with h | h
    · exact (h3 q hq).2 x hx' h
    · have := s.lt x (mem_foots.2 ⟨q, (h3 q hq).1, hx'⟩); omega
/-- append: the result is owned -/
theorem Ld.appO {e sz bytes : Nat} {z : Value} [E : TyE P X e sz bytes z] {x y : Operand} {v : Value} {l1 l2 : List (List A)} {L' : List Res} {d2 : D} (ht : t < c.N) (h1 : evD f x = some (.c (.v v))) (hd : Dest L e sz v l1 L') (h2 : evD f y = some d2) (hs : Srce L' sz d2 l2) (hb : (l1.length + l2.length) * bytes ≤ 140737488355328) :
    Ld P c ⟨some t, .call ⟨.builtin .append, #[x, y], #[X, X]⟩, T, ps, af, gd⟩ f L (vfoot v) (fun v' : Value => (t, .c (.v v')) :: f) (fun v' => .row v' e sz (l1 ++ l2) :: L') := ⟨fun a w s K Q hK => by
  obtain ⟨v', w', hrun, g1, g2, g3, g4, g5, g6, g7⟩ := Ld.append_core (P := P) (X := X) (t := t) (T := T) (ps := ps) (af := af) (gd := gd) h1 hd h2 hs hb s
  unfold Oper.wp
  rw [hrun]
  have h1c : v'.oneCell' = true := by
    obtain ⟨xs, r, _⟩ := g3
    obtain ⟨ao, cap, rfl⟩ := r.shape
    rfl
  exact hK v' _ _ g1 (s.appended ht g1 g2 g3 g4 g5 g6 g7 h1c) fun y hy => by
    rcases (foots_cons _ _ _).1 hy with hy | hy
    · rcases g4 y hy with h | h
      · exact .inl (g7 y h)
      · exact .inr h
    · obtain ⟨q, hq, hyq⟩ := mem_foots.1 hy
      exact .inl (mem_foots.2 ⟨q, (g5 q hq).1, hyq⟩)⟩
/-- something that is owned is given up, and read on: the first one -/
theorem St.freeze {e sz : Nat} {v : Value} {l : List (List A)} {a : Act} {w : World} (s : St c ((t, .c (.v v)) :: f) (.row v e sz l :: L) a w) : St c ((t, .c (.r sz l)) :: f) L a w := by
  have m : Mon (okk c (.row v e sz l :: L)) (okk c L) w w := ⟨Nat.le_refl _, fun g _ ho => ⟨⟨ho.1, fun hx => ho.2 ((foots_cons _ _ _).2 (.inr hx))⟩, rfl⟩⟩
  have ap := List.pairwise_cons.1 s.ap
  refine ⟨s.kp, s.size, s.dfr, fun q hq => (s.res q (List.mem_cons_of_mem _ hq)).mon (Keeps.refl [] w) m (by simp), fun x hx => s.frm x ((foots_cons _ _ _).2 (.inr hx)), ap.2, fun u e' hu => ?_⟩
  by_cases e1 : t = u
  · subst e1
    rw [look_cons_eq] at hu; cases hu
    have hv := s.fr t _ (look_cons_eq _ _ _)
    obtain ⟨xs, r1, r2⟩ := s.res _ (List.mem_cons_self ..)
    unfold RD RA at hv
    rw [hv.1]
    unfold RD
    refine RA.of_view r1.view (RX.mon m _ _ r2) fun g hg => ⟨.inr (s.frm g ((foots_cons _ _ _).2 (.inl hg))), fun hx => ?_⟩
    obtain ⟨q, hq, hxq⟩ := mem_foots.1 hx
    exact ap.1 q hq g hg hxq
  · rw [look_cons_ne e1] at hu
    exact RD.mon m e' _ (s.fr u e' (by rw [look_cons_ne e1]; exact hu))
/-- append: the result is read on -/
theorem Ld.appR {e sz bytes : Nat} {z : Value} [E : TyE P X e sz bytes z] {x y : Operand} {v : Value} {l1 l2 : List (List A)} {L' : List Res} {d2 : D} (ht : t < c.N) (h1 : evD f x = some (.c (.v v))) (hd : Dest L e sz v l1 L') (h2 : evD f y = some d2) (hs : Srce L' sz d2 l2) (hb : (l1.length + l2.length) * bytes ≤ 140737488355328) :
    Ld P c ⟨some t, .call ⟨.builtin .append, #[x, y], #[X, X]⟩, T, ps, af, gd⟩ f L (vfoot v) (fun _ : Unit => (t, .c (.r sz (l1 ++ l2))) :: f) (fun _ => L') := ⟨fun a w s K Q hK =>
  (Ld.appO ht h1 hd h2 hs hb).go a w s K Q fun v' u w' k' s' hf => hK () u w' k' s'.freeze fun y hy => hf y ((foots_cons _ _ _).2 (.inr hy))⟩
end
end Fl
end Go.Proofs.YtgjpdogjekmemaaDoor
