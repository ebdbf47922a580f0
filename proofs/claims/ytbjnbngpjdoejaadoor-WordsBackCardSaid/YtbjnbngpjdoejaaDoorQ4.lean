/-
  Texts Fle Flf Flg Flh of this claim, put together: what they show stands at their heads.
  Conditions: none but those that each theorem states.
-/
import Derived.Test.YtbjnbngpjdoejaaDoorQ3
namespace Go.Proofs.YtbjnbngpjdoejaaDoor
open Go.RowKit
set_option linter.unusedVariables false
set_option linter.unusedSimpArgs false
set_option linter.unnecessarySimpa false

namespace Fl
theorem putC_cons (cs : List A) (o : Nat) (a : A) (es : List A) (h : o < cs.length) : putC cs o (a :: es) = putC (cs.set o a) (o + 1) es := by
  unfold putC
  rw [List.take_add_one, List.take_set, List.getElem?_set_self h]
  simp only [List.length_cons, Option.toList_some]
  rw [List.set_eq_of_length_le (by simp; omega), List.drop_set, if_pos (by omega)]
  simp only [List.append_assoc, List.singleton_append, List.cons_append, List.nil_append]
  rw [show o + (es.length + 1) = o + 1 + es.length by omega]
theorem putC_nil (cs : List A) (o : Nat) : putC cs o [] = cs := by simp [putC]
theorem RX.put {ok : Nat → Prop} {w : World} {sz : Nat} {k : Nat} : ∀ (es : List A) (us : List Value) {l : List (List A)} {xs : List Value} {cs : List A} (o : Nat), RX ok w sz l xs → l[k]? = some cs → cs.length = sz → RC ok w es us → o + es.length ≤ sz → RX ok w sz (l.set k (putC cs o es)) (setFrom xs (k * sz + o) us)
  | [], us, l, xs, cs, o, h, e, hc, hr, ho => by
    unfold RC at hr; subst hr
    rw [putC_nil, setFrom, List.set_eq_of_getElem? e]; exact h
  | a :: es, us, l, xs, cs, o, h, e, hc, hr, ho => by
    unfold RC at hr
    obtain ⟨x, ys, rfl, h1, h2⟩ := hr
    simp only [List.length_cons] at ho
    have hlt := (List.getElem?_eq_some_iff.1 e).1
    have h3 := RX.set k o h e (by omega) h1
    have := RX.put es ys (o + 1) h3 (List.getElem?_set_self hlt) (by simpa using hc) h2 (by omega)
    rw [List.set_set] at this
    rw [putC_cons cs o a es (by omega), setFrom]
    exact this
where
  List.set_eq_of_getElem? {α : Type} {l : List α} {k : Nat} {a : α} (e : l[k]? = some a) : l.set k a = l := by
    apply List.ext_getElem?
    intro j
    rw [List.getElem?_set]
    split
    · rename_i h; subst h
      split
      · exact e.symm
      · rename_i hn; rw [List.getElem?_eq_none (by omega)] at e; cases e
    · rfl
theorem RX.elen {ok : Nat → Prop} {w : World} {sz : Nat} {l : List (List A)} {xs : List Value} {k : Nat} {cs : List A} (h : RX ok w sz l xs) (e : l[k]? = some cs) : cs.length = sz := by
  obtain ⟨vs, h1, _, h3⟩ := h.get k e
  rw [← h3.len, h1]
section
variable {P : Program} {c : Cx} {k : List Item} {f : Fm} {L : List Res} {ops : Array Oper} {l : List Oper} {o : Oper} {T X : TypeId} {ps : String} {af : Array Edge} {gd : Option (Nat × Bool)} {t : Nat}
theorem Ld.storeO (i : Nat) {x y : Operand} {v : Value} {sz q o n : Nat} {e : TypeId} {ll : List (List A)} {cs es : List A} {d : D} [it : TyN P X n] (hx : evD f x = some (.ow v sz q o)) (hi : L[i]? = some (.row v e sz ll)) (hq : ll[q]? = some cs) (hy : evD f y = some d) (hd : cellsD d = some es) (hn : es.length = n) (hl : Nat.ble (o + n) sz = true) :
    Ld P c ⟨none, .store X x y, T, ps, af, gd⟩ f L (vfoot v) (fun _ : Unit => f) (fun _ => L.set i (.row v e sz (ll.set q (putC cs o es)))) := ⟨fun a w s K Q hK => by
  have hl' : o + n ≤ sz := Nat.le_of_ble_eq_true hl
  have rx := s.ev hx
  have ry := cellsD.rep hd (s.ev hy)
  unfold RD at rx
  obtain ⟨g, off, mm, cap, rfl, rx⟩ := rx
  obtain ⟨xs, h1, h2⟩ := s.res _ (List.mem_of_getElem? hi)
  have hlen := RX.len h2
  have hql := (List.getElem?_eq_some_iff.1 hq).1
  have hce := RX.elen h2 hq
  have hsz : (a.eval y).cells.size = n := by have := ry.len; simp at this; omega
  have hks : (q + 1) * sz ≤ ll.length * sz := Nat.mul_le_mul_right _ hql
  rw [Nat.add_mul] at hks
  obtain ⟨r1, r2⟩ := Row.puts (a.eval y).cells.toList w xs (q * sz + o) h1 (by simp; omega)
  obtain ⟨g', off', e1, e2, hg, hc, hf⟩ := h1.cells (by omega)
  obtain ⟨rfl, rfl⟩ := by simpa using e1
  rw [← Nat.add_assoc] at r1 r2
  have hrun := run_storeVar it.h w g (off + q * sz + o) (a.eval y) hsz (fun j hj => ⟨by
    rw [show off + q * sz + o + j = off + (q * sz + o + j) by omega, hc _ (by omega)]; simp; omega, by
    rw [show off + q * sz + o + j = off + (q * sz + o + j) by omega]; exact hf _⟩) ry.one
  have hop : (execOp a.eval ⟨none, .store X x y, T, ps, af, gd⟩).run P w = .ok .skip (w.setCells g (off + q * sz + o) (a.eval y).cells.toList) := by
    simp [execOp, Sem.run_bind, Instr.storeAt, rx, Instr.sureAddr, hrun]
  unfold Oper.wp
  rw [hop]
  have m : Mon (okk c L) (okk c L) w (w.setCells g (off + q * sz + o) (a.eval y).cells.toList) := Mon.of_keeps r2 fun g' hg hg' => ⟨hg', fun hm => hg'.2 (mem_foots.2 ⟨_, List.mem_of_getElem? hi, by simpa [Res.foot] using hm⟩)⟩
  refine hK () undef _ r2 (s.set hi rfl r2 ⟨_, by rw [List.length_set]; exact r1, ?_⟩) (fun y hy => .inl ((foots_set (r' := .row (.slice (some ⟨g, off, none⟩) mm cap) e sz (ll.set q (putC cs o es))) hi rfl y).1 hy))
  exact RX.put es _ o (RX.mon m _ _ h2) hq hce (RC.mon m _ _ ry) (by omega)⟩
theorem Ld.lit0 {e sz : Nat} [i : TyS P X e sz] (ht : t < c.N) : Ld P c ⟨some t, .buildSlice X 0 #[], T, ps, af, gd⟩ f L [] (fun b : Nat => (t, .c (.v (.slice (some ⟨b, 0, none⟩) 0 0))) :: f) (fun b => .row (.slice (some ⟨b, 0, none⟩) 0 0) e sz [] :: L) := ⟨fun a w s K Q hK => by
  have hk : Keeps [] w (w.alloc (.cells #[] e)) := (Keeps.refl [] w).alloc _
  have hrun : (execOp a.eval ⟨some t, .buildSlice X 0 #[], T, ps, af, gd⟩).run P w = .ok (.value (.slice (some ⟨w.heap.size, 0, none⟩) 0 0)) (w.alloc (.cells #[] e)) := by
    simp [execOp, Instr.buildSlice, Sem.run_bind, run_underlying (tyElem.und i.h), tySize.run i.s, Instr.fill, newRow, Array.range_zero']
  unfold Oper.wp
  rw [hrun]
  refine hK w.heap.size _ _ hk (s.new ht hk (by simp [Res.foot, vfoot]) ⟨[], Row.lit w [] e sz 0 (by simp) (by simp [maxLen]), rfl⟩ (by unfold RD RA; exact ⟨rfl, rfl⟩)) (foots_new (by simp [Res.foot, vfoot]))⟩
theorem Ld.lit1 {e sz : Nat} {x : Operand} {d : D} {cs : List A} {zs : List Value} [i : TyS P X e sz] [z : TyZ' P e zs] (ht : t < c.N) (h : evD f x = some d) (hc : cellsD d = some cs) (hn : cs.length = sz) (h0 : Nat.ble 1 sz = true) (hs : Nat.ble sz 1000 = true) : Ld P c ⟨some t, .buildSlice X 1 #[(0, x)], T, ps, af, gd⟩ f L [] (fun b : Nat => (t, .c (.v (.slice (some ⟨b, 0, none⟩) 1 1))) :: f) (fun b => .row (.slice (some ⟨b, 0, none⟩) 1 1) e sz [cs] :: L) := ⟨fun a w s K Q hK => by
  have h0' : 1 ≤ sz := Nat.le_of_ble_eq_true h0
  have hs' : sz ≤ 1000 := Nat.le_of_ble_eq_true hs
  have ry := cellsD.rep hc (s.ev h)
  have hsz : (a.eval x).cells.size = sz := by have := ry.len; simp at this; omega
  obtain ⟨zv, hz1, hz2⟩ := tyZero.run z.h
  have hzs : zv.cells.size = sz := by
    have h1 := z.s.symm.trans i.s
    simp at h1
    rw [← hz1] at h1; simpa using h1
  have hk : Keeps [] w (w.alloc (.cells (a.eval x).cells e)) := (Keeps.refl [] w).alloc _
  have hfill : Instr.fill (fun j => some (j * sz, sz)) ((Array.range sz).map (zv.cells[· % zv.cells.size]!)) [(0, a.eval x)] = some (a.eval x).cells := by
    have e1 := fill_all (a.eval x).cells ((Array.range sz).map (zv.cells[· % zv.cells.size]!)) (by simp [hsz])
    simp only [Nat.zero_add] at e1
    simpa [Instr.fill, hsz] using e1
  have hrun : (execOp a.eval ⟨some t, .buildSlice X 1 #[(0, x)], T, ps, af, gd⟩).run P w = .ok (.value (.slice (some ⟨w.heap.size, 0, none⟩) 1 1)) (w.alloc (.cells (a.eval x).cells e)) := by
    have h1 : ¬ sz > 2 ^ 24 := by omega
    have h2 : ¬ sz = 0 := by omega
    simp only [execOp, Instr.buildSlice, Sem.run_bind, run_underlying (tyElem.und i.h), tySize.run i.s, Result.andThen_ok, Nat.one_mul, h1, h2, ↓reduceIte, hz2, Sem.run_pure, List.map_toArray, List.map_cons, List.map_nil, hfill, newRow, run_newObj_alloc]
  unfold Oper.wp
  rw [hrun]
  have hf : ∀ y ∈ (Res.row (.slice (some ⟨w.heap.size, 0, none⟩) 1 1) e sz [cs]).foot, w.heap.size ≤ y := by simp [Res.foot, vfoot]
  refine hK w.heap.size _ _ hk (s.new ht hk hf ⟨(a.eval x).cells.toList, ?_, ?_⟩ (by unfold RD RA; exact ⟨rfl, rfl⟩)) (foots_new hf)
  · have := Row.lit w (a.eval x).cells.toList e sz 1 (by simp [hsz]) (by simp [maxLen])
    simpa [vfoot] using this
  · refine ⟨(a.eval x).cells.toList, [], by simp, by simpa using hsz, ?_, rfl⟩
    exact RC.mon (Mon.of_keeps hk fun g hg ho => ⟨okk_cons_new hf g hg ho, by simp⟩) cs _ ry⟩
where
  fill_all (u z : Array Value) (h : z.size = u.size) : u.zipIdx.foldl (fun cs x => cs.setIfInBounds (0 + x.2) x.1) z = u := by
    have key : ∀ (l : List Value) (k : Nat) (z : Array Value), k + l.length ≤ z.size → (l.zipIdx k).foldl (fun cs x => cs.setIfInBounds (0 + x.2) x.1) z = (z.toList.take k ++ l ++ z.toList.drop (k + l.length)).toArray := by
      intro l
      induction l with
      | nil => intro k z hz; simp
      | cons x l ih =>
        intro k z hz
        simp only [List.length_cons] at hz
        rw [List.zipIdx_cons, List.foldl_cons, ih (k + 1) _ (by simp; omega)]
        simp only [Nat.zero_add]
        apply congrArg
        simp only [Array.toList_setIfInBounds, List.length_cons]
        rw [List.take_add_one, List.take_set, List.getElem?_set_self (by simp; omega)]
        rw [List.set_eq_of_length_le (by simp; omega), List.drop_set, if_pos (by omega)]
        simp only [Option.toList_some, List.append_assoc, List.singleton_append, List.cons_append, List.nil_append]
        rw [show k + (l.length + 1) = k + 1 + l.length by omega]
    rw [← Array.foldl_toList, Array.toList_zipIdx, key u.toList 0 z (by simp [h])]
    have : List.drop u.size z.toList = [] := List.drop_eq_nil_of_le (by simp [h])
    simp [this]
end
end Fl
end Go.Proofs.YtbjnbngpjdoejaaDoor
namespace Go.Proofs.YtbjnbngpjdoejaaDoor
open Go.RowKit
set_option linter.unusedVariables false
set_option linter.unusedSimpArgs false
set_option linter.unnecessarySimpa false

namespace Fl
theorem foots_cons (r : Res) (L : List Res) (x : Nat) : x ∈ foots (r :: L) ↔ x ∈ r.foot ∨ x ∈ foots L := by simp [foots]
theorem RA.view {ok : Nat → Prop} {w : World} {sz : Nat} {l : List (List A)} {x : Value} (h : RA ok w (.r sz l) x) : ∃ ys S, View w x sz l.length ys S ∧ RX ok w sz l ys ∧ ∀ g ∈ S, ok g := by
  unfold RA at h
  obtain ⟨ao, cap, rfl, h1, h2, h3⟩ := h
  rcases h3 with rfl | ⟨g, off, rfl, hok, hg, hl⟩
  · exact ⟨[], [], ⟨by simp, ao, cap, rfl, by simpa using h1, h2, .inl ⟨rfl, rfl⟩⟩, rfl, by simp⟩
  · have key : ∀ (l : List (List A)) (off : Nat), RL ok w l g off sz → ∃ ys : List Value, ys.length = l.length * sz ∧ w.rangeAt g off ys ∧ RX ok w sz l ys := by
      intro l
      induction l with
      | nil => intro off _; exact ⟨[], by simp, fun j v hj => by simp at hj, rfl⟩
      | cons cs l ih =>
        intro off h
        unfold RL at h
        obtain ⟨⟨vs, a1, a2, a3⟩, h4⟩ := h
        obtain ⟨ys, b1, b2, b3⟩ := ih _ h4
        refine ⟨vs ++ ys, by simp [a1, b1, Nat.add_mul, Nat.add_comm], fun j v hj => ?_, vs, ys, rfl, a1, a3, b3⟩
        by_cases hlt : j < vs.length
        · rw [List.getElem?_append_left hlt] at hj; exact a2 j v hj
        · rw [List.getElem?_append_right (by omega)] at hj
          have := b2 _ v hj
          rw [show off + sz + (j - vs.length) = off + j by omega] at this
          exact this
    obtain ⟨ys, b1, b2, b3⟩ := key l off hl
    exact ⟨ys, [g], ⟨b1, _, cap, rfl, h1, h2, .inr ⟨g, off, rfl, rfl, hg, fun j hj => by rw [List.getElem?_eq_getElem hj]; exact b2 j _ (List.getElem?_eq_getElem hj)⟩⟩, b3, by simpa using hok⟩
theorem RA.of_view {ok : Nat → Prop} {w : World} {sz : Nat} {l : List (List A)} {x : Value} {ys : List Value} {S : List Nat} (h : View w x sz l.length ys S) (hr : RX ok w sz l ys) (hS : ∀ g ∈ S, ok g) : RA ok w (.r sz l) x := by
  unfold RA
  obtain ⟨hl, ao, cap, rfl, h1, h2, h3⟩ := h
  refine ⟨ao, cap, rfl, h1, h2, ?_⟩
  rcases h3 with ⟨h3, _⟩ | ⟨g, off, rfl, rfl, hg, hc⟩
  · exact .inl (List.length_eq_zero_iff.1 h3)
  · refine .inr ⟨g, off, rfl, hS g (by simp), hg, ?_⟩
    have key : ∀ (l : List (List A)) (ys : List Value) (off : Nat), w.rangeAt g off ys → RX ok w sz l ys → RL ok w l g off sz := by
      intro l
      induction l with
      | nil => intro ys off _ _; unfold RL; trivial
      | cons cs l ih =>
        intro ys off hc h
        obtain ⟨vs, us, rfl, a1, a2, a3⟩ := h
        unfold RL
        refine ⟨⟨vs, a1, fun j v hj => hc j v (by rw [List.getElem?_append_left (List.getElem?_eq_some_iff.1 hj).1]; exact hj), a2⟩, ih us (off + sz) (fun j v hj => ?_) a3⟩
        have := hc (sz + j) v (by rw [List.getElem?_append_right (by omega), a1, Nat.add_sub_cancel_left]; exact hj)
        rw [Nat.add_assoc]; exact this
    exact key l ys off (fun j v hj => by rw [hc j (List.getElem?_eq_some_iff.1 hj).1]; exact hj) hr
theorem vfoot_of {w : World} {v : Value} {e : TypeId} {sz n : Nat} {xs : List Value} {S : List Nat} (h : Row w v e sz n xs S) : vfoot v = S := by
  obtain ⟨h0, ao, cap, rfl, h2, h3, h4⟩ := h
  rcases h4 with ⟨rfl, _, _, rfl⟩ | ⟨g, off, cur, rfl, rfl, _⟩ <;> rfl
section
variable {P : Program} {c : Cx} {k : List Item} {f : Fm} {L : List Res} {ops : Array Oper} {l : List Oper} {o : Oper} {T X : TypeId} {ps : String} {af : Array Edge} {gd : Option (Nat × Bool)} {t : Nat}
inductive Dest (L : List Res) (e : TypeId) (sz : Nat) : Value → List (List A) → List Res → Prop
  | own {v m L'} : L = .row v e sz m :: L' → Dest L e sz v m L'
  | nil : Dest L e sz (.slice none 0 0) [] L
inductive Srce (L : List Res) (sz : Nat) : D → List (List A) → Prop
  | read {m} : Srce L sz (.c (.r sz m)) m
  | own (i : Nat) {v e m} : L[i]? = some (.row v e sz m) → Srce L sz (.c (.v v)) m
  | nil : Srce L sz (.c (.v (.slice none 0 0))) []
theorem Ld.append_core {e sz bytes : Nat} {z : Value} [E : TyE P X e sz bytes z] {x y : Operand} {v : Value} {l1 l2 : List (List A)} {L' : List Res} {d2 : D} (h1 : evD f x = some (.c (.v v))) (hd : Dest L e sz v l1 L') (h2 : evD f y = some d2) (hs : Srce L' sz d2 l2) (hb : (l1.length + l2.length) * bytes ≤ 140737488355328)
    {a : Act} {w : World} (s : St c f L a w) : ∃ v' w', (execOp a.eval ⟨some t, .call ⟨.builtin .append, #[x, y], #[X, X]⟩, T, ps, af, gd⟩).run P w = .ok (.value v') w' ∧ Keeps (vfoot v) w w' ∧ Mon (okk c L) (okk c (.row v' e sz (l1 ++ l2) :: L')) w w' ∧ (Res.row v' e sz (l1 ++ l2)).holds (okk c (.row v' e sz (l1 ++ l2) :: L')) w' ∧ (∀ g ∈ vfoot v', g ∈ vfoot v ∨ w.heap.size ≤ g) ∧ (∀ q ∈ L', q ∈ L ∧ ∀ g ∈ q.foot, g ∉ vfoot v) ∧ Apart L' ∧ (∀ g ∈ vfoot v, g ∈ foots L) := by
  have rx := s.val h1
  have ry := s.ev h2
  have hD : ∃ xs, Row w v e sz l1.length xs (vfoot v) ∧ RX (okk c L) w sz l1 xs ∧ (∀ q ∈ L', q ∈ L ∧ ∀ g ∈ q.foot, g ∉ vfoot v) ∧ Apart L' ∧ (∀ g ∈ vfoot v, g ∈ foots L) := by
    cases hd with
    | own e1 =>
      subst e1
      obtain ⟨xs, g1, g2⟩ := s.res _ (List.mem_cons_self ..)
      have ap := List.pairwise_cons.1 s.ap
      exact ⟨xs, g1, g2, fun q hq => ⟨List.mem_cons_of_mem _ hq, fun g hg hg' => ap.1 q hq g hg' hg⟩, ap.2, fun g hg => mem_foots.2 ⟨_, List.mem_cons_self .., hg⟩⟩
    | nil => exact ⟨[], Row.nil w e sz, rfl, fun q hq => ⟨hq, fun g _ hg => by simp [vfoot] at hg⟩, s.ap, fun g hg => by simp [vfoot] at hg⟩
  obtain ⟨xs, r1, r2, r3, r4, r5⟩ := hD
  have hS : ∃ ys S, View w (a.eval y) sz l2.length ys S ∧ RX (okk c L) w sz l2 ys := by
    cases hs with
    | read => unfold RD at ry; obtain ⟨ys, S, g1, g2, _⟩ := ry.view; exact ⟨ys, S, g1, g2⟩
    | own i hi =>
      obtain ⟨ys, g1, g2⟩ := s.res _ (r3 _ (List.mem_of_getElem? hi)).1
      unfold RD RA at ry
      rw [ry.1]
      exact ⟨ys, _, g1.view, g2⟩
    | nil =>
      unfold RD RA at ry
      rw [ry.1]
      exact ⟨[], [], View.nil w sz, rfl⟩
  obtain ⟨ys, S, s1, s2⟩ := hS
  obtain ⟨ao, cap, w', S', hrun, g1, g2, g3, _⟩ := run_app E.h T r1 s1 s2.one hb
  have hvf := vfoot_of g1
  have hm : Mon (okk c L) (okk c (.row (.slice ao (l1.length + l2.length) cap) e sz (l1 ++ l2) :: L')) w w' := by
    refine Mon.of_keeps g2 fun g hg ho => ⟨⟨ho.1, fun hin => ?_⟩, fun hin => ho.2 (r5 g hin)⟩
    rcases (foots_cons _ _ _).1 hin with hin | hin
    · rw [Res.foot, hvf] at hin
      rcases g3 g hin with h | h
      · exact ho.2 (r5 g h)
      · omega
    · obtain ⟨q, hq, hgq⟩ := mem_foots.1 hin
      exact ho.2 (mem_foots.2 ⟨q, (r3 q hq).1, hgq⟩)
  refine ⟨.slice ao (l1.length + l2.length) cap, w', ?_, g2, hm, ⟨xs ++ ys, by rw [hvf, List.length_append]; exact g1, RX.app (RX.mon hm _ _ r2) (RX.mon hm _ _ s2)⟩, fun g hg => by rw [hvf] at hg; exact g3 g hg, r3, r4, r5⟩
  simp [execOp, resolve, invoke, builtin, rx, Sem.run_bind, hrun]
theorem St.appended {e sz : Nat} {v v' : Value} {l1 l2 : List (List A)} {L' : List Res} {a : Act} {w w' : World} (s : St c f L a w) (ht : t < c.N) (k : Keeps (vfoot v) w w') (m : Mon (okk c L) (okk c (.row v' e sz (l1 ++ l2) :: L')) w w') (hh : (Res.row v' e sz (l1 ++ l2)).holds (okk c (.row v' e sz (l1 ++ l2) :: L')) w') (hv : ∀ g ∈ vfoot v', g ∈ vfoot v ∨ w.heap.size ≤ g) (h3 : ∀ q ∈ L', q ∈ L ∧ ∀ g ∈ q.foot, g ∉ vfoot v) (h4 : Apart L') (h5 : ∀ g ∈ vfoot v, g ∈ foots L) (h1 : v'.oneCell' = true) :
    St c ((t, .c (.v v')) :: f) (.row v' e sz (l1 ++ l2) :: L') (a.put (some t) v') w' := by
  refine s.put ht (by unfold RD RA; exact ⟨rfl, h1⟩) (s.kp.trans k (fun g hg => s.frm g (h5 g hg))) ?_ ?_ ?_ m
  · intro q hq
    rcases List.mem_cons.1 hq with rfl | hq
    · exact hh
    · exact (s.res q (h3 q hq).1).mon k m (fun g hg hg' => (h3 q hq).2 g hg hg')
  · intro x hx
    rcases (foots_cons _ _ _).1 hx with hx | hx
    · rcases hv x hx with h | h
      · exact s.frm x (h5 x h)
      · exact .inr (Nat.le_trans s.kp.size h)
    · obtain ⟨q, hq, hxq⟩ := mem_foots.1 hx
      exact s.frm x (mem_foots.2 ⟨q, (h3 q hq).1, hxq⟩)
  · refine List.pairwise_cons.2 ⟨fun q hq x hx hx' => ?_, h4⟩
    rcases hv x hx with h | h
    · exact (h3 q hq).2 x hx' h
    · have := s.lt x (mem_foots.2 ⟨q, (h3 q hq).1, hx'⟩); omega
theorem Ld.appO {e sz bytes : Nat} {z : Value} [E : TyE P X e sz bytes z] {x y : Operand} {v : Value} {l1 l2 : List (List A)} {L' : List Res} {d2 : D} (ht : t < c.N) (h1 : evD f x = some (.c (.v v))) (hd : Dest L e sz v l1 L') (h2 : evD f y = some d2) (hs : Srce L' sz d2 l2) (hb : (l1.length + l2.length) * bytes ≤ 140737488355328) :
    Ld P c ⟨some t, .call ⟨.builtin .append, #[x, y], #[X, X]⟩, T, ps, af, gd⟩ f L (vfoot v) (fun v' : Value => (t, .c (.v v')) :: f) (fun v' => .row v' e sz (l1 ++ l2) :: L') := ⟨fun a w s K Q hK => by
  obtain ⟨v', w', hrun, g1, g2, g3, g4, g5, g6, g7⟩ := Ld.append_core (P := P) (X := X) (t := t) (T := T) (ps := ps) (af := af) (gd := gd) h1 hd h2 hs hb s
  unfold Oper.wp
  rw [hrun]
  have h1c : v'.oneCell' = true := by
    obtain ⟨xs, r, _⟩ := g3
    obtain ⟨ao, cap, rfl⟩ := r.shape
    rfl
  exact hK v' _ _ g1 (s.appended ht g1 g2 g3 g4 g5 g6 g7 h1c) fun y hy => by
    rcases (foots_cons _ _ _).1 hy with hy | hy
    · rcases g4 y hy with h | h
      · exact .inl (g7 y h)
      · exact .inr h
    · obtain ⟨q, hq, hyq⟩ := mem_foots.1 hy
      exact .inl (mem_foots.2 ⟨q, (g5 q hq).1, hyq⟩)⟩
theorem St.freeze {e sz : Nat} {v : Value} {l : List (List A)} {a : Act} {w : World} (s : St c ((t, .c (.v v)) :: f) (.row v e sz l :: L) a w) : St c ((t, .c (.r sz l)) :: f) L a w := by
  have m : Mon (okk c (.row v e sz l :: L)) (okk c L) w w := ⟨Nat.le_refl _, fun g _ ho => ⟨⟨ho.1, fun hx => ho.2 ((foots_cons _ _ _).2 (.inr hx))⟩, rfl⟩⟩
  have ap := List.pairwise_cons.1 s.ap
  refine ⟨s.kp, s.size, s.dfr, fun q hq => (s.res q (List.mem_cons_of_mem _ hq)).mon (Keeps.refl [] w) m (by simp), fun x hx => s.frm x ((foots_cons _ _ _).2 (.inr hx)), ap.2, fun u e' hu => ?_⟩
  by_cases e1 : t = u
  · subst e1
    rw [look_cons_eq] at hu; cases hu
    have hv := s.fr t _ (look_cons_eq _ _ _)
    obtain ⟨xs, r1, r2⟩ := s.res _ (List.mem_cons_self ..)
    unfold RD RA at hv
    rw [hv.1]
    unfold RD
    refine RA.of_view r1.view (RX.mon m _ _ r2) fun g hg => ⟨.inr (s.frm g ((foots_cons _ _ _).2 (.inl hg))), fun hx => ?_⟩
    obtain ⟨q, hq, hxq⟩ := mem_foots.1 hx
    exact ap.1 q hq g hg hxq
  · rw [look_cons_ne e1] at hu
    exact RD.mon m e' _ (s.fr u e' (by rw [look_cons_ne e1]; exact hu))
theorem Ld.appR {e sz bytes : Nat} {z : Value} [E : TyE P X e sz bytes z] {x y : Operand} {v : Value} {l1 l2 : List (List A)} {L' : List Res} {d2 : D} (ht : t < c.N) (h1 : evD f x = some (.c (.v v))) (hd : Dest L e sz v l1 L') (h2 : evD f y = some d2) (hs : Srce L' sz d2 l2) (hb : (l1.length + l2.length) * bytes ≤ 140737488355328) :
    Ld P c ⟨some t, .call ⟨.builtin .append, #[x, y], #[X, X]⟩, T, ps, af, gd⟩ f L (vfoot v) (fun _ : Unit => (t, .c (.r sz (l1 ++ l2))) :: f) (fun _ => L') := ⟨fun a w s K Q hK =>
  (Ld.appO ht h1 hd h2 hs hb).go a w s K Q fun v' u w' k' s' hf => hK () u w' k' s'.freeze fun y hy => hf y ((foots_cons _ _ _).2 (.inr hy))⟩
end
end Fl
end Go.Proofs.YtbjnbngpjdoejaaDoor
namespace Go.Proofs.YtbjnbngpjdoejaaDoor
open Go.RowKit
set_option linter.unusedVariables false
set_option linter.unusedSimpArgs false
set_option linter.unnecessarySimpa false

namespace Fl
inductive LeA : A → A → Prop
  | refl {a} : LeA a a
  | nil {sz} : LeA (.v (.slice none 0 0)) (.r sz [])
inductive LeC : List A → List A → Prop
  | nil : LeC [] []
  | cons {a b xs ys} : LeA a b → LeC xs ys → LeC (a :: xs) (b :: ys)
  | refl {xs} : LeC xs xs
mutual
inductive LeD : D → D → Prop
  | refl {d} : LeD d d
  | c {a b} : LeA a b → LeD (.c a) (.c b)
  | agg {a b} : LeC a b → LeD (.agg a) (.agg b)
  | any {d} : LeD d .any
  | tup {a b} : LeDs a b → LeD (.tup a) (.tup b)
inductive LeDs : List D → List D → Prop
  | nil : LeDs [] []
  | cons {a b xs ys} : LeD a b → LeDs xs ys → LeDs (a :: xs) (b :: ys)
end
theorem LeD.of_eq {a b : D} (h : a = b) : LeD a b := h ▸ .refl
section
variable {ok : Nat → Prop} {w : World}
theorem LeA.rep {a b : A} (h : LeA a b) {x : Value} (r : RA ok w a x) : RA ok w b x := by
  cases h with
  | refl => exact r
  | nil => unfold RA at r ⊢; exact ⟨none, 0, r.1, by simp, by simp [maxLen], .inl rfl⟩
theorem LeC.rep {a b : List A} (h : LeC a b) : ∀ {x : List Value}, RC ok w a x → RC ok w b x := by
  induction h with
  | nil => exact id
  | refl => exact id
  | cons h1 h2 ih => intro x r; unfold RC at r; obtain ⟨y, ys, rfl, r1, r2⟩ := r; exact RC.cons (h1.rep r1) (ih r2)
mutual
theorem LeD.rep {a b : D} : LeD a b → ∀ {x : Value}, RD ok w a x → RD ok w b x
  | .refl, x, r => r
  | .c h, x, r => by unfold RD at r ⊢; exact h.rep r
  | .agg h, x, r => by unfold RD at r ⊢; obtain ⟨vs, h1, h2⟩ := r; exact ⟨vs, h1, h.rep h2⟩
  | .any, x, r => by unfold RD; trivial
  | .tup h, x, r => by unfold RD at r ⊢; obtain ⟨vs, h1, h2⟩ := r; exact ⟨vs, h1, LeDs.rep h h2⟩
theorem LeDs.rep {a b : List D} : LeDs a b → ∀ {x : List Value}, RDs ok w a x → RDs ok w b x
  | .nil, x, r => r
  | .cons h1 h2, x, r => by unfold RDs at r; obtain ⟨y, ys, rfl, r1, r2⟩ := r; exact RDs.cons (LeD.rep h1 r1) (LeDs.rep h2 r2)
end
end

def okr (ok : Nat → Prop) (e : World) (L pL : List Res) (g : Nat) : Prop := (ok g ∨ g ∈ foots L ∨ e.heap.size ≤ g) ∧ g ∉ foots pL
def PostR (ok : Nat → Prop) (e : World) (L : List Res) (pd : D) (pL : List Res) (en : Ending) (w' : World) : Prop :=
  ∃ x, en = .returned x ∧ Keeps (foots L) e w' ∧ (∀ y ∈ foots pL, y ∈ foots L ∨ e.heap.size ≤ y) ∧ Apart pL ∧ (∀ r ∈ pL, r.holds (okr ok e L pL) w') ∧ RD (okr ok e L pL) w' pd x
def SomeR {ι : Type} (ok : Nat → Prop) (e : World) (L : List Res) (post : ι → D × List Res) (en : Ending) (w' : World) : Prop := ∃ i, PostR ok e L (post i).1 (post i).2 en w'
structure Con (P : Program) (F : FuncId) (ds : List D) (L : List Res) {ι : Type} (post : ι → D × List Res) : Prop where
  go : ∀ (ok : Nat → Prop) (e : World) (xs : List Value), RDs ok e ds xs → (∀ r ∈ L, r.holds ok e) → Apart L → (∀ x ∈ foots L, ¬ ok x) → Calls P F xs.toArray e (SomeR ok e L post)
abbrev Pure (P : Program) (F : FuncId) (ds : List D) (d : D) : Prop := Con P F ds [] (fun _ : Unit => (d, []))
def cx (F : FuncId) {ι : Type} (ok : Nat → Prop) (e : World) (L : List Res) (post : ι → D × List Res) (N : Nat) : Cx := ⟨F, SomeR ok e L post, foots L, ok, e, N, none, []⟩
def frm0 : Nat → List D → Fm
  | _, [] => []
  | k, d :: ds => (k, d) :: frm0 (k + 1) ds
theorem look_frm0 : ∀ (ds : List D) (k t : Nat) (d : D), look (frm0 k ds) t = some d → k ≤ t ∧ ds[t - k]? = some d
  | [], k, t, d, h => by simp [frm0, look] at h
  | x :: ds, k, t, d, h => by
    simp only [frm0, look] at h
    cases hb : Nat.beq k t with
    | true =>
      rw [hb] at h
      have := Nat.eq_of_beq_eq_true hb
      subst this
      simp at h; subst h; simp
    | false =>
      rw [hb] at h
      obtain ⟨h1, h2⟩ := look_frm0 ds (k + 1) t d h
      exact ⟨by omega, by rw [show t - k = t - (k + 1) + 1 by omega]; simpa using h2⟩
section
variable {P : Program} {F : FuncId} {ds : List D} {L : List Res} {ι : Type} {post : ι → D × List Res} {fn : Func} {body : Code} {N : Nat}
theorem Con.intro (hf : P.funcs[F]? = some fn) (hb : fn.body = some body) (hN : fn.ntmps = N) (hn : Nat.ble ds.length N = true)
    (h : ∀ ok e, J P (cx F ok e L post N) [.code body] (frm0 0 ds) L) : Con P F ds L post := ⟨fun ok e xs hd hr ha ho cs => by
  have hlen := hd.len
  have hn' : ds.length ≤ N := Nat.le_of_ble_eq_true hn
  let b : Frame := { (default : Frame) with fn := F, kind := .normal }
  have henter : Frame.enter P F xs.toArray .normal = b.at { tmps := xs.toArray ++ Array.replicate (fn.ntmps - xs.toArray.size) undef, defers := [] } [.code body] := by
    simp [Frame.enter, Frame.at, hf, hb, b]
  have m : Mon ok (okk (cx F ok e L post N) L) e e := ⟨Nat.le_refl _, fun g _ hg => ⟨⟨.inl hg, fun hx => ho g hx hg⟩, rfl⟩⟩
  have hst : St (cx F ok e L post N) (frm0 0 ds) L { tmps := xs.toArray ++ Array.replicate (fn.ntmps - xs.toArray.size) undef, defers := [] } e := by
    refine ⟨Keeps.refl _ _, by simp [cx]; omega, rfl, fun r hr' => (hr r hr').mon (Keeps.refl [] e) m (by simp), fun x hx => .inl hx, ha, fun t d ht => ?_⟩
    obtain ⟨_, h2⟩ := look_frm0 ds 0 t d ht
    rw [Nat.sub_zero] at h2
    obtain ⟨x, hx, hx2⟩ := hd.get t h2
    have hlt := (List.getElem?_eq_some_iff.1 hx).1
    have : (xs.toArray ++ Array.replicate (fn.ntmps - xs.toArray.size) undef).getD t undef = x := by
      rw [Array.getD_eq_getD_getElem?, Array.getElem?_append_left (by simpa using hlt)]
      simp [hx]
    rw [this]
    exact RD.mon m d _ hx2
  obtain ⟨en, w', fr, h1, h2, h3, h4⟩ := (h ok e).go _ e hst b cs rfl rfl rfl
  exact ⟨en, w', fr, h1, by rw [henter]; exact h2, h3, h4⟩⟩
end
inductive ResD (P : Program) (f : Fm) (L : List Res) : ResultVar → D → Prop
  | tmp {t d} : look f t = some d → ResD P f L (.tmp t) d
  | cell (i : Nat) {t b T B n cs} [TyA P T n] : look f t = some (.c (.v (.pointer (some ⟨b, 0, none⟩)))) → L[i]? = some (.box b B cs) → cs.length = n → ResD P f L (.cell t T) (.agg cs)
  | cell1 (i : Nat) {t b T B a} [TyV P T] : look f t = some (.c (.v (.pointer (some ⟨b, 0, none⟩)))) → L[i]? = some (.box b B [a]) → ResD P f L (.cell t T) (.c a)
inductive ResDs (P : Program) (f : Fm) (L : List Res) : List ResultVar → List D → Prop
  | nil : ResDs P f L [] []
  | cons {r d rs ds} : ResD P f L r d → ResDs P f L rs ds → ResDs P f L (r :: rs) (d :: ds)
def oneD : List D → D
  | [d] => d
  | ds => .tup ds
def resV (tmps : Array Value) : ResultVar → Sem Value
  | .tmp t => pure (tmps.getD t undef)
  | .cell a t => do loadVar t (← asAddr (tmps.getD a undef))
theorem results_eq (fn : Func) (tmps : Array Value) : results fn tmps = (do let vs ← fn.results.mapM (resV tmps); pure (if h : vs.size = 1 then vs[0] else .tuple vs)) := rfl
section
variable {P : Program} {c : Cx} {f : Fm} {L : List Res}
theorem ResD.run {r : ResultVar} {d : D} (h : ResD P f L r d) {a : Act} {w : World} (s : St c f L a w) : ∃ x, RD (okk c L) w d x ∧ (resV a.tmps r).run P w = .ok x w := by
  cases h with
  | tmp h1 => exact ⟨_, s.fr _ _ h1, rfl⟩
  | @cell i t b T B n cs it h1 h2 h3 =>
    have hv := s.fr _ _ h1
    unfold RD RA at hv
    obtain ⟨vs, g1, g2⟩ := s.res _ (List.mem_of_getElem? h2)
    refine ⟨.agg vs.toArray, by unfold RD; exact ⟨vs, rfl, g2⟩, ?_⟩
    have hlen := g2.len
    have hlc : (loadCells ⟨b, 0, none⟩ vs.length).run P w = .ok vs.toArray w := run_loadCells_list (P := P) w ⟨b, 0, none⟩ _ (fun j v hv => by rw [Addr.add_mid]; exact g1.range j v hv)
    rw [hlen, h3] at hlc
    simp only [resV, hv.1, asAddr, Sem.run_bind, Sem.run_pure, Result.andThen_ok, loadVar, tyAgg.runT it.h, ↓reduceIte, tySize.run it.s, hlc]
  | @cell1 i t b T B e it h1 h2 =>
    have hv := s.fr _ _ h1
    unfold RD RA at hv
    obtain ⟨vs, g1, g2⟩ := s.res _ (List.mem_of_getElem? h2)
    obtain ⟨x, hx, hr⟩ := g2.get 0 rfl
    refine ⟨x, by unfold RD; exact hr, ?_⟩
    have hcell : w.cell? ⟨b, 0, none⟩ = some x := by rw [g1.cell]; exact hx
    have hl : (load ⟨b, 0, none⟩).run P w = .ok x w := by simp [load, Sem.run, hcell]
    simp only [resV, hv.1, asAddr, Sem.run_bind, Sem.run_pure, Result.andThen_ok, loadVar, tyAgg.runF it.h, Bool.false_eq_true, ↓reduceIte, hl]
theorem ResDs.run {rs : List ResultVar} {ds : List D} (h : ResDs P f L rs ds) {a : Act} {w : World} (s : St c f L a w) : ∃ xs, RDs (okk c L) w ds xs ∧ (rs.mapM (resV a.tmps)).run P w = .ok xs w := by
  induction h with
  | nil => exact ⟨[], RDs.nil, rfl⟩
  | cons h1 h2 ih =>
    obtain ⟨x, a1, a2⟩ := h1.run s
    obtain ⟨xs, b1, b2⟩ := ih
    refine ⟨x :: xs, RDs.cons a1 b1, ?_⟩
    rw [List.mapM_cons, Sem.run_bind, a2]
    simp [Sem.run_bind, b2]
end
section
variable {P : Program} {F : FuncId} {ok : Nat → Prop} {e : World} {L0 L L' : List Res} {ι : Type} {post : ι → D × List Res} {fn : Func} {N : Nat} {f : Fm} {k : List Item}
theorem mapM_some {α : Type} {L L' : List α} : ∀ {idx : List Nat}, idx.map (fun i => L[i]?) = L'.map some → ∀ q ∈ L', q ∈ L
  | [], h => by cases L' with | nil => simp | cons x l => simp at h
  | i :: idx, h => by
    cases L' with
    | nil => simp
    | cons x l =>
      simp only [List.map_cons, List.cons.injEq] at h
      intro q hq
      rcases List.mem_cons.1 hq with rfl | hq
      · exact List.mem_of_getElem? h.1
      · exact mapM_some h.2 q hq
theorem apart_idx {L : List Res} (ha : Apart L) : ∀ {idx : List Nat} {L' : List Res}, idx.Nodup → idx.map (fun i => L[i]?) = L'.map some → Apart L'
  | [], L', hn, h => by cases L' with | nil => exact List.Pairwise.nil | cons x l => simp at h
  | i :: idx, L', hn, h => by
    cases L' with
    | nil => simp at h
    | cons x l =>
      simp only [List.map_cons, List.cons.injEq] at h
      have hn2 := List.nodup_cons.1 hn
      refine List.pairwise_cons.2 ⟨fun q hq => ?_, apart_idx ha hn2.2 h.2⟩
      have : ∃ j ∈ idx, L[j]? = some q := by
        have hm : some q ∈ l.map some := List.mem_map.2 ⟨q, hq, rfl⟩
        rw [← h.2] at hm
        exact List.mem_map.1 hm
      obtain ⟨j, hj, hj2⟩ := this
      exact Apart.ne ha h.1 hj2 (fun e => hn2.1 (e ▸ hj))
theorem ret_run (hf : P.funcs[F]? = some fn) {rs : List ResultVar} {ds : List D} (hres : fn.results = rs.toArray) (h : ResDs P f L rs ds) {d : D} {i : ι} (hle : LeD (oneD ds) d) (idx : List Nat) (hnd : idx.Nodup) (hL : idx.map (fun i => L[i]?) = L'.map some) (hp : post i = (d, L')) {a : Act} {w : World} (s : St (cx F ok e L0 post N) f L a w) :
    ∃ x, (results fn a.tmps).run P w = .ok x w ∧ SomeR ok e L0 post (.returned x) w := by
  obtain ⟨xs, h1, h2⟩ := h.run s
  have hr : (results fn a.tmps).run P w = .ok (if h : xs.toArray.size = 1 then xs.toArray[0] else .tuple xs.toArray) w := by
    rw [results_eq, hres, List.mapM_toArray, Sem.run_bind, map_eq_pure_bind, Sem.run_bind, h2]
    rfl
  refine ⟨_, hr, i, ?_⟩
  rw [hp]
  have hsub := mapM_some hL
  have hfo : ∀ x, x ∈ foots L' → x ∈ foots L := fun x hx => by
    obtain ⟨q, hq, hx⟩ := mem_foots.1 hx
    exact mem_foots.2 ⟨q, hsub q hq, hx⟩
  have m : Mon (okk (cx F ok e L0 post N) L) (okr ok e L0 L') w w := ⟨Nat.le_refl _, fun g _ hg => ⟨⟨hg.1, fun hx => hg.2 (hfo g hx)⟩, rfl⟩⟩
  refine ⟨_, rfl, s.kp, fun y hy => s.frm y (hfo y hy), apart_idx s.ap hnd hL, fun r hr => (s.res r (hsub r hr)).mon (Keeps.refl [] w) m (by simp), RD.mon m _ _ (hle.rep ?_)⟩
  cases ds with
  | nil => unfold RDs at h1; subst h1; unfold oneD RD; exact ⟨[], rfl, RDs.nil⟩
  | cons d1 ds =>
    unfold RDs at h1
    obtain ⟨x, ys, rfl, h3, h4⟩ := h1
    cases ds with
    | nil => unfold RDs at h4; subst h4; exact h3
    | cons d2 ds =>
      unfold RDs at h4
      obtain ⟨y, zs, rfl, h5, h6⟩ := h4
      unfold oneD RD
      exact ⟨x :: y :: zs, rfl, RDs.cons h3 (RDs.cons h5 h6)⟩
theorem J.ret (hf : P.funcs[F]? = some fn) {rs : List ResultVar} {ds : List D} (hres : fn.results = rs.toArray) (h : ResDs P f L rs ds) {d : D} (i : ι) (hle : LeD (oneD ds) d) (idx : List Nat) (hnd : idx.Nodup) (hL : idx.map (fun i => L[i]?) = L'.map some) (hp : post i = (d, L')) : J P (cx F ok e L0 post N) (.code .ret :: k) f L := ⟨fun a w s => by
  obtain ⟨x, h1, h2⟩ := ret_run hf hres h hle idx hnd hL hp s
  exact fun b cs hb hk hr => ⟨.returned x, w, _, h2, Steps.one (stepR_ret hr), hb, rfl, s.dfr, hk, fn, by simpa [Frame.atR, hb, cx] using hf, h1⟩⟩
theorem J.fin (hf : P.funcs[F]? = some fn) {rs : List ResultVar} {ds : List D} (hres : fn.results = rs.toArray) (h : ResDs P f L rs ds) {d : D} (i : ι) (hle : LeD (oneD ds) d) (idx : List Nat) (hnd : idx.Nodup) (hL : idx.map (fun i => L[i]?) = L'.map some) (hp : post i = (d, L')) : J P (cx F ok e L0 post N) [] f L := ⟨fun a w s => by
  obtain ⟨x, h1, h2⟩ := ret_run hf hres h hle idx hnd hL hp s
  exact fun b cs hb hk hr => ⟨.returned x, w, _, h2, Steps.one (stepR_end hr), hb, rfl, s.dfr, hk, fn, by simpa [Frame.atR, hb, cx] using hf, h1⟩⟩
end
end Fl
end Go.Proofs.YtbjnbngpjdoejaaDoor
namespace Go.Proofs.YtbjnbngpjdoejaaDoor
open Go.RowKit
set_option linter.unusedVariables false
set_option linter.unusedSimpArgs false
set_option linter.unnecessarySimpa false

namespace Fl
theorem foots_app (L M : List Res) (x : Nat) : x ∈ foots (L ++ M) ↔ x ∈ foots L ∨ x ∈ foots M := by simp [foots]
def evDs (f : Fm) : List Operand → Option (List D)
  | [] => some []
  | x :: xs => match evD f x, evDs f xs with
    | some d, some ds => some (d :: ds)
    | _, _ => none
section
variable {P : Program} {c : Cx} {k : List Item} {f : Fm} {L : List Res} {ops : Array Oper} {l : List Oper} {o : Oper} {T X : TypeId} {ps : String} {af : Array Edge} {gd : Option (Nat × Bool)} {t : Nat}
theorem St.evs {a : Act} {w : World} (s : St c f L a w) : ∀ {xs : List Operand} {ds : List D}, evDs f xs = some ds → RDs (okk c L) w ds (xs.map a.eval)
  | [], ds, h => by simp [evDs] at h; subst h; exact RDs.nil
  | x :: xs, ds, h => by
    unfold evDs at h
    cases h1 : evD f x with
    | none => rw [h1] at h; cases h
    | some d =>
      cases h2 : evDs f xs with
      | none => rw [h1, h2] at h; cases h
      | some ds' => rw [h1, h2] at h; cases h; exact RDs.cons (s.ev h1) (St.evs s h2)
theorem run_enter {F : FuncId} (h : canEnter P F = true) (args : Array Value) (w : World) : (callFunc F args).run P w = .ok (.enter F args) w := by
  unfold canEnter at h
  cases hf : P.funcs[F]? with
  | none => rw [hf] at h; cases h
  | some fn =>
    rw [hf] at h
    simp at h
    have h2 : fn.body ≠ none := by intro hb; simp [hb] at h
    simp [callFunc, Sem.run_bind, hf, h.1, h2]
theorem Ld.call {F : FuncId} {args : List Operand} {tys : Array TypeId} {ds0 ds : List D} {Ll Lr : List Res} {ι : Type} {post : ι → D × List Res} [i : TyC P F] (hC : Con P F ds Ll post) (ht : t < c.N) (h : evDs f args = some ds0) (hle : LeDs ds0 ds) (hL : L = Ll ++ Lr) :
    Ld P c ⟨some t, .call ⟨.value (.func F), args.toArray, tys⟩, T, ps, af, gd⟩ f L (foots Ll) (fun i => (t, (post i).1) :: f) (fun i => (post i).2 ++ Lr) := ⟨fun a w s K Q hK => by
  have hev := hle.rep (s.evs h)
  have hop : (execOp a.eval ⟨some t, .call ⟨.value (.func F), args.toArray, tys⟩, T, ps, af, gd⟩).run P w = .ok (.enter F (args.map a.eval).toArray) w := by
    simp [execOp, resolve, Deferred.ofValue, invoke, Act.eval, Sem.run_bind, run_enter i.h]
  unfold Oper.wp
  rw [hop]
  have hap := List.pairwise_append.1 (show List.Pairwise _ (Ll ++ Lr) from hL ▸ s.ap)
  have hinl : ∀ r ∈ Ll, r ∈ L := fun r hr => hL ▸ List.mem_append_left Lr hr
  have hinr : ∀ r ∈ Lr, r ∈ L := fun r hr => hL ▸ List.mem_append_right Ll hr
  have hfl : ∀ x, x ∈ foots Ll → x ∈ foots L := fun x hx => by rw [hL, foots_app]; exact .inl hx
  have hfr : ∀ x, x ∈ foots Lr → x ∈ foots L := fun x hx => by rw [hL, foots_app]; exact .inr hx
  have hlr : ∀ x, x ∈ foots Ll → x ∉ foots Lr := fun x hx hx' => by
    obtain ⟨q, hq, h1⟩ := mem_foots.1 hx
    obtain ⟨r, hr, h2⟩ := mem_foots.1 hx'
    exact hap.2.2 q hq r hr x h1 h2
  refine Calls.mono (hC.go (okk c L) w (args.map a.eval) hev (fun r hr => s.res r (hinl r hr)) hap.1 (fun x hx ho => ho.2 (hfl x hx))) ?_
  rintro en w' ⟨i, x, rfl, kp, g1, g2, g3, g4⟩
  have hok : ∀ g, g < w'.heap.size → okr (okk c L) w Ll (post i).2 g → okk c ((post i).2 ++ Lr) g := fun g _ hg => by
    obtain ⟨hg, hn⟩ := hg
    rcases hg with hg | hg | hg
    · exact ⟨hg.1, fun hx => by rcases (foots_app _ _ _).1 hx with hx | hx; exact hn hx; exact hg.2 (hfr g hx)⟩
    · exact ⟨.inr (s.frm g (hfl g hg)), fun hx => by rcases (foots_app _ _ _).1 hx with hx | hx; exact hn hx; exact hlr g hg hx⟩
    · exact ⟨.inr (.inr (Nat.le_trans s.kp.size hg)), fun hx => by
        rcases (foots_app _ _ _).1 hx with hx | hx
        · exact hn hx
        · have := s.lt g (hfr g hx); omega⟩
  have m1 : Mon (okr (okk c L) w Ll (post i).2) (okk c ((post i).2 ++ Lr)) w' w' := ⟨Nat.le_refl _, fun g hg ho => ⟨hok g hg ho, rfl⟩⟩
  have hpl : ∀ y, y ∈ foots (post i).2 → y ∈ foots Ll ∨ w.heap.size ≤ y := g1
  have m2 : Mon (okk c L) (okk c ((post i).2 ++ Lr)) w w' := Mon.of_keeps kp fun g hg ho => ⟨⟨ho.1, fun hx => by
    rcases (foots_app _ _ _).1 hx with hx | hx
    · rcases hpl g hx with h | h
      · exact ho.2 (hfl g h)
      · omega
    · exact ho.2 (hfr g hx)⟩, fun hx => ho.2 (hfl g hx)⟩
  refine hK i _ _ kp (s.put ht (RD.mon m1 _ _ g4) (s.kp.trans kp (fun x hx => s.frm x (hfl x hx))) ?_ ?_ ?_ m2) (fun y hy => by
    rcases (foots_app _ _ _).1 hy with hy | hy
    · rcases hpl y hy with h | h
      · exact .inl (hfl y h)
      · exact .inr h
    · exact .inl (hfr y hy))
  · intro q hq
    rcases List.mem_append.1 hq with hq | hq
    · exact (g3 q hq).mon (Keeps.refl [] w') m1 (by simp)
    · exact (s.res q (hinr q hq)).mon kp m2 (fun x hx hx' => hlr x hx' (mem_foots.2 ⟨q, hq, hx⟩))
  · intro x hx
    rcases (foots_app _ _ _).1 hx with hx | hx
    · rcases hpl x hx with h | h
      · exact s.frm x (hfl x h)
      · exact .inr (Nat.le_trans s.kp.size h)
    · exact s.frm x (hfr x hx)
  · refine List.pairwise_append.2 ⟨g2, hap.2.1, fun q hq r hr x hx hx' => ?_⟩
    have hxr : x ∈ foots Lr := mem_foots.2 ⟨r, hr, hx'⟩
    rcases hpl x (mem_foots.2 ⟨q, hq, hx⟩) with h | h
    · exact hlr x h hxr
    · have := s.lt x (hfr x hxr); omega⟩
/-! ### the moves -/
theorem JO.alloc {zs : List Value} [i : TyZ' P X zs] (hw : Wants ops ⟨some t, .alloc X, T, ps, af, gd⟩ f = true) (ht : t < c.N) (h : ∀ b, JO P c ops l k ((t, .c (.v (.pointer (some ⟨b, 0, none⟩)))) :: f) (.box b X (vs zs) :: L)) : JO P c ops (⟨some t, .alloc X, T, ps, af, gd⟩ :: l) k f L :=
  JO.ld (Ld.alloc ht) hw h
theorem JO.box {x : Operand} {d : D} {cs : List A} (hw : Wants ops ⟨some t, .box X x, T, ps, af, gd⟩ f = true) (ht : t < c.N) (hx : evD f x = some d) (hc : cellsD d = some cs) (h : ∀ b, JO P c ops l k ((t, .c (.v (.pointer (some ⟨b, 0, none⟩)))) :: f) (.box b X cs :: L)) : JO P c ops (⟨some t, .box X x, T, ps, af, gd⟩ :: l) k f L :=
  JO.ld (Ld.box ht hx hc) hw h
theorem Ld.storeW {x y : Operand} {b n B i : Nat} {cs es : List A} {d : D} {L' : List Res} [it : TyN P X n] [bx : BoxAt L b B cs i] [st : SetAt L i (.box b B es) L'] (hx : evD f x = some (.c (.v (.pointer (some ⟨b, 0, none⟩))))) (hy : evD f y = some d) (hd : cellsD d = some es) (hn : es.length = n) (hl : cs.length = n) :
    Ld P c ⟨none, .store X x y, T, ps, af, gd⟩ f L [b] (fun _ : Unit => f) (fun _ => L') := by
  have h := Ld.storeB (P := P) (c := c) (T := T) (X := X) (ps := ps) (af := af) (gd := gd) i hx bx.h hy hd hn (by rw [hl, Nat.zero_add]; exact Nat.ble_self_eq_true _)
  rw [putC_all (hn.trans hl.symm), st.h] at h
  exact h
theorem Ld.store1 {x y : Operand} {b o B i : Nat} {cs : List A} {e : A} {L' : List Res} [it : TyN P X 1] [bx : BoxAt L b B cs i] [st : SetAt L i (.box b B (cs.set o e)) L'] (hx : evD f x = some (.c (.v (.pointer (some ⟨b, o, none⟩))))) (hy : evD f y = some (.c e)) (hl : Nat.ble (o + 1) cs.length = true) :
    Ld P c ⟨none, .store X x y, T, ps, af, gd⟩ f L [b] (fun _ : Unit => f) (fun _ => L') := by
  have h := Ld.storeB (P := P) (c := c) (T := T) (X := X) (ps := ps) (af := af) (gd := gd) i hx bx.h hy rfl rfl hl
  rw [putC_one (Nat.le_of_ble_eq_true hl), st.h] at h
  exact h
theorem Ld.storeN {x y : Operand} {b o n B i : Nat} {cs es : List A} {d : D} {L' : List Res} [it : TyN P X n] [bx : BoxAt L b B cs i] [st : SetAt L i (.box b B (putC cs o es)) L'] (hx : evD f x = some (.c (.v (.pointer (some ⟨b, o, none⟩))))) (hy : evD f y = some d) (hd : cellsD d = some es) (hn : es.length = n) (hl : Nat.ble (o + n) cs.length = true) :
    Ld P c ⟨none, .store X x y, T, ps, af, gd⟩ f L [b] (fun _ : Unit => f) (fun _ => L') := by
  have h := Ld.storeB (P := P) (c := c) (T := T) (X := X) (ps := ps) (af := af) (gd := gd) i hx bx.h hy hd hn hl
  rw [st.h] at h
  exact h
theorem Ld.storeOW {x y : Operand} {v : Value} {sz q e i : Nat} {ll : List (List A)} {es : List A} {d : D} {L' : List Res} [it : TyN P X sz] [bx : RowAt L v e sz ll i] [st : SetAt L i (.row v e sz (ll.set q es)) L'] (hx : evD f x = some (.ow v sz q 0)) (hy : evD f y = some d) (hd : cellsD d = some es) (hn : es.length = sz) (hq : q < ll.length) :
    Ld P c ⟨none, .store X x y, T, ps, af, gd⟩ f L (vfoot v) (fun _ : Unit => f) (fun _ => L') := ⟨fun a w s => by
  obtain ⟨xs, h1, h2⟩ := s.res _ (List.mem_of_getElem? bx.h)
  have hl := RX.elen h2 (List.getElem?_eq_getElem hq)
  have h := Ld.storeO (P := P) (c := c) (T := T) (X := X) (ps := ps) (af := af) (gd := gd) i hx bx.h (List.getElem?_eq_getElem hq) hy hd hn (by rw [Nat.zero_add]; exact Nat.ble_self_eq_true _)
  rw [putC_all (hn.trans hl.symm), st.h] at h
  exact h.go a w s⟩
theorem Ld.storeO1 {x y : Operand} {v : Value} {sz q o e i : Nat} {ll : List (List A)} {cs : List A} {u : A} {L' : List Res} [it : TyN P X 1] [bx : RowAt L v e sz ll i] [st : SetAt L i (.row v e sz (ll.set q (cs.set o u))) L'] (hx : evD f x = some (.ow v sz q o)) (hy : evD f y = some (.c u)) (hl : Nat.ble (o + 1) sz = true) (hq : ll[q]? = some cs) :
    Ld P c ⟨none, .store X x y, T, ps, af, gd⟩ f L (vfoot v) (fun _ : Unit => f) (fun _ => L') := ⟨fun a w s => by
  obtain ⟨xs, h1, h2⟩ := s.res _ (List.mem_of_getElem? bx.h)
  have hle := RX.elen h2 hq
  have h := Ld.storeO (P := P) (c := c) (T := T) (X := X) (ps := ps) (af := af) (gd := gd) i hx bx.h hq hy rfl rfl hl
  rw [putC_one (by have := Nat.le_of_ble_eq_true hl; omega), st.h] at h
  exact h.go a w s⟩
theorem Ld.storeON {x y : Operand} {v : Value} {sz q o e n i : Nat} {ll : List (List A)} {cs es : List A} {d : D} {L' : List Res} [it : TyN P X n] [bx : RowAt L v e sz ll i] [st : SetAt L i (.row v e sz (ll.set q (putC cs o es))) L'] (hx : evD f x = some (.ow v sz q o)) (hy : evD f y = some d) (hd : cellsD d = some es) (hn : es.length = n) (hl : Nat.ble (o + n) sz = true) (hq : ll[q]? = some cs) :
    Ld P c ⟨none, .store X x y, T, ps, af, gd⟩ f L (vfoot v) (fun _ : Unit => f) (fun _ => L') := by
  have h := Ld.storeO (P := P) (c := c) (T := T) (X := X) (ps := ps) (af := af) (gd := gd) i hx bx.h hq hy hd hn hl
  rw [st.h] at h
  exact h
theorem Ld.pure {F : FuncId} {args : List Operand} {tys : Array TypeId} {ds0 ds : List D} {d : D} [i : TyC P F] (hC : Pure P F ds d) (ht : t < c.N) (h : evDs f args = some ds0) (hle : LeDs ds0 ds) :
    Ld P c ⟨some t, .call ⟨.value (.func F), args.toArray, tys⟩, T, ps, af, gd⟩ f L [] (fun _ : Unit => (t, d) :: f) (fun _ => L) := Ld.call hC ht h hle (Ll := []) (Lr := L) rfl
theorem JO.lit0 {e sz : Nat} [i : TyS P X e sz] (hw : Wants ops ⟨some t, .buildSlice X 0 #[], T, ps, af, gd⟩ f = true) (ht : t < c.N) (h : ∀ b, JO P c ops l k ((t, .c (.v (.slice (some ⟨b, 0, none⟩) 0 0))) :: f) (.row (.slice (some ⟨b, 0, none⟩) 0 0) e sz [] :: L)) : JO P c ops (⟨some t, .buildSlice X 0 #[], T, ps, af, gd⟩ :: l) k f L :=
  JO.ld (Ld.lit0 ht) hw h
theorem JO.lit1 {e sz : Nat} {x : Operand} {d : D} {cs : List A} {zs : List Value} [i : TyS P X e sz] [z : TyZ' P e zs] (hw : Wants ops ⟨some t, .buildSlice X 1 #[(0, x)], T, ps, af, gd⟩ f = true) (ht : t < c.N) (hx : evD f x = some d) (hc : cellsD d = some cs) (hn : cs.length = sz) (h0 : Nat.ble 1 sz = true) (hs : Nat.ble sz 1000 = true)
    (h : ∀ b, JO P c ops l k ((t, .c (.v (.slice (some ⟨b, 0, none⟩) 1 1))) :: f) (.row (.slice (some ⟨b, 0, none⟩) 1 1) e sz [cs] :: L)) : JO P c ops (⟨some t, .buildSlice X 1 #[(0, x)], T, ps, af, gd⟩ :: l) k f L :=
  JO.ld (Ld.lit1 ht hx hc hn h0 hs) hw h
theorem JO.appO {e sz bytes : Nat} {z : Value} [E : TyE P X e sz bytes z] {x y : Operand} {v : Value} {l1 l2 : List (List A)} {L' : List Res} {d2 : D} (hw : Wants ops ⟨some t, .call ⟨.builtin .append, #[x, y], #[X, X]⟩, T, ps, af, gd⟩ f = true) (ht : t < c.N) (h1 : evD f x = some (.c (.v v))) (hd : Dest L e sz v l1 L') (h2 : evD f y = some d2) (hs : Srce L' sz d2 l2) (hb : (l1.length + l2.length) * bytes ≤ 140737488355328)
    (h : ∀ v', JO P c ops l k ((t, .c (.v v')) :: f) (.row v' e sz (l1 ++ l2) :: L')) : JO P c ops (⟨some t, .call ⟨.builtin .append, #[x, y], #[X, X]⟩, T, ps, af, gd⟩ :: l) k f L :=
  JO.ld (Ld.appO ht h1 hd h2 hs hb) hw h
theorem JO.appR {e sz bytes : Nat} {z : Value} [E : TyE P X e sz bytes z] {x y : Operand} {v : Value} {l1 l2 : List (List A)} {L' : List Res} {d2 : D} (hw : Wants ops ⟨some t, .call ⟨.builtin .append, #[x, y], #[X, X]⟩, T, ps, af, gd⟩ f = true) (ht : t < c.N) (h1 : evD f x = some (.c (.v v))) (hd : Dest L e sz v l1 L') (h2 : evD f y = some d2) (hs : Srce L' sz d2 l2) (hb : (l1.length + l2.length) * bytes ≤ 140737488355328)
    (h : JO P c ops l k ((t, .c (.r sz (l1 ++ l2))) :: f) L') : JO P c ops (⟨some t, .call ⟨.builtin .append, #[x, y], #[X, X]⟩, T, ps, af, gd⟩ :: l) k f L :=
  JO.ld (Ld.appR ht h1 hd h2 hs hb) hw fun _ => h
theorem JO.call {F : FuncId} {args : List Operand} {tys : Array TypeId} {ds0 ds : List D} {Ll Lr : List Res} {ι : Type} {post : ι → D × List Res} [i : TyC P F] (hC : Con P F ds Ll post) (hw : Wants ops ⟨some t, .call ⟨.value (.func F), args.toArray, tys⟩, T, ps, af, gd⟩ f = true) (ht : t < c.N) (h : evDs f args = some ds0) (hle : LeDs ds0 ds) (hL : L = Ll ++ Lr)
    (hk : ∀ i, JO P c ops l k ((t, (post i).1) :: f) ((post i).2 ++ Lr)) : JO P c ops (⟨some t, .call ⟨.value (.func F), args.toArray, tys⟩, T, ps, af, gd⟩ :: l) k f L :=
  JO.ld (Ld.call hC ht h hle hL) hw hk
theorem JO.pure {F : FuncId} {args : List Operand} {tys : Array TypeId} {ds0 ds : List D} {d : D} [i : TyC P F] (hC : Pure P F ds d) (hw : Wants ops ⟨some t, .call ⟨.value (.func F), args.toArray, tys⟩, T, ps, af, gd⟩ f = true) (ht : t < c.N) (h : evDs f args = some ds0) (hle : LeDs ds0 ds)
    (hk : JO P c ops l k ((t, d) :: f) L) : JO P c ops (⟨some t, .call ⟨.value (.func F), args.toArray, tys⟩, T, ps, af, gd⟩ :: l) k f L :=
  JO.call hC hw ht h hle (Ll := []) (Lr := L) rfl fun _ => hk
/-! ### moves that do nothing -/
theorem J.frzB (i j n : Nat) {v : Value} {e : TypeId} {sz : Nat} {ll : List (List A)} {b : Nat} {B : TypeId} {cs : List A} (hi : L[i]? = some (.row v e sz ll)) (hj : L[j]? = some (.box b B cs)) (hc : cs[n]? = some (.v v))
    (h : J P c k f ((L.set j (.box b B (cs.set n (.r sz ll)))).eraseIdx i)) : J P c k f L := ⟨fun a w s => by
  have hne : i ≠ j := fun e => by subst e; rw [hi] at hj; cases hj
  have hlt := (List.getElem?_eq_some_iff.1 hj).1
  -- without row i
  have hm : ∀ q, q ∈ L.eraseIdx i → q ∈ L := fun q hq => List.mem_of_mem_eraseIdx hq
  have ho : ∀ q ∈ L.eraseIdx i, ∀ x ∈ q.foot, x ∉ vfoot v := fun q hq x hx hx' => by
    obtain ⟨m, hm1⟩ := List.mem_iff_getElem?.1 hq
    rw [List.getElem?_eraseIdx] at hm1
    split at hm1
    · exact Apart.ne s.ap hi hm1 (by omega) x hx' hx
    · exact Apart.ne s.ap hi hm1 (by omega) x hx' hx
  have hf : ∀ x, x ∈ foots (L.eraseIdx i) → x ∈ foots L := fun x hx => by
    obtain ⟨q, hq, hx⟩ := mem_foots.1 hx
    exact mem_foots.2 ⟨q, hm q hq, hx⟩
  have mo : Mon (okk c L) (okk c (L.eraseIdx i)) w w := ⟨Nat.le_refl _, fun g _ hg => ⟨⟨hg.1, fun hx => hg.2 (hf g hx)⟩, rfl⟩⟩
  have s1 : St c f (L.eraseIdx i) a w := ⟨s.kp, s.size, s.dfr, fun q hq => (s.res q (hm q hq)).mon (Keeps.refl [] w) mo (by simp), fun x hx => s.frm x (hf x hx), s.ap.sublist (List.eraseIdx_sublist L i), fun t d ht => RD.mon mo d _ (s.fr t d ht)⟩
  obtain ⟨xs, r1, r2⟩ := s.res _ (List.mem_of_getElem? hi)
  have hR : RA (okk c (L.eraseIdx i)) w (.r sz ll) v := RA.of_view r1.view (RX.mon mo _ _ r2) fun g hg => ⟨.inr (s.frm g (mem_foots.2 ⟨_, List.mem_of_getElem? hi, hg⟩)), fun hx => by
    obtain ⟨q, hq, hxq⟩ := mem_foots.1 hx
    exact ho q hq g hxq hg⟩
  have hsome : ∃ j', (L.eraseIdx i)[j']? = some (.box b B cs) ∧ (L.set j (.box b B (cs.set n (.r sz ll)))).eraseIdx i = (L.eraseIdx i).set j' (.box b B (cs.set n (.r sz ll))) := by
    by_cases hij : j < i
    · refine ⟨j, by rw [List.getElem?_eraseIdx, if_pos hij]; exact hj, ?_⟩
      apply List.ext_getElem?
      intro m
      rw [List.getElem?_eraseIdx, List.getElem?_set, List.getElem?_set, List.getElem?_set, List.getElem?_eraseIdx, List.length_eraseIdx]
      have hil := (List.getElem?_eq_some_iff.1 hi).1
      split <;> split <;> (try split) <;> (try split) <;> (try split) <;> first | rfl | omega
    · refine ⟨j - 1, by rw [List.getElem?_eraseIdx, if_neg (by omega), show j - 1 + 1 = j by omega]; exact hj, ?_⟩
      apply List.ext_getElem?
      intro m
      rw [List.getElem?_eraseIdx, List.getElem?_set, List.getElem?_set, List.getElem?_set, List.getElem?_eraseIdx, List.length_eraseIdx]
      have hil := (List.getElem?_eq_some_iff.1 hi).1
      split <;> split <;> (try split) <;> (try split) <;> (try split) <;> first | rfl | omega
  obtain ⟨j', e1, e2⟩ := hsome
  rw [e2] at h
  obtain ⟨vs, b1, b2⟩ := s1.res _ (List.mem_of_getElem? e1)
  refine h.go a w (s1.set e1 rfl (Keeps.refl _ w) ⟨vs, b1, ?_⟩)
  have hc2 := b2.get n (by exact hc)
  obtain ⟨x, hx, hrx⟩ := hc2
  unfold RA at hrx
  obtain ⟨rfl, _⟩ := hrx
  have := RC.set n b2 hR
  have e3 : vs.set n x = vs := by
    apply List.ext_getElem?
    intro m
    rw [List.getElem?_set]
    split
    · rename_i e; subst e
      split
      · exact hx.symm
      · rename_i hn; rw [List.getElem?_eq_none (by omega)] at hx; cases hx
    · rfl
  rw [e3] at this
  exact this⟩
theorem J.cast (t : Nat) {d d' : D} (h1 : look f t = some d) (hle : LeD d d') (h : J P c k ((t, d') :: f) L) : J P c k f L := ⟨fun a w s =>
  h.go a w ⟨s.kp, s.size, s.dfr, s.res, s.frm, s.ap, fun u e hu => by
    by_cases e1 : t = u
    · subst e1; rw [look_cons_eq] at hu; cases hu; exact hle.rep (s.fr t d h1)
    · rw [look_cons_ne e1] at hu; exact s.fr u e hu⟩⟩
end
end Fl
end Go.Proofs.YtbjnbngpjdoejaaDoor
