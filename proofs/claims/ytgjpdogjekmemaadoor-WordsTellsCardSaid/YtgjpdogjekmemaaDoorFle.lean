/-
  Rows that are owned: stores, literals, append; what is owned is given up, and read on.
  Conditions: none; nothing of the program stands here.
-/
import Derived.Test.YtgjpdogjekmemaaDoorFld
namespace Go.Proofs.YtgjpdogjekmemaaDoor
open Go.RowKit
set_option linter.unusedVariables false
set_option linter.unusedSimpArgs false
set_option linter.unnecessarySimpa false

namespace Fl
theorem putC_cons (cs : List A) (o : Nat) (a : A) (es : List A) (h : o < cs.length) : putC cs o (a :: es) = putC (cs.set o a) (o + 1) es := by
  unfold putC
  rw [List.take_add_one, List.take_set, List.getElem?_set_self h]
  simp only [List.length_cons, Option.toList_some]
  rw [List.set_eq_of_length_le (by simp; omega), List.drop_set, if_pos (by omega)]
  simp only [List.append_assoc, List.singleton_append, List.cons_append, List.nil_append]
  rw [show o + (es.length + 1) = o + 1 + es.length by omega]
theorem putC_nil (cs : List A) (o : Nat) : putC cs o [] = cs := by simp [putC]
theorem RX.put {ok : Nat → Prop} {w : World} {sz : Nat} {k : Nat} : ∀ (es : List A) (us : List Value) {l : List (List A)} {xs : List Value} {cs : List A} (o : Nat), RX ok w sz l xs → l[k]? = some cs → cs.length = sz → RC ok w es us → o + es.length ≤ sz → RX ok w sz (l.set k (putC cs o es)) (setFrom xs (k * sz + o) us)
  | [], us, l, xs, cs, o, h, e, hc, hr, ho => by
    unfold RC at hr; subst hr
    rw [putC_nil, setFrom, List.set_eq_of_getElem? e]; exact h
  | a :: es, us, l, xs, cs, o, h, e, hc, hr, ho => by
    unfold RC at hr
    obtain ⟨x, ys, rfl, h1, h2⟩ := hr
    simp only [List.length_cons] at ho
    have hlt := (List.getElem?_eq_some_iff.1 e).1
    have h3 := RX.set k o h e (by omega) h1
    have := RX.put es ys (o + 1) h3 (List.getElem?_set_self hlt) (by simpa using hc) h2 (by omega)
    rw [List.set_set] at this
    rw [putC_cons cs o a es (by omega), setFrom]
    exact this
where
  List.set_eq_of_getElem? {α : Type} {l : List α} {k : Nat} {a : α} (e : l[k]? = some a) : l.set k a = l := by
    apply List.ext_getElem?
    intro j
    rw [List.getElem?_set]
    split
    · rename_i h; subst h
      split
      · exact e.symm
      · rename_i hn; rw [List.getElem?_eq_none (by omega)] at e; cases e
    · rfl
theorem RX.elen {ok : Nat → Prop} {w : World} {sz : Nat} {l : List (List A)} {xs : List Value} {k : Nat} {cs : List A} (h : RX ok w sz l xs) (e : l[k]? = some cs) : cs.length = sz := by
  obtain ⟨vs, h1, _, h3⟩ := h.get k e
  rw [← h3.len, h1]
section
variable {P : Program} {c : Cx} {k : List Item} {f : Fm} {L : List Res} {ops : Array Oper} {l : List Oper} {o : Oper} {T X : TypeId} {ps : String} {af : Array Edge} {gd : Option (Nat × Bool)} {t : Nat}
/-- a store into an element of a row that is owned -/
theorem Ld.storeO (i : Nat) {x y : Operand} {v : Value} {sz q o n : Nat} {e : TypeId} {ll : List (List A)} {cs es : List A} {d : D} [it : TyN P X n] (hx : evD f x = some (.ow v sz q o)) (hi : L[i]? = some (.row v e sz ll)) (hq : ll[q]? = some cs) (hy : evD f y = some d) (hd : cellsD d = some es) (hn : es.length = n) (hl : Nat.ble (o + n) sz = true) :
    Ld P c ⟨none, .store X x y, T, ps, af, gd⟩ f L (vfoot v) (fun _ : Unit => f) (fun _ => L.set i (.row v e sz (ll.set q (putC cs o es)))) := ⟨fun a w s K Q hK => by
  have hl' : o + n ≤ sz := Nat.le_of_ble_eq_true hl
  have rx := s.ev hx
  have ry := cellsD.rep hd (s.ev hy)
  unfold RD at rx
  obtain ⟨g, off, mm, cap, rfl, rx⟩ := rx
  obtain ⟨xs, h1, h2⟩ := s.res _ (List.mem_of_getElem? hi)
  have hlen := RX.len h2
  have hql := (List.getElem?_eq_some_iff.1 hq).1
  have hce := RX.elen h2 hq
  have hsz : (a.eval y).cells.size = n := by have := ry.len; simp at this; omega
  have hks : (q + 1) * sz ≤ ll.length * sz := Nat.mul_le_mul_right _ hql
  rw [Nat.add_mul] at hks
  obtain ⟨r1, r2⟩ := Row.puts (a.eval y).cells.toList w xs (q * sz + o) h1 (by simp; omega)
  obtain ⟨g', off', e1, e2, hg, hc, hf⟩ := h1.cells (by omega)
  obtain ⟨rfl, rfl⟩ := by simpa using e1
  rw [← Nat.add_assoc] at r1 r2
  have hrun := run_storeVar it.h w g (off + q * sz + o) (a.eval y) hsz (fun j hj => ⟨by
    rw [show off + q * sz + o + j = off + (q * sz + o + j) by omega, hc _ (by omega)]; simp; omega, by
    rw [show off + q * sz + o + j = off + (q * sz + o + j) by omega]; exact hf _⟩) ry.one
  have hop : (execOp a.eval ⟨none, .store X x y, T, ps, af, gd⟩).run P w = .ok .skip (w.setCells g (off + q * sz + o) (a.eval y).cells.toList) := by
    simp [execOp, Sem.run_bind, Instr.storeAt, rx, Instr.sureAddr, hrun]
  unfold Oper.wp
  rw [hop]
  have m : Mon (okk c L) (okk c L) w (w.setCells g (off + q * sz + o) (a.eval y).cells.toList) := Mon.of_keeps r2 fun g' hg hg' => ⟨hg', fun hm => hg'.2 (mem_foots.2 ⟨_, List.mem_of_getElem? hi, by simpa [Res.foot] using hm⟩)⟩
  refine hK () undef _ r2 (s.set hi rfl r2 ⟨_, by rw [List.length_set]; exact r1, ?_⟩) (fun y hy => .inl ((foots_set (r' := .row (.slice (some ⟨g, off, none⟩) mm cap) e sz (ll.set q (putC cs o es))) hi rfl y).1 hy))
  exact RX.put es _ o (RX.mon m _ _ h2) hq hce (RC.mon m _ _ ry) (by omega)⟩
/-- an empty slice literal -/
theorem Ld.lit0 {e sz : Nat} [i : TyS P X e sz] (ht : t < c.N) : Ld P c ⟨some t, .buildSlice X 0 #[], T, ps, af, gd⟩ f L [] (fun b : Nat => (t, .c (.v (.slice (some ⟨b, 0, none⟩) 0 0))) :: f) (fun b => .row (.slice (some ⟨b, 0, none⟩) 0 0) e sz [] :: L) := ⟨fun a w s K Q hK => by
  have hk : Keeps [] w (w.alloc (.cells #[] e)) := (Keeps.refl [] w).alloc _
  have hrun : (execOp a.eval ⟨some t, .buildSlice X 0 #[], T, ps, af, gd⟩).run P w = .ok (.value (.slice (some ⟨w.heap.size, 0, none⟩) 0 0)) (w.alloc (.cells #[] e)) := by
    simp [execOp, Instr.buildSlice, Sem.run_bind, run_underlying (tyElem.und i.h), tySize.run i.s, Instr.fill, newRow, Array.range_zero']
  unfold Oper.wp
  rw [hrun]
  refine hK w.heap.size _ _ hk (s.new ht hk (by simp [Res.foot, vfoot]) ⟨[], Row.lit w [] e sz 0 (by simp) (by simp [maxLen]), rfl⟩ (by unfold RD RA; exact ⟨rfl, rfl⟩)) (foots_new (by simp [Res.foot, vfoot]))⟩
/-- a slice literal of one element -/
theorem Ld.lit1 {e sz : Nat} {x : Operand} {d : D} {cs : List A} {zs : List Value} [i : TyS P X e sz] [z : TyZ' P e zs] (ht : t < c.N) (h : evD f x = some d) (hc : cellsD d = some cs) (hn : cs.length = sz) (h0 : Nat.ble 1 sz = true) (hs : Nat.ble sz 1000 = true) : Ld P c ⟨some t, .buildSlice X 1 #[(0, x)], T, ps, af, gd⟩ f L [] (fun b : Nat => (t, .c (.v (.slice (some ⟨b, 0, none⟩) 1 1))) :: f) (fun b => .row (.slice (some ⟨b, 0, none⟩) 1 1) e sz [cs] :: L) := ⟨fun a w s K Q hK => by
  have h0' : 1 ≤ sz := Nat.le_of_ble_eq_true h0
  have hs' : sz ≤ 1000 := Nat.le_of_ble_eq_true hs
  have ry := cellsD.rep hc (s.ev h)
  have hsz : (a.eval x).cells.size = sz := by have := ry.len; simp at this; omega
  obtain ⟨zv, hz1, hz2⟩ := tyZero.run z.h
  have hzs : zv.cells.size = sz := by
    have h1 := z.s.symm.trans i.s
    simp at h1
    rw [← hz1] at h1; simpa using h1
  have hk : Keeps [] w (w.alloc (.cells (a.eval x).cells e)) := (Keeps.refl [] w).alloc _
  have hfill : Instr.fill (fun j => some (j * sz, sz)) ((Array.range sz).map (zv.cells[· % zv.cells.size]!)) [(0, a.eval x)] = some (a.eval x).cells := by
    have e1 := fill_all (a.eval x).cells ((Array.range sz).map (zv.cells[· % zv.cells.size]!)) (by simp [hsz])
    simp only [Nat.zero_add] at e1
    simpa [Instr.fill, hsz] using e1
  have hrun : (execOp a.eval ⟨some t, .buildSlice X 1 #[(0, x)], T, ps, af, gd⟩).run P w = .ok (.value (.slice (some ⟨w.heap.size, 0, none⟩) 1 1)) (w.alloc (.cells (a.eval x).cells e)) := by
    have h1 : ¬ sz > 2 ^ 24 := by omega
    have h2 : ¬ sz = 0 := by omega
    simp only [execOp, Instr.buildSlice, Sem.run_bind, run_underlying (tyElem.und i.h), tySize.run i.s, Result.andThen_ok, Nat.one_mul, h1, h2, ↓reduceIte, hz2, Sem.run_pure, List.map_toArray, List.map_cons, List.map_nil, hfill, newRow, run_newObj_alloc]
  unfold Oper.wp
  rw [hrun]
  have hf : ∀ y ∈ (Res.row (.slice (some ⟨w.heap.size, 0, none⟩) 1 1) e sz [cs]).foot, w.heap.size ≤ y := by simp [Res.foot, vfoot]
  refine hK w.heap.size _ _ hk (s.new ht hk hf ⟨(a.eval x).cells.toList, ?_, ?_⟩ (by unfold RD RA; exact ⟨rfl, rfl⟩)) (foots_new hf)
  · have := Row.lit w (a.eval x).cells.toList e sz 1 (by simp [hsz]) (by simp [maxLen])
    simpa [vfoot] using this
  · refine ⟨(a.eval x).cells.toList, [], by simp, by simpa using hsz, ?_, rfl⟩
    exact RC.mon (Mon.of_keeps hk fun g hg ho => ⟨okk_cons_new hf g hg ho, by simp⟩) cs _ ry⟩
where
  fill_all (u z : Array Value) (h : z.size = u.size) : u.zipIdx.foldl (fun cs x => cs.setIfInBounds (0 + x.2) x.1) z = u := by
    have key : ∀ (l : List Value) (k : Nat) (z : Array Value), k + l.length ≤ z.size → (l.zipIdx k).foldl (fun cs x => cs.setIfInBounds (0 + x.2) x.1) z = (z.toList.take k ++ l ++ z.toList.drop (k + l.length)).toArray := by
      intro l
      induction l with
      | nil => intro k z hz; simp
      | cons x l ih =>
        intro k z hz
        simp only [List.length_cons] at hz
        rw [List.zipIdx_cons, List.foldl_cons, ih (k + 1) _ (by simp; omega)]
        simp only [Nat.zero_add]
        apply congrArg
        simp only [Array.toList_setIfInBounds, List.length_cons]
        rw [List.take_add_one, List.take_set, List.getElem?_set_self (by simp; omega)]
        rw [List.set_eq_of_length_le (by simp; omega), List.drop_set, if_pos (by omega)]
        simp only [Option.toList_some, List.append_assoc, List.singleton_append, List.cons_append, List.nil_append]
        rw [show k + (l.length + 1) = k + 1 + l.length by omega]
    rw [← Array.foldl_toList, Array.toList_zipIdx, key u.toList 0 z (by simp [h])]
    have : List.drop u.size z.toList = [] := List.drop_eq_nil_of_le (by simp [h])
    simp [this]
end
end Fl
end Go.Proofs.YtgjpdogjekmemaaDoor
