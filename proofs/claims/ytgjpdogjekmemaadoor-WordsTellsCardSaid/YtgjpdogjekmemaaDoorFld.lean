/-
  Operations that make memory, or write to it; calls; the end.
  Conditions: none; nothing of the program stands here.
-/
import Derived.Test.YtgjpdogjekmemaaDoorFlc
import Derived.Test.YtgjpdogjekmemaaDoorRes
namespace Go.Proofs.YtgjpdogjekmemaaDoor
open Go.RowKit
set_option linter.unusedVariables false
set_option linter.unusedSimpArgs false
set_option linter.unnecessarySimpa false

namespace Fl
/-- the zero cells of a type -/
class TyZ' (P : Program) (T : TypeId) (zs : outParam (List Value)) : Prop where
  h : tyZero P T = some zs
  o : zs.all (·.oneCell') = true
  s : tySize P T = some zs.length
/-- a slice type, its elements' type, cells, bytes, zero value -/
class TyE (P : Program) (T : TypeId) (e : outParam TypeId) (sz bytes : outParam Nat) (z : outParam Value) : Prop where h : Elem P T e sz bytes z
def canEnter (P : Program) (F : FuncId) : Bool := match P.funcs[F]? with
  | some fn => fn.name != "runtime.NumGoroutine" && fn.body.isSome
  | none => false
class TyC (P : Program) (F : FuncId) : Prop where h : canEnter P F = true
def vs (zs : List Value) : List A := zs.map A.v
theorem RC.vs {ok : Nat → Prop} {w : World} : ∀ {zs : List Value}, zs.all (·.oneCell') = true → RC ok w (vs zs) zs
  | [], _ => RC.nil
  | z :: zs, h => by
    simp only [List.all_cons, Bool.and_eq_true] at h
    exact RC.cons (by unfold RA; exact ⟨rfl, h.1⟩) (RC.vs h.2)
section
variable (P : Program) (c : Cx)
/-- the operation leads to one of what is told by f' and L'; it writes in the blocks S alone -/
structure Ld (o : Oper) (f : Fm) (L : List Res) (S : List Nat) {ι : Type} (f' : ι → Fm) (L' : ι → List Res) : Prop where
  go : ∀ a w, St c f L a w → ∀ (K : Act → World → Prop) (Q : Exit → Act → World → Prop), (∀ x v w', Keeps S w w' → St c (f' x) (L' x) (a.put o.dst v) w' → (∀ y ∈ foots (L' x), y ∈ foots L ∨ w.heap.size ≤ y) → K (a.put o.dst v) w') → o.wp P a w K Q
end
section
variable {P : Program} {c : Cx} {k : List Item} {f : Fm} {L : List Res} {ops : Array Oper} {l : List Oper} {o : Oper}
theorem JO.ld {S : List Nat} {ι : Type} {f' : ι → Fm} {L' : ι → List Res} (h : Ld P c o f L S f' L') (hw : Wants ops o f = true) (hr : ∀ x, JO P c ops l k (f' x) (L' x)) : JO P c ops (o :: l) k f L := ⟨fun a w s => by
  refine wpList_step fun K hK => ?_
  rw [Wants.run hw s]
  simp only [↓reduceIte]
  exact h.go a w s K _ fun x v w' _ hp _ => hK _ _ ((hr x).go _ w' hp)⟩
theorem okk_cons_new {r : Res} {w : World} (hr : ∀ x ∈ r.foot, w.heap.size ≤ x) : ∀ g, g < w.heap.size → okk c L g → okk c (r :: L) g := fun g hg ho =>
  ⟨ho.1, fun hm => by
    obtain ⟨q, hq, hx⟩ := mem_foots.1 hm
    rcases List.mem_cons.1 hq with rfl | hq
    · have := hr g hx; omega
    · exact ho.2 (mem_foots.2 ⟨q, hq, hx⟩)⟩
/-- something new is owned -/
theorem St.new {a : Act} {w w' : World} {t : Nat} {d : D} {v : Value} {r : Res} (s : St c f L a w) (ht : t < c.N) (k : Keeps [] w w') (hr : ∀ x ∈ r.foot, w.heap.size ≤ x) (h : r.holds (okk c (r :: L)) w') (hd : RD (okk c (r :: L)) w' d v) : St c ((t, d) :: f) (r :: L) (a.put (some t) v) w' := by
  have m : Mon (okk c L) (okk c (r :: L)) w w' := Mon.of_keeps k fun g hg ho => ⟨okk_cons_new hr g hg ho, by simp⟩
  refine s.put ht hd (s.kp.then k) ?_ ?_ ?_ m
  · intro q hq
    rcases List.mem_cons.1 hq with rfl | hq
    · exact h
    · exact (s.res q hq).mon k m (by simp)
  · intro x hx
    obtain ⟨q, hq, hxq⟩ := mem_foots.1 hx
    rcases List.mem_cons.1 hq with e | hq
    · exact .inr (Nat.le_trans s.kp.size (hr x (e ▸ hxq)))
    · exact s.frm x (mem_foots.2 ⟨q, hq, hxq⟩)
  · refine List.pairwise_cons.2 ⟨fun q hq x hx hx' => ?_, s.ap⟩
    have h1 := hr x hx
    have h2 := s.lt x (mem_foots.2 ⟨q, hq, hx'⟩)
    omega
theorem foots_new {r : Res} {w : World} (hr : ∀ x ∈ r.foot, w.heap.size ≤ x) : ∀ y ∈ foots (r :: L), y ∈ foots L ∨ w.heap.size ≤ y := fun y hy => by
  obtain ⟨q, hq, h⟩ := mem_foots.1 hy
  rcases List.mem_cons.1 hq with e | hq
  · exact .inr (hr y (e ▸ h))
  · exact .inl (mem_foots.2 ⟨q, hq, h⟩)
/-- the memory holds the same and more -/
theorem St.more {a : Act} {w w' : World} {t : Nat} {d : D} {v : Value} (s : St c f L a w) (ht : t < c.N) (k : Keeps [] w w') (hd : RD (okk c L) w' d v) : St c ((t, d) :: f) L (a.put (some t) v) w' := by
  have m : Mon (okk c L) (okk c L) w w' := Mon.of_keeps k fun g hg ho => ⟨ho, by simp⟩
  exact s.put ht hd (s.kp.then k) (fun q hq => (s.res q hq).mon k m (by simp)) s.frm s.ap m
theorem tyZero.run {T : Nat} {zs : List Value} (h : tyZero P T = some zs) : ∃ z : Value, z.cells.toList = zs ∧ ∀ w, (zeroValue T).run P w = .ok z w := by
  unfold tyZero at h
  cases hi : P.info? T with
  | none => rw [hi] at h; cases h
  | some i =>
    rw [hi] at h
    cases hz : i.zero with
    | none => simp [hz] at h
    | some z => simp [hz] at h; exact ⟨z, h, fun w => by simp [zeroValue, typeInfo, Sem.run_bind, hi, hz]⟩
variable {T X : TypeId} {ps : String} {af : Array Edge} {gd : Option (Nat × Bool)} {t : Nat}
theorem Ld.alloc {zs : List Value} [i : TyZ' P X zs] (ht : t < c.N) : Ld P c ⟨some t, .alloc X, T, ps, af, gd⟩ f L [] (fun b : Nat => (t, .c (.v (.pointer (some ⟨b, 0, none⟩)))) :: f) (fun b => .box b X (vs zs) :: L) := ⟨fun a w s K Q hK => by
  obtain ⟨z, hz, hr⟩ := tyZero.run i.h
  have hk : Keeps [] w (w.alloc (.cells z.cells X)) := (Keeps.refl [] w).alloc _
  have hrun : (execOp a.eval ⟨some t, .alloc X, T, ps, af, gd⟩).run P w = .ok (.value (.pointer (some ⟨w.heap.size, 0, none⟩))) (w.alloc (.cells z.cells X)) := by
    simp [execOp, Instr.alloc, Sem.run_bind, hr, newVar, newRow]
  unfold Oper.wp
  rw [hrun]
  refine hK w.heap.size _ _ hk (s.new ht hk (by simp [Res.foot]) ⟨zs, ?_, RC.vs i.o⟩ (by unfold RD RA; exact ⟨rfl, rfl⟩)) (foots_new (by simp [Res.foot]))
  subst hz
  have := Blk.new w z.cells.toList X
  simpa using this⟩
/-- the cells of a value of one slot -/
def cellsD : D → Option (List A)
  | .c a => some [a]
  | .agg cs => some cs
  | _ => none
theorem cellsD.rep {d : D} {cs : List A} (h : cellsD d = some cs) {ok : Nat → Prop} {w : World} {x : Value} (r : RD ok w d x) : RC ok w cs x.cells.toList := by
  unfold cellsD at h
  split at h
  · cases h
    unfold RD at r
    have h1 := r.one
    have : x.cells.toList = [x] := by cases x <;> first | rfl | (cases h1; done)
    rw [this]; exact RC.cons r RC.nil
  · cases h
    unfold RD at r
    obtain ⟨vs, rfl, h⟩ := r
    simpa [Value.cells] using h
  · cases h
theorem Ld.box {x : Operand} {d : D} {cs : List A} (ht : t < c.N) (h : evD f x = some d) (hc : cellsD d = some cs) : Ld P c ⟨some t, .box X x, T, ps, af, gd⟩ f L [] (fun b : Nat => (t, .c (.v (.pointer (some ⟨b, 0, none⟩)))) :: f) (fun b => .box b X cs :: L) := ⟨fun a w s K Q hK => by
  have hr := cellsD.rep hc (s.ev h)
  have hk : Keeps [] w (w.alloc (.cells (a.eval x).cells X)) := (Keeps.refl [] w).alloc _
  have hrun : (execOp a.eval ⟨some t, .box X x, T, ps, af, gd⟩).run P w = .ok (.value (.pointer (some ⟨w.heap.size, 0, none⟩))) (w.alloc (.cells (a.eval x).cells X)) := by
    simp [execOp, Instr.box, Sem.run_bind, newVar, newRow]
  unfold Oper.wp
  rw [hrun]
  have hf : ∀ y ∈ (Res.box w.heap.size X cs).foot, w.heap.size ≤ y := by simp [Res.foot]
  refine hK w.heap.size _ _ hk (s.new ht hk hf ⟨(a.eval x).cells.toList, ?_, ?_⟩ (by unfold RD RA; exact ⟨rfl, rfl⟩)) (foots_new hf)
  · have := Blk.new w (a.eval x).cells.toList X
    simpa using this
  · exact RC.mon (Mon.of_keeps hk fun g hg ho => ⟨okk_cons_new hf g hg ho, by simp⟩) cs _ hr⟩
/-! ### stores -/
theorem foots_set {i : Nat} {r r' : Res} (hi : L[i]? = some r) (hf : r'.foot = r.foot) (x : Nat) : x ∈ foots (L.set i r') ↔ x ∈ foots L := by
  have : (L.set i r').map Res.foot = L.map Res.foot := by
    rw [List.map_set]
    apply List.ext_getElem?
    intro j
    rw [List.getElem?_set]
    split
    · rename_i e; subst e
      split
      · rw [List.getElem?_map, hi]; simp [hf]
      · rename_i hn; simp at hn; rw [List.getElem?_eq_none (by simpa using hn)]
    · rfl
  unfold foots
  rw [List.flatMap_def, List.flatMap_def, this]
theorem okk_set {i : Nat} {r r' : Res} (hi : L[i]? = some r) (hf : r'.foot = r.foot) : okk c (L.set i r') = okk c L := by
  funext x; unfold okk; rw [foots_set hi hf]
theorem apart_set : ∀ {L : List Res} {i : Nat} {r r' : Res}, L[i]? = some r → (∀ x, x ∈ r'.foot → x ∈ r.foot) → Apart L → Apart (L.set i r')
  | [], i, r, r', h, hf, ha => by simp at h
  | q :: L, 0, r, r', h, hf, ha => by
    simp at h; subst h
    have := List.pairwise_cons.1 ha
    exact List.pairwise_cons.2 ⟨fun s hs x hx => this.1 s hs x (hf x hx), this.2⟩
  | q :: L, i + 1, r, r', h, hf, ha => by
    simp at h
    have := List.pairwise_cons.1 ha
    simp only [List.set_cons_succ]
    refine List.pairwise_cons.2 ⟨fun s hs x hx hx' => ?_, apart_set h hf this.2⟩
    rcases List.mem_or_eq_of_mem_set hs with hs | rfl
    · exact this.1 s hs x hx hx'
    · exact this.1 r (List.mem_of_getElem? h) x hx (hf x hx')
theorem Apart.ne : ∀ {L : List Res} {i j : Nat} {r q : Res}, Apart L → L[i]? = some r → L[j]? = some q → i ≠ j → ∀ x ∈ r.foot, x ∉ q.foot
  | [], i, j, r, q, ha, hi, hj, hn, x, hx => by simp at hi
  | p :: L, 0, 0, r, q, ha, hi, hj, hn, x, hx => by simp at hn
  | p :: L, 0, j + 1, r, q, ha, hi, hj, hn, x, hx => by
    simp at hi hj; subst hi
    exact (List.pairwise_cons.1 ha).1 q (List.mem_of_getElem? hj) x hx
  | p :: L, i + 1, 0, r, q, ha, hi, hj, hn, x, hx => fun hx' => by
    simp at hi hj; subst hj
    exact (List.pairwise_cons.1 ha).1 r (List.mem_of_getElem? hi) x hx' hx
  | p :: L, i + 1, j + 1, r, q, ha, hi, hj, hn, x, hx => by
    simp at hi hj
    exact Apart.ne (List.pairwise_cons.1 ha).2 hi hj (by omega) x hx
/-- something that is owned has other contents -/
theorem St.set {a : Act} {w w' : World} {i : Nat} {r r' : Res} (s : St c f L a w) (hi : L[i]? = some r) (hf : r'.foot = r.foot) (k : Keeps r.foot w w') (h : r'.holds (okk c L) w') : St c f (L.set i r') a w' := by
  have ho := okk_set (c := c) hi hf
  have hin : ∀ x ∈ r.foot, x ∈ foots L := fun x hx => mem_foots.2 ⟨r, List.mem_of_getElem? hi, hx⟩
  have m : Mon (okk c L) (okk c L) w w' := Mon.of_keeps k fun g hg hg' => ⟨hg', fun hm => hg'.2 (hin g hm)⟩
  refine ⟨s.kp.trans k (fun x hx => s.frm x (hin x hx)), s.size, s.dfr, fun q hq => ?_, fun x hx => s.frm x ((foots_set hi hf x).1 hx), apart_set hi (fun x hx => hf ▸ hx) s.ap, fun t d hd => by rw [ho]; exact RD.mon m d _ (s.fr t d hd)⟩
  rw [ho]
  obtain ⟨j, hj⟩ := List.getElem?_of_mem hq
  rw [List.getElem?_set] at hj
  split at hj
  · split at hj
    · simp at hj; subst hj; exact h
    · cases hj
  · rename_i hne
    exact (s.res q (List.mem_of_getElem? hj)).mon k m (fun x hx hm => Apart.ne s.ap hi hj hne x hm hx)
def Res.isBox : Res → Bool
  | .box _ _ _ => true
  | _ => false
theorem Blk.puts {t : TypeId} {g : Nat} : ∀ (cs p z q : List Value) (w : World), z.length = cs.length → Blk w g (p ++ z ++ q) t → Blk (w.setCells g p.length cs) g (p ++ cs ++ q) t ∧ Keeps [g] w (w.setCells g p.length cs)
  | [], p, z, q, w, h, hb => by
    have : z = [] := List.length_eq_zero_iff.1 h
    subst this
    exact ⟨hb, Keeps.refl _ _⟩
  | c :: cs, p, [], q, w, h, hb => by simp at h
  | c :: cs, p, x :: z, q, w, h, hb => by
    have h1 := hb.set p.length c
    have e : (p ++ x :: z ++ q).set p.length c = (p ++ [c]) ++ z ++ q := by simp
    rw [e] at h1
    obtain ⟨h2, k2⟩ := Blk.puts cs (p ++ [c]) z q (w.setCell ⟨g, p.length, none⟩ c) (by simpa using h) h1
    simp only [List.length_append, List.length_cons, List.length_nil, Nat.zero_add] at h2 k2
    rw [World.setCells]
    refine ⟨by simpa using h2, ((Keeps.refl [g] w).setCell (by simp) c).trans k2 (fun x hx => .inl hx)⟩
def putC (cs : List A) (o : Nat) (new : List A) : List A := cs.take o ++ new ++ cs.drop (o + new.length)
theorem run_storeVar {T n : Nat} (hn : tySize P T = some n) (w : World) (b o : Nat) (x : Value) (hx : x.cells.size = n) (ht : w.there b o n) (h1 : ∀ v ∈ x.cells.toList, v.oneCell' = true) : (storeVar T ⟨b, o, none⟩ x).run P w = .ok () (w.setCells b o x.cells.toList) := by
  have := run_storeCells_cells (P := P) b o x.cells.toList 0 w (fun j hj => by simpa using (ht j (by simpa [hx] using hj)).1) (fun j hj => by simpa using (ht j (by simpa [hx] using hj)).2) h1
  simp only [Nat.add_zero] at this
  simp [storeVar, Sem.run_bind, tySize.run hn, hx, this]
/-- a store into a block that is known whole -/
theorem Ld.storeB (i : Nat) {x y : Operand} {b o n : Nat} {B : TypeId} {cs es : List A} {d : D} [it : TyN P X n] (hx : evD f x = some (.c (.v (.pointer (some ⟨b, o, none⟩))))) (hi : L[i]? = some (.box b B cs)) (hy : evD f y = some d) (hd : cellsD d = some es) (hn : es.length = n) (hl : Nat.ble (o + n) cs.length = true) :
    Ld P c ⟨none, .store X x y, T, ps, af, gd⟩ f L [b] (fun _ : Unit => f) (fun _ => L.set i (.box b B (putC cs o es))) := ⟨fun a w s K Q hK => by
  have hl' : o + n ≤ cs.length := Nat.le_of_ble_eq_true hl
  have rx := s.val hx
  have ry := cellsD.rep hd (s.ev hy)
  obtain ⟨us, h1, h2⟩ := s.res _ (List.mem_of_getElem? hi)
  have hlen := h2.len
  have hsz : (a.eval y).cells.size = n := by have := ry.len; simp at this; omega
  have hb : Blk w b (us.take o ++ (us.drop o).take n ++ us.drop (o + n)) B := by
    have e : us.take o ++ (us.drop o).take n ++ us.drop (o + n) = us := by
      rw [← List.drop_drop, List.append_assoc, List.take_append_drop, List.take_append_drop]
    rw [e]; exact h1
  have hp := Blk.puts (a.eval y).cells.toList (us.take o) ((us.drop o).take n) (us.drop (o + n)) w (by simp; omega) hb
  have ho : (us.take o).length = o := by simp; omega
  rw [ho] at hp
  have hrun := run_storeVar it.h w b o (a.eval y) hsz (fun j hj => ⟨by rw [h1.cell]; simp; omega, h1.free _⟩) ry.one
  have hop : (execOp a.eval ⟨none, .store X x y, T, ps, af, gd⟩).run P w = .ok .skip (w.setCells b o (a.eval y).cells.toList) := by
    simp [execOp, Sem.run_bind, Instr.storeAt, rx, Instr.sureAddr, hrun]
  unfold Oper.wp
  rw [hop]
  refine hK () undef _ hp.2 (s.set hi rfl hp.2 ⟨_, hp.1, ?_⟩) (fun y hy => .inl ((foots_set (r' := .box b B (putC cs o es)) hi rfl y).1 hy))
  have m : Mon (okk c L) (okk c L) w (w.setCells b o (a.eval y).cells.toList) := Mon.of_keeps hp.2 fun g hg hg' => ⟨hg', fun hm => hg'.2 (mem_foots.2 ⟨_, List.mem_of_getElem? hi, by simpa [Res.foot] using hm⟩)⟩
  unfold putC
  rw [hn]
  exact RC.app (RC.app (RC.mon m _ _ (h2.take o)) (RC.mon m _ _ ry)) (RC.mon m _ _ (h2.drop (o + n)))⟩
theorem putC_all {cs es : List A} (h : es.length = cs.length) : putC cs 0 es = es := by simp [putC, h]
theorem putC_one {cs : List A} {o : Nat} {a : A} (h : o < cs.length) : putC cs o [a] = cs.set o a := by
  unfold putC
  apply List.ext_getElem?
  intro j
  simp only [List.length_cons, List.length_nil, Nat.zero_add]
  rcases Nat.lt_trichotomy j o with hj | hj | hj
  · rw [List.append_assoc, List.getElem?_append_left (by simp; omega), List.getElem?_take, if_pos hj, List.getElem?_set_ne (by omega)]
  · subst hj
    rw [List.append_assoc, List.getElem?_append_right (by simp; omega), List.getElem?_set_self h]
    have : j - (List.take j cs).length = 0 := by simp; omega
    rw [this]; rfl
  · rw [List.getElem?_append_right (by simp; omega), List.getElem?_set_ne (by omega), List.getElem?_drop]
    congr 1; simp; omega
end
end Fl
end Go.Proofs.YtgjpdogjekmemaaDoor
