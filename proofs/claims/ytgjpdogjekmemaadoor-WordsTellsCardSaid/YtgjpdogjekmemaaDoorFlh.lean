/-
  Calls by contract, and the moves of a walk, one for each kind of operation.
  Conditions: none; nothing of the program stands here.
-/
import Derived.Test.YtgjpdogjekmemaaDoorFlg
namespace Go.Proofs.YtgjpdogjekmemaaDoor
open Go.RowKit
set_option linter.unusedVariables false
set_option linter.unusedSimpArgs false
set_option linter.unnecessarySimpa false

namespace Fl
theorem foots_app (L M : List Res) (x : Nat) : x ∈ foots (L ++ M) ↔ x ∈ foots L ∨ x ∈ foots M := by simp [foots]
def evDs (f : Fm) : List Operand → Option (List D)
  | [] => some []
  | x :: xs => match evD f x, evDs f xs with
    | some d, some ds => some (d :: ds)
    | _, _ => none
section
variable {P : Program} {c : Cx} {k : List Item} {f : Fm} {L : List Res} {ops : Array Oper} {l : List Oper} {o : Oper} {T X : TypeId} {ps : String} {af : Array Edge} {gd : Option (Nat × Bool)} {t : Nat}
theorem St.evs {a : Act} {w : World} (s : St c f L a w) : ∀ {xs : List Operand} {ds : List D}, evDs f xs = some ds → RDs (okk c L) w ds (xs.map a.eval)
  | [], ds, h => by simp [evDs] at h; subst h; exact RDs.nil
  | x :: xs, ds, h => by
    unfold evDs at h
    cases h1 : evD f x with
    | none => rw [h1] at h; cases h
    | some d =>
      cases h2 : evDs f xs with
      | none => rw [h1, h2] at h; cases h
      | some ds' => rw [h1, h2] at h; cases h; exact RDs.cons (s.ev h1) (St.evs s h2)
theorem run_enter {F : FuncId} (h : canEnter P F = true) (args : Array Value) (w : World) : (callFunc F args).run P w = .ok (.enter F args) w := by
  unfold canEnter at h
  cases hf : P.funcs[F]? with
  | none => rw [hf] at h; cases h
  | some fn =>
    rw [hf] at h
    simp at h
    have h2 : fn.body ≠ none := by intro hb; simp [hb] at h
    simp [callFunc, Sem.run_bind, hf, h.1, h2]
theorem Ld.call {F : FuncId} {args : List Operand} {tys : Array TypeId} {ds0 ds : List D} {Ll Lr : List Res} {ι : Type} {post : ι → D × List Res} [i : TyC P F] (hC : Con P F ds Ll post) (ht : t < c.N) (h : evDs f args = some ds0) (hle : LeDs ds0 ds) (hL : L = Ll ++ Lr) :
    Ld P c ⟨some t, .call ⟨.value (.func F), args.toArray, tys⟩, T, ps, af, gd⟩ f L (foots Ll) (fun i => (t, (post i).1) :: f) (fun i => (post i).2 ++ Lr) := ⟨fun a w s K Q hK => by
  have hev := hle.rep (s.evs h)
  have hop : (execOp a.eval ⟨some t, .call ⟨.value (.func F), args.toArray, tys⟩, T, ps, af, gd⟩).run P w = .ok (.enter F (args.map a.eval).toArray) w := by
    simp [execOp, resolve, Deferred.ofValue, invoke, Act.eval, Sem.run_bind, run_enter i.h]
  unfold Oper.wp
  rw [hop]
  have hap := List.pairwise_append.1 (show List.Pairwise _ (Ll ++ Lr) from hL ▸ s.ap)
  have hinl : ∀ r ∈ Ll, r ∈ L := fun r hr => hL ▸ List.mem_append_left Lr hr
  have hinr : ∀ r ∈ Lr, r ∈ L := fun r hr => hL ▸ List.mem_append_right Ll hr
  have hfl : ∀ x, x ∈ foots Ll → x ∈ foots L := fun x hx => by rw [hL, foots_app]; exact .inl hx
  have hfr : ∀ x, x ∈ foots Lr → x ∈ foots L := fun x hx => by rw [hL, foots_app]; exact .inr hx
  have hlr : ∀ x, x ∈ foots Ll → x ∉ foots Lr := fun x hx hx' => by
    obtain ⟨q, hq, h1⟩ := mem_foots.1 hx
    obtain ⟨r, hr, h2⟩ := mem_foots.1 hx'
    exact hap.2.2 q hq r hr x h1 h2
  refine Calls.mono (hC.go (okk c L) w (args.map a.eval) hev (fun r hr => s.res r (hinl r hr)) hap.1 (fun x hx ho => ho.2 (hfl x hx))) ?_
  rintro en w' ⟨i, x, rfl, kp, g1, g2, g3, g4⟩
  have hok : ∀ g, g < w'.heap.size → okr (okk c L) w Ll (post i).2 g → okk c ((post i).2 ++ Lr) g := fun g _ hg => by
    obtain ⟨hg, hn⟩ := hg
    rcases hg with hg | hg | hg
    · exact ⟨hg.1, fun hx => by rcases (foots_app _ _ _).1 hx with hx | hx; exact hn hx; exact hg.2 (hfr g hx)⟩
    · exact ⟨.inr (s.frm g (hfl g hg)), fun hx => by rcases (foots_app _ _ _).1 hx with hx | hx; exact hn hx; exact hlr g hg hx⟩
    · exact ⟨.inr (.inr (Nat.le_trans s.kp.size hg)), fun hx => by
        rcases (foots_app _ _ _).1 hx with hx | hx
        · exact hn hx
        · have := s.lt g (hfr g hx); omega⟩
  have m1 : Mon (okr (okk c L) w Ll (post i).2) (okk c ((post i).2 ++ Lr)) w' w' := ⟨Nat.le_refl _, fun g hg ho => ⟨hok g hg ho, rfl⟩⟩
  have hpl : ∀ y, y ∈ foots (post i).2 → y ∈ foots Ll ∨ w.heap.size ≤ y := g1
  have m2 : Mon (okk c L) (okk c ((post i).2 ++ Lr)) w w' := Mon.of_keeps kp fun g hg ho => ⟨⟨ho.1, fun hx => by
    rcases (foots_app _ _ _).1 hx with hx | hx
    · rcases hpl g hx with h | h
      · exact ho.2 (hfl g h)
      · omega
    · exact ho.2 (hfr g hx)⟩, fun hx => ho.2 (hfl g hx)⟩
  refine hK i _ _ kp (s.put ht (RD.mon m1 _ _ g4) (s.kp.trans kp (fun x hx => s.frm x (hfl x hx))) ?_ ?_ ?_ m2) (fun y hy => by
    rcases (foots_app _ _ _).1 hy with hy | hy
    · rcases hpl y hy with h | h
      · exact .inl (hfl y h)
      · exact .inr h
    · exact .inl (hfr y hy))
  · intro q hq
    rcases List.mem_append.1 hq with hq | hq
    · exact (g3 q hq).mon (Keeps.refl [] w') m1 (by simp)
    · exact (s.res q (hinr q hq)).mon kp m2 (fun x hx hx' => hlr x hx' (mem_foots.2 ⟨q, hq, hx⟩))
  · intro x hx
    rcases (foots_app _ _ _).1 hx with hx | hx
    · rcases hpl x hx with h | h
      · exact s.frm x (hfl x h)
      · exact .inr (Nat.le_trans s.kp.size h)
    · exact s.frm x (hfr x hx)
  · refine List.pairwise_append.2 ⟨g2, hap.2.1, fun q hq r hr x hx hx' => ?_⟩
    have hxr : x ∈ foots Lr := mem_foots.2 ⟨r, hr, hx'⟩
    rcases hpl x (mem_foots.2 ⟨q, hq, hx⟩) with h | h
    · exact hlr x h hxr
    · have := s.lt x (hfr x hxr); omega⟩
/-! ### the moves -/
theorem JO.alloc {zs : List Value} [i : TyZ' P X zs] (hw : Wants ops ⟨some t, .alloc X, T, ps, af, gd⟩ f = true) (ht : t < c.N) (h : ∀ b, JO P c ops l k ((t, .c (.v (.pointer (some ⟨b, 0, none⟩)))) :: f) (.box b X (vs zs) :: L)) : JO P c ops (⟨some t, .alloc X, T, ps, af, gd⟩ :: l) k f L :=
  JO.ld (Ld.alloc ht) hw h
theorem JO.box {x : Operand} {d : D} {cs : List A} (hw : Wants ops ⟨some t, .box X x, T, ps, af, gd⟩ f = true) (ht : t < c.N) (hx : evD f x = some d) (hc : cellsD d = some cs) (h : ∀ b, JO P c ops l k ((t, .c (.v (.pointer (some ⟨b, 0, none⟩)))) :: f) (.box b X cs :: L)) : JO P c ops (⟨some t, .box X x, T, ps, af, gd⟩ :: l) k f L :=
  JO.ld (Ld.box ht hx hc) hw h
/-- a block is written whole -/
theorem Ld.storeW {x y : Operand} {b n B i : Nat} {cs es : List A} {d : D} {L' : List Res} [it : TyN P X n] [bx : BoxAt L b B cs i] [st : SetAt L i (.box b B es) L'] (hx : evD f x = some (.c (.v (.pointer (some ⟨b, 0, none⟩))))) (hy : evD f y = some d) (hd : cellsD d = some es) (hn : es.length = n) (hl : cs.length = n) :
    Ld P c ⟨none, .store X x y, T, ps, af, gd⟩ f L [b] (fun _ : Unit => f) (fun _ => L') := by
  have h := Ld.storeB (P := P) (c := c) (T := T) (X := X) (ps := ps) (af := af) (gd := gd) i hx bx.h hy hd hn (by rw [hl, Nat.zero_add]; exact Nat.ble_self_eq_true _)
  rw [putC_all (hn.trans hl.symm), st.h] at h
  exact h
/-- one cell of a block is written -/
theorem Ld.store1 {x y : Operand} {b o B i : Nat} {cs : List A} {e : A} {L' : List Res} [it : TyN P X 1] [bx : BoxAt L b B cs i] [st : SetAt L i (.box b B (cs.set o e)) L'] (hx : evD f x = some (.c (.v (.pointer (some ⟨b, o, none⟩))))) (hy : evD f y = some (.c e)) (hl : Nat.ble (o + 1) cs.length = true) :
    Ld P c ⟨none, .store X x y, T, ps, af, gd⟩ f L [b] (fun _ : Unit => f) (fun _ => L') := by
  have h := Ld.storeB (P := P) (c := c) (T := T) (X := X) (ps := ps) (af := af) (gd := gd) i hx bx.h hy rfl rfl hl
  rw [putC_one (Nat.le_of_ble_eq_true hl), st.h] at h
  exact h
/-- some cells of a block are written -/
theorem Ld.storeN {x y : Operand} {b o n B i : Nat} {cs es : List A} {d : D} {L' : List Res} [it : TyN P X n] [bx : BoxAt L b B cs i] [st : SetAt L i (.box b B (putC cs o es)) L'] (hx : evD f x = some (.c (.v (.pointer (some ⟨b, o, none⟩))))) (hy : evD f y = some d) (hd : cellsD d = some es) (hn : es.length = n) (hl : Nat.ble (o + n) cs.length = true) :
    Ld P c ⟨none, .store X x y, T, ps, af, gd⟩ f L [b] (fun _ : Unit => f) (fun _ => L') := by
  have h := Ld.storeB (P := P) (c := c) (T := T) (X := X) (ps := ps) (af := af) (gd := gd) i hx bx.h hy hd hn hl
  rw [st.h] at h
  exact h
/-- an element of a row is written whole -/
theorem Ld.storeOW {x y : Operand} {v : Value} {sz q e i : Nat} {ll : List (List A)} {es : List A} {d : D} {L' : List Res} [it : TyN P X sz] [bx : RowAt L v e sz ll i] [st : SetAt L i (.row v e sz (ll.set q es)) L'] (hx : evD f x = some (.ow v sz q 0)) (hy : evD f y = some d) (hd : cellsD d = some es) (hn : es.length = sz) (hq : q < ll.length) :
    Ld P c ⟨none, .store X x y, T, ps, af, gd⟩ f L (vfoot v) (fun _ : Unit => f) (fun _ => L') := ⟨fun a w s => by
  obtain ⟨xs, h1, h2⟩ := s.res _ (List.mem_of_getElem? bx.h)
  have hl := RX.elen h2 (List.getElem?_eq_getElem hq)
  have h := Ld.storeO (P := P) (c := c) (T := T) (X := X) (ps := ps) (af := af) (gd := gd) i hx bx.h (List.getElem?_eq_getElem hq) hy hd hn (by rw [Nat.zero_add]; exact Nat.ble_self_eq_true _)
  rw [putC_all (hn.trans hl.symm), st.h] at h
  exact h.go a w s⟩
/-- one cell of an element of a row is written -/
theorem Ld.storeO1 {x y : Operand} {v : Value} {sz q o e i : Nat} {ll : List (List A)} {cs : List A} {u : A} {L' : List Res} [it : TyN P X 1] [bx : RowAt L v e sz ll i] [st : SetAt L i (.row v e sz (ll.set q (cs.set o u))) L'] (hx : evD f x = some (.ow v sz q o)) (hy : evD f y = some (.c u)) (hl : Nat.ble (o + 1) sz = true) (hq : ll[q]? = some cs) :
    Ld P c ⟨none, .store X x y, T, ps, af, gd⟩ f L (vfoot v) (fun _ : Unit => f) (fun _ => L') := ⟨fun a w s => by
  obtain ⟨xs, h1, h2⟩ := s.res _ (List.mem_of_getElem? bx.h)
  have hle := RX.elen h2 hq
  have h := Ld.storeO (P := P) (c := c) (T := T) (X := X) (ps := ps) (af := af) (gd := gd) i hx bx.h hq hy rfl rfl hl
  rw [putC_one (by have := Nat.le_of_ble_eq_true hl; omega), st.h] at h
  exact h.go a w s⟩
/-- some cells of an element of a row are written -/
theorem Ld.storeON {x y : Operand} {v : Value} {sz q o e n i : Nat} {ll : List (List A)} {cs es : List A} {d : D} {L' : List Res} [it : TyN P X n] [bx : RowAt L v e sz ll i] [st : SetAt L i (.row v e sz (ll.set q (putC cs o es))) L'] (hx : evD f x = some (.ow v sz q o)) (hy : evD f y = some d) (hd : cellsD d = some es) (hn : es.length = n) (hl : Nat.ble (o + n) sz = true) (hq : ll[q]? = some cs) :
    Ld P c ⟨none, .store X x y, T, ps, af, gd⟩ f L (vfoot v) (fun _ : Unit => f) (fun _ => L') := by
  have h := Ld.storeO (P := P) (c := c) (T := T) (X := X) (ps := ps) (af := af) (gd := gd) i hx bx.h hq hy hd hn hl
  rw [st.h] at h
  exact h
/-- a call of a function that only reckons -/
theorem Ld.pure {F : FuncId} {args : List Operand} {tys : Array TypeId} {ds0 ds : List D} {d : D} [i : TyC P F] (hC : Pure P F ds d) (ht : t < c.N) (h : evDs f args = some ds0) (hle : LeDs ds0 ds) :
    Ld P c ⟨some t, .call ⟨.value (.func F), args.toArray, tys⟩, T, ps, af, gd⟩ f L [] (fun _ : Unit => (t, d) :: f) (fun _ => L) := Ld.call hC ht h hle (Ll := []) (Lr := L) rfl
theorem JO.lit0 {e sz : Nat} [i : TyS P X e sz] (hw : Wants ops ⟨some t, .buildSlice X 0 #[], T, ps, af, gd⟩ f = true) (ht : t < c.N) (h : ∀ b, JO P c ops l k ((t, .c (.v (.slice (some ⟨b, 0, none⟩) 0 0))) :: f) (.row (.slice (some ⟨b, 0, none⟩) 0 0) e sz [] :: L)) : JO P c ops (⟨some t, .buildSlice X 0 #[], T, ps, af, gd⟩ :: l) k f L :=
  JO.ld (Ld.lit0 ht) hw h
theorem JO.lit1 {e sz : Nat} {x : Operand} {d : D} {cs : List A} {zs : List Value} [i : TyS P X e sz] [z : TyZ' P e zs] (hw : Wants ops ⟨some t, .buildSlice X 1 #[(0, x)], T, ps, af, gd⟩ f = true) (ht : t < c.N) (hx : evD f x = some d) (hc : cellsD d = some cs) (hn : cs.length = sz) (h0 : Nat.ble 1 sz = true) (hs : Nat.ble sz 1000 = true)
    (h : ∀ b, JO P c ops l k ((t, .c (.v (.slice (some ⟨b, 0, none⟩) 1 1))) :: f) (.row (.slice (some ⟨b, 0, none⟩) 1 1) e sz [cs] :: L)) : JO P c ops (⟨some t, .buildSlice X 1 #[(0, x)], T, ps, af, gd⟩ :: l) k f L :=
  JO.ld (Ld.lit1 ht hx hc hn h0 hs) hw h
/-- append: the result is owned -/
theorem JO.appO {e sz bytes : Nat} {z : Value} [E : TyE P X e sz bytes z] {x y : Operand} {v : Value} {l1 l2 : List (List A)} {L' : List Res} {d2 : D} (hw : Wants ops ⟨some t, .call ⟨.builtin .append, #[x, y], #[X, X]⟩, T, ps, af, gd⟩ f = true) (ht : t < c.N) (h1 : evD f x = some (.c (.v v))) (hd : Dest L e sz v l1 L') (h2 : evD f y = some d2) (hs : Srce L' sz d2 l2) (hb : (l1.length + l2.length) * bytes ≤ 140737488355328)
    (h : ∀ v', JO P c ops l k ((t, .c (.v v')) :: f) (.row v' e sz (l1 ++ l2) :: L')) : JO P c ops (⟨some t, .call ⟨.builtin .append, #[x, y], #[X, X]⟩, T, ps, af, gd⟩ :: l) k f L :=
  JO.ld (Ld.appO ht h1 hd h2 hs hb) hw h
/-- append: the result is read on -/
theorem JO.appR {e sz bytes : Nat} {z : Value} [E : TyE P X e sz bytes z] {x y : Operand} {v : Value} {l1 l2 : List (List A)} {L' : List Res} {d2 : D} (hw : Wants ops ⟨some t, .call ⟨.builtin .append, #[x, y], #[X, X]⟩, T, ps, af, gd⟩ f = true) (ht : t < c.N) (h1 : evD f x = some (.c (.v v))) (hd : Dest L e sz v l1 L') (h2 : evD f y = some d2) (hs : Srce L' sz d2 l2) (hb : (l1.length + l2.length) * bytes ≤ 140737488355328)
    (h : JO P c ops l k ((t, .c (.r sz (l1 ++ l2))) :: f) L') : JO P c ops (⟨some t, .call ⟨.builtin .append, #[x, y], #[X, X]⟩, T, ps, af, gd⟩ :: l) k f L :=
  JO.ld (Ld.appR ht h1 hd h2 hs hb) hw fun _ => h
theorem JO.call {F : FuncId} {args : List Operand} {tys : Array TypeId} {ds0 ds : List D} {Ll Lr : List Res} {ι : Type} {post : ι → D × List Res} [i : TyC P F] (hC : Con P F ds Ll post) (hw : Wants ops ⟨some t, .call ⟨.value (.func F), args.toArray, tys⟩, T, ps, af, gd⟩ f = true) (ht : t < c.N) (h : evDs f args = some ds0) (hle : LeDs ds0 ds) (hL : L = Ll ++ Lr)
    (hk : ∀ i, JO P c ops l k ((t, (post i).1) :: f) ((post i).2 ++ Lr)) : JO P c ops (⟨some t, .call ⟨.value (.func F), args.toArray, tys⟩, T, ps, af, gd⟩ :: l) k f L :=
  JO.ld (Ld.call hC ht h hle hL) hw hk
/-- a call of a function that only reckons -/
theorem JO.pure {F : FuncId} {args : List Operand} {tys : Array TypeId} {ds0 ds : List D} {d : D} [i : TyC P F] (hC : Pure P F ds d) (hw : Wants ops ⟨some t, .call ⟨.value (.func F), args.toArray, tys⟩, T, ps, af, gd⟩ f = true) (ht : t < c.N) (h : evDs f args = some ds0) (hle : LeDs ds0 ds)
    (hk : JO P c ops l k ((t, d) :: f) L) : JO P c ops (⟨some t, .call ⟨.value (.func F), args.toArray, tys⟩, T, ps, af, gd⟩ :: l) k f L :=
  JO.call hC hw ht h hle (Ll := []) (Lr := L) rfl fun _ => hk
/-! ### moves that do nothing -/
/-- a row that is owned (number i) is given up; a cell of a block (number j) reads it on -/
theorem J.frzB (i j n : Nat) {v : Value} {e : TypeId} {sz : Nat} {ll : List (List A)} {b : Nat} {B : TypeId} {cs : List A} (hi : L[i]? = some (.row v e sz ll)) (hj : L[j]? = some (.box b B cs)) (hc : cs[n]? = some (.v v))
    (h : J P c k f ((L.set j (.box b B (cs.set n (.r sz ll)))).eraseIdx i)) : J P c k f L := ⟨fun a w s => by
  have hne : i ≠ j := fun e => by subst e; rw [hi] at hj; cases hj
  have hlt := (List.getElem?_eq_some_iff.1 hj).1
  -- without row i
  have hm : ∀ q, q ∈ L.eraseIdx i → q ∈ L := fun q hq => List.mem_of_mem_eraseIdx hq
  have ho : ∀ q ∈ L.eraseIdx i, ∀ x ∈ q.foot, x ∉ vfoot v := fun q hq x hx hx' => by
    obtain ⟨m, hm1⟩ := List.mem_iff_getElem?.1 hq
    rw [List.getElem?_eraseIdx] at hm1
    split at hm1
    · exact Apart.ne s.ap hi hm1 (by omega) x hx' hx
    · exact Apart.ne s.ap hi hm1 (by omega) x hx' hx
  have hf : ∀ x, x ∈ foots (L.eraseIdx i) → x ∈ foots L := fun x hx => by
    obtain ⟨q, hq, hx⟩ := mem_foots.1 hx
    exact mem_foots.2 ⟨q, hm q hq, hx⟩
  have mo : Mon (okk c L) (okk c (L.eraseIdx i)) w w := ⟨Nat.le_refl _, fun g _ hg => ⟨⟨hg.1, fun hx => hg.2 (hf g hx)⟩, rfl⟩⟩
  have s1 : St c f (L.eraseIdx i) a w := ⟨s.kp, s.size, s.dfr, fun q hq => (s.res q (hm q hq)).mon (Keeps.refl [] w) mo (by simp), fun x hx => s.frm x (hf x hx), s.ap.sublist (List.eraseIdx_sublist L i), fun t d ht => RD.mon mo d _ (s.fr t d ht)⟩
  obtain ⟨xs, r1, r2⟩ := s.res _ (List.mem_of_getElem? hi)
  have hR : RA (okk c (L.eraseIdx i)) w (.r sz ll) v := RA.of_view r1.view (RX.mon mo _ _ r2) fun g hg => ⟨.inr (s.frm g (mem_foots.2 ⟨_, List.mem_of_getElem? hi, hg⟩)), fun hx => by
    obtain ⟨q, hq, hxq⟩ := mem_foots.1 hx
    exact ho q hq g hxq hg⟩
  have hsome : ∃ j', (L.eraseIdx i)[j']? = some (.box b B cs) ∧ (L.set j (.box b B (cs.set n (.r sz ll)))).eraseIdx i = (L.eraseIdx i).set j' (.box b B (cs.set n (.r sz ll))) := by
    by_cases hij : j < i
    · refine ⟨j, by rw [List.getElem?_eraseIdx, if_pos hij]; exact hj, ?_⟩
      apply List.ext_getElem?
      intro m
      rw [List.getElem?_eraseIdx, List.getElem?_set, List.getElem?_set, List.getElem?_set, List.getElem?_eraseIdx, List.length_eraseIdx]
      have hil := (List.getElem?_eq_some_iff.1 hi).1
      split <;> split <;> (try split) <;> (try split) <;> (try split) <;> first | rfl | omega
    · refine ⟨j - 1, by rw [List.getElem?_eraseIdx, if_neg (by omega), show j - 1 + 1 = j by omega]; exact hj, ?_⟩
      apply List.ext_getElem?
      intro m
      rw [List.getElem?_eraseIdx, List.getElem?_set, List.getElem?_set, List.getElem?_set, List.getElem?_eraseIdx, List.length_eraseIdx]
      have hil := (List.getElem?_eq_some_iff.1 hi).1
      split <;> split <;> (try split) <;> (try split) <;> (try split) <;> first | rfl | omega
  obtain ⟨j', e1, e2⟩ := hsome
  rw [e2] at h
  obtain ⟨vs, b1, b2⟩ := s1.res _ (List.mem_of_getElem? e1)
  refine h.go a w (s1.set e1 rfl (Keeps.refl _ w) ⟨vs, b1, ?_⟩)
  have hc2 := b2.get n (by exact hc)
  obtain ⟨x, hx, hrx⟩ := hc2
  unfold RA at hrx
  obtain ⟨rfl, _⟩ := hrx
  have := RC.set n b2 hR
  have e3 : vs.set n x = vs := by
    apply List.ext_getElem?
    intro m
    rw [List.getElem?_set]
    split
    · rename_i e; subst e
      split
      · exact hx.symm
      · rename_i hn; rw [List.getElem?_eq_none (by omega)] at hx; cases hx
    · rfl
  rw [e3] at this
  exact this⟩
/-- a slot's content told otherwise -/
theorem J.cast (t : Nat) {d d' : D} (h1 : look f t = some d) (hle : LeD d d') (h : J P c k ((t, d') :: f) L) : J P c k f L := ⟨fun a w s =>
  h.go a w ⟨s.kp, s.size, s.dfr, s.res, s.frm, s.ap, fun u e hu => by
    by_cases e1 : t = u
    · subst e1; rw [look_cons_eq] at hu; cases hu; exact hle.rep (s.fr t d h1)
    · rw [look_cons_ne e1] at hu; exact s.fr u e hu⟩⟩
end
end Fl
end Go.Proofs.YtgjpdogjekmemaaDoor
