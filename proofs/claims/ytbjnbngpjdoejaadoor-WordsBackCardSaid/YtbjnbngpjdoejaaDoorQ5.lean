/-
  Texts Fli Flj of this claim, put together: what they show stands at their heads.
  Conditions: none but those that each theorem states.
-/
import Derived.Test.YtbjnbngpjdoejaaDoorQ4
namespace Go.Proofs.YtbjnbngpjdoejaaDoor
open Go.RowKit
set_option linter.unusedVariables false
set_option linter.unusedSimpArgs false
set_option linter.unnecessarySimpa false

namespace Fl
section
variable {P : Program} {ops : Array Oper} {Q : Exit → Act → World → Prop} {md : Region.Mode} {S : World → Prop} {m : Option Nat}
def Gx (P : Program) (md : Region.Mode) (ops : Array Oper) (Q : Exit → Act → World → Prop) (S : World → Prop) (m : Option Nat) : Nat → Array Bool → Act → World → Prop
  | 0, listed, a, w => Region.ready md ops listed = [] ∧ Q .normal a w
  | n + 1, listed, a, w => (Region.ready md ops listed = [] → Q .normal a w) ∧
    ∀ i ∈ Region.ready md ops listed, wpOp P ops Q i (fun a' w' => (some i = m ∧ wpAny P md ops Q n (listed.setIfInBounds i true) a' w') ∨ (S w' ∧ Gx P md ops Q S m n (listed.setIfInBounds i true) a' w')) a w
theorem Gx.any : ∀ (n : Nat) (listed : Array Bool) (a : Act) (w : World), Gx P md ops Q S m n listed a w → wpAny P md ops Q n listed a w
  | 0, _, _, _, h => h
  | n + 1, _, _, _, h => ⟨h.1, fun i hi => wpOp_mono (fun a' w' h' => h'.elim (·.2) (fun h' => Gx.any n _ a' w' h'.2)) (h.2 i hi)⟩
def waitsO (md : Region.Mode) (ops : Array Oper) (m : Option Nat) (i : Nat) : Bool := match m with
  | none => true
  | some j => waitsFor md ops j i
theorem Gx.first {i : Nat} {oi : Oper} {v : Value} (hi : ops[i]? = some oi) (hsel : ∀ (j : Nat) (o : Oper) cs b, ops[j]? = some o → o.op ≠ .select cs b) (hQ : ∀ c a w, Q (.panic c) (a.put oi.dst v) w → Q (.panic c) a w) (hm : waitsO md ops m i = true) :
    ∀ (n : Nat) (listed : Array Bool) (a : Act) (w : World), (∀ (j : Nat) oj, ops[j]? = some oj → j ≠ i → listed.getD j true = false → (∀ e ∈ oj.after, Region.binds md e = true → e.on ≠ i) → oi.apart ops oj = true) →
      i ∈ Region.ready md ops listed → YieldsIf P ops S oi v a → S w → Gx P md ops Q S m n (listed.setIfInBounds i true) (a.put oi.dst v) w → Gx P md ops Q S m (n + 1) listed a w
  | n, listed, a, w, hfree, hr, hy, hS, H => by
    refine ⟨fun h => (by rw [h] at hr; cases hr), fun j hj => ?_⟩
    by_cases hji : j = i
    · subst hji; exact hy.wpOp hi hS (.inr ⟨hS, H⟩)
    · cases n with
      | zero =>
        have := ready_mono hj hji
        rw [H.1] at this
        cases this
      | succ n =>
        obtain ⟨hjun, oj, hoj, hall⟩ := mem_ready.1 hj
        have hno := not_ready_yet hr hall
        have hjm : some j ≠ m := fun e => by
          subst e
          unfold waitsO waitsFor at hm
          simp only at hm
          rw [hoj] at hm
          obtain ⟨x, hx, hp⟩ := Array.any_eq_true'.1 hm
          simp only [Bool.and_eq_true, beq_iff_eq] at hp
          exact hno x hx hp.2 hp.1
        have h2 := wpOp_putIf hoj (hfree j oj hoj hji hjun hno) (fun cs b => hsel i oi cs b hi) (fun cs b => hsel j oj cs b hoj) hQ hy (H.2 j (ready_mono hj hji))
        have hr2 : i ∈ Region.ready md ops (listed.setIfInBounds j true) := ready_mono hr (Ne.symm hji)
        refine wpOp_mono (fun a' w' h3 => ?_) h2
        have hcomm := Array.setIfInBounds_comm (xs := listed) true true hji
        obtain ⟨h4, h5⟩ : S w' ∧ _ := h3.2.resolve_left (fun h => hjm h.1)
        exact .inr ⟨h4, Gx.first hi hsel hQ hm n (listed.setIfInBounds j true) a' w' (fun k ok hk hki hun hno => by
          refine hfree k ok hk hki ?_ hno
          by_cases hjk : j = k
          · subst hjk; exact hjun
          · rw [getD_set_ne true hjk] at hun; exact hun) hr2 h3.1 h4 (by rw [hcomm]; exact h5)⟩
end
def okTake (md : Region.Mode) (ops : Array Oper) (m : Option Nat) (listed : Array Bool) (i : Nat) : Bool :=
  Region.noSelect ops && Region.free md ops listed i && (Region.ready md ops listed).contains i && waitsO md ops m i
def blk (L : List Res) (T : List Nat) : List Nat := T.flatMap fun i => match L[i]? with
  | some r => r.foot
  | none => []
theorem mem_blk {L : List Res} {T : List Nat} {x : Nat} : x ∈ blk L T ↔ ∃ i ∈ T, ∃ r, L[i]? = some r ∧ x ∈ r.foot := by
  unfold blk
  rw [List.mem_flatMap]
  constructor
  · rintro ⟨i, hi, hx⟩
    cases h : L[i]? with
    | none => rw [h] at hx; cases hx
    | some r => rw [h] at hx; exact ⟨i, hi, r, h, hx⟩
  · rintro ⟨i, hi, r, h, hx⟩
    exact ⟨i, hi, by rw [h]; exact hx⟩
theorem blk_foots {L : List Res} {T : List Nat} {x : Nat} (h : x ∈ blk L T) : x ∈ foots L := by
  obtain ⟨i, _, r, hr, hx⟩ := mem_blk.1 h
  exact mem_foots.2 ⟨r, List.mem_of_getElem? hr, hx⟩
section
variable (P : Program) (c : Cx)
structure JW (ops : Array Oper) (n : Nat) (listed : Array Bool) (k : List Item) (f : Fm) (L : List Res) : Prop where
  go : ∀ a w, St c f L a w → wpAny P .any ops (fun e a' w' => e = .normal ∧ Run P c k a' w') n listed a w
structure JD (ops : Array Oper) (m : Option Nat) (T : List Nat) (n : Nat) (listed : Array Bool) (k : List Item) (f : Fm) (L : List Res) (f0 : Fm) (L0 : List Res) : Prop where
  go : ∀ a w w0, St c f L a w → St c f0 L0 a w0 → Keeps (blk L0 T) w0 w → (∀ x ∈ foots L, x ∈ foots L0 ∨ w0.heap.size ≤ x) → Gx P .any ops (fun e a' w' => e = .normal ∧ Run P c k a' w') (fun w' => Keeps (blk L0 T) w0 w') m n listed a w
end
section
variable {P : Program} {c : Cx} {k : List Item} {f f0 : Fm} {L L0 : List Res} {ops : Array Oper} {l : List Oper} {o : Oper} {m : Option Nat} {T : List Nat} {n : Nat} {listed : Array Bool}
theorem J.draw {id : Nat} (hm : P.follows .mixedOrders = true) (hn : l.length = n) (h : JW P c l.toArray n (Array.replicate n false) k f L) (hd : ndf c l = true := by rfl) : J P c (.code (.region id l.toArray true) :: k) f L := ⟨fun a w s => by
  refine Run.wp ?_
  have s' : St c f L a w.drew := ⟨s.kp.drew, s.size, s.dfr, fun r hr => (s.res r hr).mon ((Keeps.refl [] w).drew) (Mon.of_keeps ((Keeps.refl [] w).drew) fun g _ hg => ⟨hg, by simp⟩) (by simp), s.frm, s.ap, fun t d ht => RD.mon (Mon.of_keeps ((Keeps.refl [] w).drew) fun g _ hg => ⟨hg, by simp⟩) d _ (s.fr t d ht)⟩
  have := h.go a w.drew s'
  subst hn
  rcases ndf.cases hd with e | e
  · exact ndf.none e (wp_region_any hm (by simpa using this))
  · exact draw_round e noOut hm (by simpa using this)⟩
theorem JW.baseT (T : List Nat) (m : Option Nat) (h : JD P c ops m T n listed k f L f L) : JW P c ops n listed k f L := ⟨fun a w s =>
  Gx.any (S := fun w' => Keeps (blk L T) w w') (m := m) _ _ _ _ (h.go a w w s s (Keeps.refl _ _) (fun g hg => .inl hg))⟩
theorem JW.base (m : Option Nat) (h : JD P c ops m [] n listed k f L f L) : JW P c ops n listed k f L := JW.baseT [] m h
theorem JW.baseB (x : Operand) {b o B j : Nat} {cs : List A} (hx : evD f x = some (.c (.v (.pointer (some ⟨b, o, none⟩))))) [bx : BoxAt L b B cs j] (h : JD P c ops none [j] n listed k f L f L) : JW P c ops n listed k f L := JW.baseT [j] none h
theorem JW.baseR (x : Operand) {v : Value} {e sz j : Nat} {l : List (List A)} (hx : evD f x = some (.c (.v v))) [bx : RowAt L v e sz l j] (h : JD P c ops none [j] n listed k f L f L) : JW P c ops n listed k f L := JW.baseT [j] none h
theorem JW.done (hl : Region.ready .any ops listed = []) (h : J P c k f L) : JW P c ops n listed k f L := ⟨fun a w s => wpAny_done hl ⟨rfl, h.go _ w s⟩ n⟩
theorem St.undef {a : Act} {w : World} {t : Nat} (s : St c f L a w) (ht : t < c.N) : St c ((t, .tup []) :: f) L (a.put (some t) Go.undef) w := s.put0 ht (by unfold RD; exact ⟨[], rfl, rfl⟩)
theorem JD.take (i : Nat) {t : Nat} {d : D} {U : List Nat} (hi : ops[i]? = some o) (hd : o.dst = some t) (hk : okTake .any ops m listed i = true) (hw : Wants ops o f0 = true) (ht : t < c.N) (q : Qt P c U o f0 L0 d) (hu : (U.all fun j => !T.contains j) = true) (h : JD P c ops m T n (listed.setIfInBounds i true) k ((t, d) :: f) L ((t, d) :: f0) L0) : JD P c ops m T (n + 1) listed k f L f0 L0 := ⟨fun a w w0 s s0 kp ho => by
  obtain ⟨v, h1, h2⟩ := q.go a w0 s0
  unfold okTake at hk
  simp only [Bool.and_eq_true] at hk
  obtain ⟨⟨⟨k1, k2⟩, k3⟩, k4⟩ := hk
  have m1 : Mon (okk c L0) (okk c L) w0 w := Mon.of_keeps kp fun g hg hg' => ⟨⟨hg'.1, fun hx => by rcases ho g hx with h | h; exact hg'.2 h; omega⟩, fun hm => hg'.2 (blk_foots hm)⟩
  have hlat : ∀ w', Keeps (blk L0 T) w0 w' → Later L0 U w0 w' := fun w' hw' => ⟨_, hw', fun x hx => blk_foots hx, fun x hx j hj r hr hxr => by
    obtain ⟨i, hi, r2, hr2, hx2⟩ := mem_blk.1 hx
    have hij : j ≠ i := fun e => by
      subst e
      have := List.all_eq_true.1 hu j hj
      simp [hi] at this
    exact Apart.ne s0.ap hr hr2 hij x hxr hx2⟩
  refine Gx.first hi (Region.noSelect_spec k1) (fun c a w h => by cases h.1) k4 n listed a w (Region.free_spec hi k2) (by simpa using k3) (v := v) (.inl ⟨Wants.run hw s0, fun w' hw' => h2 w' (hlat w' hw')⟩) kp ?_
  have := h.go (a.put o.dst v) w w0 (by rw [hd]; exact s.put0 ht (RD.mon m1 _ _ h1)) (by rw [hd]; exact s0.put0 ht h1) kp ho
  exact this⟩
theorem JD.skip (i : Nat) {t : Nat} (hi : ops[i]? = some o) (hd : o.dst = some t) (hk : okTake .any ops m listed i = true) (hw : Wants0 ops o f0 = true) (ht : t < c.N) (h : JD P c ops m T n (listed.setIfInBounds i true) k ((t, .tup []) :: f) L ((t, .tup []) :: f0) L0) : JD P c ops m T (n + 1) listed k f L f0 L0 := ⟨fun a w w0 s s0 kp ho => by
  unfold okTake at hk
  simp only [Bool.and_eq_true] at hk
  obtain ⟨⟨⟨k1, k2⟩, k3⟩, k4⟩ := hk
  refine Gx.first hi (Region.noSelect_spec k1) (fun c a w h => by cases h.1) k4 n listed a w (Region.free_spec hi k2) (by simpa using k3) (v := undef) (.inr ⟨Wants0.run hw s0, rfl⟩) kp ?_
  have := h.go (a.put o.dst undef) w w0 (by rw [hd]; exact s.undef ht) (by rw [hd]; exact s0.undef ht) kp ho
  exact this⟩
def stays : D → D
  | .c (.v x) => .c (.v x)
  | _ => .any
theorem stays.rep {d : D} {ok ok' : Nat → Prop} {w w' : World} {x : Value} (h : RD ok w d x) : RD ok' w' (stays d) x := by
  unfold stays
  split
  · unfold RD RA at h ⊢; exact h
  · unfold RD; trivial
inductive Tail (L0 : List Res) : List Res → Prop
  | refl : Tail L0 L0
  | cons {r L} : Tail L0 L → Tail L0 (r :: L)
theorem Tail.mem {L0 L : List Res} (h : Tail L0 L) : ∀ q ∈ L0, q ∈ L := by
  induction h with
  | refl => exact fun _ h => h
  | cons _ ih => exact fun q hq => List.mem_cons_of_mem _ (ih q hq)
inductive Since (T : List Nat) (L0 L : List Res) : List Nat → Prop
  | none : Since T L0 L []
  | nil : Since T L0 L (vfoot (.slice none 0 0))
  | first {v e sz m Lr} : L = .row v e sz m :: Lr → Tail L0 Lr → Since T L0 L (vfoot v)
  | any {r i Lr} : L[i]? = some r → L.eraseIdx i = Lr → Tail L0 Lr → Since T L0 L r.foot
  | there {r j} : L0[j]? = some r → T.contains j = true → Since T L0 L r.foot
theorem Since.row {L0 L L' : List Res} {v : Value} {e sz i : Nat} {m : List (List A)} [bx : RowAt L v e sz m i] [er : EraseAt L i L'] (ht : Tail L0 L') : Since T L0 L (vfoot v) := .any bx.h er.h ht
theorem Since.box {L0 L L' : List Res} {b B i : Nat} {cs : List A} [bx : BoxAt L b B cs i] [er : EraseAt L i L'] (ht : Tail L0 L') : Since T L0 L [b] := .any bx.h er.h ht
theorem Since.trow {L0 L : List Res} {v : Value} {e sz i : Nat} {m : List (List A)} [bx : RowAt L0 v e sz m i] (ht : T.contains i = true) : Since T L0 L (vfoot v) := .there bx.h ht
theorem Since.tbox {L0 L : List Res} {b B i : Nat} {cs : List A} [bx : BoxAt L0 b B cs i] (ht : T.contains i = true) : Since T L0 L [b] := .there bx.h ht
theorem Since.keeps {S : List Nat} (hS : Since T L0 L S) {a : Act} {w w0 w' : World} (s : St c f L a w) (kp : Keeps (blk L0 T) w0 w) (ho : ∀ x ∈ foots L, x ∈ foots L0 ∨ w0.heap.size ≤ x) (kp' : Keeps S w w') : Keeps (blk L0 T) w0 w' := by
  refine kp.trans kp' fun x hx => ?_
  cases hS with
  | none => cases hx
  | nil => cases hx
  | first e ht =>
    subst e
    rcases ho x (mem_foots.2 ⟨_, List.mem_cons_self .., hx⟩) with h | h
    · obtain ⟨q, hq, hxq⟩ := mem_foots.1 h
      exact absurd hxq ((List.pairwise_cons.1 s.ap).1 q (ht.mem q hq) x hx)
    · exact .inr h
  | any h1 e ht =>
    rcases ho x (mem_foots.2 ⟨_, List.mem_of_getElem? h1, hx⟩) with h | h
    · obtain ⟨q, hq, hxq⟩ := mem_foots.1 h
      have hm := ht.mem q hq
      rw [← e] at hm
      obtain ⟨j, hj⟩ := List.mem_iff_getElem?.1 hm
      rw [List.getElem?_eraseIdx] at hj
      exfalso
      split at hj
      · exact Apart.ne s.ap h1 hj (by omega) x hx hxq
      · exact Apart.ne s.ap h1 hj (by omega) x hx hxq
    · exact .inr h
  | there h1 ht => exact .inl (mem_blk.2 ⟨_, by simpa using ht, _, h1, hx⟩)
structure JS (P : Program) (c : Cx) (ops : Array Oper) (m : Option Nat) (T : List Nat) (n : Nat) (listed : Array Bool) (k : List Item) (f : Fm) (L : List Res) (f0 : Fm) (L0 : List Res) (i : Nat) : Prop where
  go : ∀ a w w0, St c f L a w → St c f0 L0 a w0 → Keeps (blk L0 T) w0 w → (∀ x ∈ foots L, x ∈ foots L0 ∨ w0.heap.size ≤ x) →
    wpOp P ops (fun e a' w' => e = .normal ∧ Run P c k a' w') i (fun a' w' => (some i = m ∧ wpAny P .any ops (fun e a' w' => e = .normal ∧ Run P c k a' w') n (listed.setIfInBounds i true) a' w') ∨ (Keeps (blk L0 T) w0 w' ∧ Gx P .any ops (fun e a' w' => e = .normal ∧ Run P c k a' w') (fun w' => Keeps (blk L0 T) w0 w') m n (listed.setIfInBounds i true) a' w')) a w
theorem JS.loud {S : List Nat} {i t : Nat} {ι : Type} {g : ι → D} {L' : ι → List Res} (hi : ops[i]? = some o) (hd : o.dst = some t) (hw : Wants ops o f = true) (ht : t < c.N) (q : Ld P c o f L S (fun x => (t, g x) :: f) L') (hS : Since T L0 L S)
    (h : ∀ x, JD P c ops m T n (listed.setIfInBounds i true) k ((t, g x) :: f) (L' x) ((t, stays (g x)) :: f0) L0) : JS P c ops m T n listed k f L f0 L0 i := ⟨fun a w w0 s s0 kp ho => by
  refine wpOp_step hi (fun K hK => ?_)
  rw [Wants.run hw s, if_pos rfl]
  refine q.go a w s K _ fun x v w' kp' sx hf => ?_
  have kp2 := hS.keeps s kp ho kp'
  refine hK _ _ (.inr ⟨kp2, (h x).go _ w' w0 sx ?_ kp2 ?_⟩)
  · rw [hd]
    exact s0.put0 ht (stays.rep (by
      have h1 := sx.fr t (g x) (look_cons_eq _ _ _)
      have h2 := s.size
      rw [hd] at h1
      simpa [Act.put, Array.getD_eq_getD_getElem?, Array.getElem?_setIfInBounds, h2, ht] using h1))
  · intro y hy
    rcases hf y hy with h1 | h1
    · exact ho y h1
    · exact .inr (Nat.le_trans kp.size h1)⟩
theorem JS.st {S : List Nat} {i : Nat} {ι : Type} {L' : ι → List Res} (hi : ops[i]? = some o) (hd : o.dst = none) (hw : Wants ops o f = true) (q : Ld P c o f L S (fun _ => f) L') (hS : Since T L0 L S)
    (h : ∀ x, JD P c ops m T n (listed.setIfInBounds i true) k f (L' x) f0 L0) : JS P c ops m T n listed k f L f0 L0 i := ⟨fun a w w0 s s0 kp ho => by
  refine wpOp_step hi (fun K hK => ?_)
  rw [Wants.run hw s, if_pos rfl]
  refine q.go a w s K _ fun x v w' kp' sx hf => ?_
  have kp2 := hS.keeps s kp ho kp'
  refine hK _ _ (.inr ⟨kp2, (h x).go _ w' w0 sx (by rw [hd]; exact s0) kp2 ?_⟩)
  intro y hy
  rcases hf y hy with h1 | h1
  · exact ho y h1
  · exact .inr (Nat.le_trans kp.size h1)⟩
theorem JS.q {i t : Nat} {d : D} {U : List Nat} (hi : ops[i]? = some o) (hd : o.dst = some t) (hw : Wants ops o f = true) (ht : t < c.N) (q : Qt P c U o f L d)
    (h : JD P c ops m T n (listed.setIfInBounds i true) k ((t, d) :: f) L ((t, stays d) :: f0) L0) : JS P c ops m T n listed k f L f0 L0 i := ⟨fun a w w0 s s0 kp ho => by
  obtain ⟨v, h1, h2⟩ := q.go a w s
  refine wpOp_step hi (fun K hK => ?_)
  rw [Wants.run hw s, if_pos rfl]
  simp only [Oper.wp, h2 w (Later.now _ _ _), Oper.upon]
  exact hK _ _ (.inr ⟨kp, h.go _ w w0 (by rw [hd]; exact s.put0 ht h1) (by rw [hd]; exact s0.put0 ht (stays.rep h1)) kp ho⟩)⟩
theorem JS.last {i : Nat} {ι : Type} {f' : ι → Fm} {L' : ι → List Res} {S : List Nat} (hi : ops[i]? = some o) (hw : Wants ops o f = true) (q : Ld P c o f L S f' L') (h : ∀ x, JW P c ops n (listed.setIfInBounds i true) k (f' x) (L' x)) : JS P c ops (some i) T n listed k f L f0 L0 i := ⟨fun a w w0 s s0 kp ho => by
  refine wpOp_step hi (fun K hK => ?_)
  rw [Wants.run hw s, if_pos rfl]
  exact q.go a w s K _ fun x v w' kp' sx hf => hK _ _ (.inl ⟨rfl, (h x).go _ w' sx⟩)⟩
theorem JD.each1 {i : Nat} (hr : Region.ready .any ops listed = [i]) (h : JS P c ops m T n listed k f L f0 L0 i) : JD P c ops m T (n + 1) listed k f L f0 L0 := ⟨fun a w w0 s s0 kp ho => by
  refine ⟨fun h0 => (by rw [hr] at h0; cases h0), fun j hj => ?_⟩
  rw [hr] at hj
  simp at hj
  subst hj
  exact h.go a w w0 s s0 kp ho⟩
theorem JD.each2 {i j : Nat} (hr : Region.ready .any ops listed = [i, j]) (h1 : JS P c ops m T n listed k f L f0 L0 i) (h2 : JS P c ops m T n listed k f L f0 L0 j) : JD P c ops m T (n + 1) listed k f L f0 L0 := ⟨fun a w w0 s s0 kp ho => by
  refine ⟨fun h0 => (by rw [hr] at h0; cases h0), fun j hj => ?_⟩
  rw [hr] at hj
  simp at hj
  rcases hj with rfl | rfl
  · exact h1.go a w w0 s s0 kp ho
  · exact h2.go a w w0 s s0 kp ho⟩
theorem JD.each3 {i j q : Nat} (hr : Region.ready .any ops listed = [i, j, q]) (h1 : JS P c ops m T n listed k f L f0 L0 i) (h2 : JS P c ops m T n listed k f L f0 L0 j) (h3 : JS P c ops m T n listed k f L f0 L0 q) : JD P c ops m T (n + 1) listed k f L f0 L0 := ⟨fun a w w0 s s0 kp ho => by
  refine ⟨fun h0 => (by rw [hr] at h0; cases h0), fun j hj => ?_⟩
  rw [hr] at hj
  simp at hj
  rcases hj with rfl | rfl | rfl
  · exact h1.go a w w0 s s0 kp ho
  · exact h2.go a w w0 s s0 kp ho
  · exact h3.go a w w0 s s0 kp ho⟩
theorem JD.one (i : Nat) {S : List Nat} {t : Nat} {ι : Type} {g : ι → D} {L' : ι → List Res} (hi : ops[i]? = some o) (hd : o.dst = some t) (hr : Region.ready .any ops listed = [i]) (hw : Wants ops o f = true) (ht : t < c.N) (q : Ld P c o f L S (fun x => (t, g x) :: f) L') (hS : Since T L0 L S)
    (h : ∀ x, JD P c ops m T n (listed.setIfInBounds i true) k ((t, g x) :: f) (L' x) ((t, stays (g x)) :: f0) L0) : JD P c ops m T (n + 1) listed k f L f0 L0 := JD.each1 hr (JS.loud hi hd hw ht q hS h)
theorem JD.last (i : Nat) {ι : Type} {f' : ι → Fm} {L' : ι → List Res} {S : List Nat} (hi : ops[i]? = some o) (hr : Region.ready .any ops listed = [i]) (hw : Wants ops o f = true) (q : Ld P c o f L S f' L') (h : ∀ x, JW P c ops n (listed.setIfInBounds i true) k (f' x) (L' x)) : JD P c ops (some i) T (n + 1) listed k f L f0 L0 := JD.each1 hr (JS.last hi hw q h)
theorem JD.st (i : Nat) {S : List Nat} {ι : Type} {L' : ι → List Res} (hi : ops[i]? = some o) (hd : o.dst = none) (hr : Region.ready .any ops listed = [i]) (hw : Wants ops o f = true) (q : Ld P c o f L S (fun _ => f) L') (hS : Since T L0 L S)
    (h : ∀ x, JD P c ops m T n (listed.setIfInBounds i true) k f (L' x) f0 L0) : JD P c ops m T (n + 1) listed k f L f0 L0 := JD.each1 hr (JS.st hi hd hw q hS h)
theorem JD.see (i : Nat) {t : Nat} {d : D} {U : List Nat} (hi : ops[i]? = some o) (hd : o.dst = some t) (hr : Region.ready .any ops listed = [i]) (hw : Wants ops o f = true) (ht : t < c.N) (q : Qt P c U o f L d)
    (h : JD P c ops m T n (listed.setIfInBounds i true) k ((t, d) :: f) L ((t, stays d) :: f0) L0) : JD P c ops m T (n + 1) listed k f L f0 L0 := JD.each1 hr (JS.q hi hd hw ht q h)
theorem JD.done (hl : Region.ready .any ops listed = []) (h : J P c k f L) : JD P c ops m T n listed k f L f0 L0 := ⟨fun a w w0 s s0 kp ho => by
  have hq := h.go _ w s
  cases n with
  | zero => exact ⟨hl, rfl, hq⟩
  | succ n => exact ⟨fun _ => ⟨rfl, hq⟩, fun k hk => by rw [hl] at hk; cases hk⟩⟩
theorem JD.two (i j : Nat) {S S' : List Nat} {o' : Oper} {t t' : Nat} {ι ι' : Type} {g : ι → D} {L' : ι → List Res} {g' : ι' → D} {L'' : ι' → List Res} (hr : Region.ready .any ops listed = [i, j]) (hi : ops[i]? = some o) (hd : o.dst = some t) (hw : Wants ops o f = true) (ht : t < c.N) (q : Ld P c o f L S (fun x => (t, g x) :: f) L') (hS : Since T L0 L S)
    (hi' : ops[j]? = some o') (hd' : o'.dst = some t') (hw' : Wants ops o' f = true) (ht' : t' < c.N) (q' : Ld P c o' f L S' (fun x => (t', g' x) :: f) L'') (hS' : Since T L0 L S')
    (h : ∀ x, JD P c ops m T n (listed.setIfInBounds i true) k ((t, g x) :: f) (L' x) ((t, stays (g x)) :: f0) L0) (h' : ∀ x, JD P c ops m T n (listed.setIfInBounds j true) k ((t', g' x) :: f) (L'' x) ((t', stays (g' x)) :: f0) L0) : JD P c ops m T (n + 1) listed k f L f0 L0 :=
  JD.each2 hr (JS.loud hi hd hw ht q hS h) (JS.loud hi' hd' hw' ht' q' hS' h')
end
end Fl
end Go.Proofs.YtbjnbngpjdoejaaDoor
namespace Go.Proofs.YtbjnbngpjdoejaaDoor
open Go.RowKit
set_option linter.unusedVariables false
set_option linter.unusedSimpArgs false
set_option linter.unnecessarySimpa false

namespace Fl
def tyPlaces (P : Program) (T : TypeId) : Option (List (Nat × Nat)) := match P.underlying T with
  | some (.struct fs) => fs.toList.mapM fun f => (P.info? f.type).map fun i => (f.offset, i.size)
  | _ => none
class TyP (P : Program) (T : TypeId) (pl : outParam (List (Nat × Nat))) : Prop where h : tyPlaces P T = some pl
def fillA (pl : List (Nat × Nat)) : List A → List (Nat × List A) → Option (List A)
  | cs, [] => some cs
  | cs, (i, es) :: r => match pl[i]? with
    | none => none
    | some (off, size) => cond (Nat.beq es.length size && Nat.ble (off + es.length) cs.length) (fillA pl (putC cs off es) r) none
def fillB : List (Nat × Nat) → Nat → List (Nat × List A) → List A → List A
  | [], _, _, _ => []
  | (_, n) :: pl, k, [], zs => zs.take n ++ fillB pl (k + 1) [] (zs.drop n)
  | (_, n) :: pl, k, (i, es) :: r, zs => cond (Nat.beq i k) (es ++ fillB pl (k + 1) r (zs.drop n)) (zs.take n ++ fillB pl (k + 1) ((i, es) :: r) (zs.drop n))
theorem foldl_put (l : List Value) : ∀ (k : Nat) (z : Array Value), k + l.length ≤ z.size → ∀ off, off ≤ k → (l.zipIdx (k - off)).foldl (fun cs x => cs.setIfInBounds (off + x.2) x.1) z = (z.toList.take k ++ l ++ z.toList.drop (k + l.length)).toArray := by
  induction l with
  | nil => intro k z hz off ho; simp
  | cons x l ih =>
    intro k z hz off ho
    simp only [List.length_cons] at hz
    rw [List.zipIdx_cons, List.foldl_cons]
    have := ih (k + 1) (z.setIfInBounds (off + (k - off)) x) (by simp; omega) off (by omega)
    rw [show k + 1 - off = k - off + 1 by omega] at this
    rw [this]
    simp only [show off + (k - off) = k by omega]
    apply congrArg
    simp only [Array.toList_setIfInBounds, List.length_cons]
    rw [List.take_add_one, List.take_set, List.getElem?_set_self (by simp; omega)]
    rw [List.set_eq_of_length_le (by simp; omega), List.drop_set, if_pos (by omega)]
    simp only [Option.toList_some, List.append_assoc, List.singleton_append, List.cons_append, List.nil_append]
    rw [show k + (l.length + 1) = k + 1 + l.length by omega]
theorem fillA.run {ok : Nat → Prop} {w : World} {pl : List (Nat × Nat)} : ∀ (ps : List (Nat × List A)) (xs : List (Nat × Value)) (cs cs' : List A) (us : Array Value), fillA pl cs ps = some cs' → RC ok w cs us.toList → xs.map (·.1) = ps.map (·.1) → (∀ (j : Nat) (p : Nat × List A) (x : Nat × Value), ps[j]? = some p → xs[j]? = some x → RC ok w p.2 x.2.cells.toList) →
    ∃ us', Instr.fill (pl.toArray[·]?) us xs = some us' ∧ RC ok w cs' us'.toList
  | [], xs, cs, cs', us, h, hr, hm, hx => by
    have : xs = [] := by simpa using hm
    subst this
    simp [fillA] at h; subst h
    exact ⟨us, rfl, hr⟩
  | (i, es) :: ps, [], cs, cs', us, h, hr, hm, hx => by simp at hm
  | (i, es) :: ps, (i', x) :: xs, cs, cs', us, h, hr, hm, hx => by
    simp only [List.map_cons, List.cons.injEq] at hm
    obtain ⟨rfl, hm⟩ := hm
    have hxc := hx 0 _ _ rfl rfl
    simp only at hxc
    unfold fillA at h
    cases hp : pl[i']? with
    | none => rw [hp] at h; cases h
    | some q =>
      obtain ⟨off, size⟩ := q
      rw [hp] at h
      simp only at h
      cases hc : (Nat.beq es.length size && Nat.ble (off + es.length) cs.length) with
      | false => rw [hc] at h; cases h
      | true =>
        rw [hc] at h
        simp only [Bool.and_eq_true] at hc
        have h1 := Nat.eq_of_beq_eq_true hc.1
        have h2 := Nat.le_of_ble_eq_true hc.2
        have hl1 := hxc.len
        have hl2 := hr.len
        simp only [Array.length_toList] at hl1 hl2
        have hf := foldl_put x.cells.toList off us (by simp; omega) off (Nat.le_refl _)
        rw [Nat.sub_self] at hf
        have hr2 : RC ok w (putC cs off es) (us.toList.take off ++ x.cells.toList ++ us.toList.drop (off + x.cells.toList.length)) := by
          unfold putC
          have : es.length = x.cells.toList.length := by simp; omega
          rw [this]
          exact RC.app (RC.app (hr.take off) hxc) (hr.drop _)
        obtain ⟨us', g1, g2⟩ := fillA.run ps xs _ cs' ((us.toList.take off ++ x.cells.toList ++ us.toList.drop (off + x.cells.toList.length)).toArray) h (by simpa using hr2) hm (fun j p x hp hx' => hx (j + 1) p x (by simpa using hp) (by simpa using hx'))
        refine ⟨us', ?_, g2⟩
        have hp' : pl.toArray[i']? = some (off, size) := by simpa using hp
        unfold Instr.fill
        rw [hp']
        simp only
        rw [if_neg (by simp; omega)]
        rw [← g1]
        congr 1
        rw [← Array.foldl_toList, Array.toList_zipIdx]
        exact hf
section
variable {P : Program}
theorem tyPlaces.run {T : Nat} {pl : List (Nat × Nat)} (h : tyPlaces P T = some pl) : ∃ fs, P.underlying T = some (.struct fs) ∧ ∀ w, (fs.mapM fun f => do pure (f.offset, ← sizeOf f.type) : Sem (Array (Nat × Nat))).run P w = .ok pl.toArray w := by
  unfold tyPlaces at h
  cases hu : P.underlying T with
  | none => rw [hu] at h; cases h
  | some d =>
    rw [hu] at h
    cases d with
    | struct fs =>
      simp only at h
      refine ⟨fs, rfl, fun w => ?_⟩
      have key : ∀ (l : List Field) (pl : List (Nat × Nat)), (l.mapM fun f => (P.info? f.type).map fun i => (f.offset, i.size)) = some pl → (l.mapM fun f => do pure (f.offset, ← sizeOf f.type) : Sem (List (Nat × Nat))).run P w = .ok pl w := by
        intro l
        induction l with
        | nil => intro pl h; simp at h; subst h; simp
        | cons f l ih =>
          intro pl h
          rw [List.mapM_cons] at h
          cases hi : P.info? f.type with
          | none => rw [hi] at h; cases h
          | some i =>
            rw [hi] at h
            simp only [Option.map_some, Option.bind_eq_bind, Option.bind_some] at h
            cases hm : (l.mapM fun f => (P.info? f.type).map fun i => (f.offset, i.size)) with
            | none => rw [hm] at h; cases h
            | some q =>
              rw [hm] at h
              simp at h; subst h
              have h5 := ih q hm
              have h6 : (sizeOf f.type).run P w = .ok i.size w := by simp [sizeOf, typeInfo, Sem.run_bind, hi]
              rw [List.mapM_cons, Sem.run_bind, Sem.run_bind, h6]
              simp only [Result.andThen_ok, Sem.run_pure, Sem.run_bind, h5]
      have h2 := key fs.toList pl h
      have e : (fs.mapM fun f => do pure (f.offset, ← sizeOf f.type) : Sem (Array (Nat × Nat))) = (do let l ← (fs.toList.mapM fun f => do pure (f.offset, ← sizeOf f.type)); pure l.toArray) := by
        rw [Array.mapM_eq_mapM_toList, map_eq_pure_bind]
      rw [e, Sem.run_bind, h2]
      rfl
    | _ => cases h
end
def fieldV (P : Program) (X k : Nat) : Bool := match P.underlying X with
    | some (.struct fs) => match fs[k]? with
      | some fd => tyAgg P fd.type == some false
      | none => false
    | _ => false
theorem mapM_get {α β : Type} {g : α → Option β} : ∀ {l : List α} {q : List β}, l.mapM g = some q → ∀ {k : Nat} {a : α}, l[k]? = some a → ∃ b, q[k]? = some b ∧ g a = some b
    | [], q, h, k, a, e => by simp at e
    | x :: l, q, h, k, a, e => by
      rw [List.mapM_cons] at h
      cases hx : g x with
      | none => rw [hx] at h; cases h
      | some b =>
        rw [hx] at h
        simp only [Option.bind_eq_bind, Option.bind_some] at h
        cases hl : l.mapM g with
        | none => rw [hl] at h; cases h
        | some r =>
          rw [hl] at h
          simp at h; subst h
          cases k with
          | zero => simp at e; subst e; exact ⟨b, rfl, hx⟩
          | succ k => simp at e; simpa using mapM_get hl e
def evP (f : Fm) : List (Nat × Operand) → Option (List (Nat × List A))
  | [] => some []
  | (i, x) :: r => match evD f x with
    | none => none
    | some d => match cellsD d, evP f r with
      | some cs, some l => some ((i, cs) :: l)
      | _, _ => none
section
variable {P : Program} {c : Cx} {f : Fm} {L : List Res} {t : Option Tmp} {T : TypeId} {ps : String} {af : Array Edge} {gd : Option (Nat × Bool)}
theorem evP.rep {a : Act} {w : World} (s : St c f L a w) : ∀ {parts : List (Nat × Operand)} {l : List (Nat × List A)}, evP f parts = some l → (parts.map fun p => (p.1, a.eval p.2)).map (·.1) = l.map (·.1) ∧ ∀ (j : Nat) (p : Nat × List A) (x : Nat × Value), l[j]? = some p → (parts.map fun p => (p.1, a.eval p.2))[j]? = some x → RC (okk c L) w p.2 x.2.cells.toList
  | [], l, h => by simp [evP] at h; subst h; simp
  | (i, x) :: r, l, h => by
    unfold evP at h
    cases h1 : evD f x with
    | none => rw [h1] at h; cases h
    | some d =>
      rw [h1] at h
      simp only at h
      cases h2 : cellsD d with
      | none => rw [h2] at h; cases h
      | some cs =>
        cases h3 : evP f r with
        | none => rw [h2, h3] at h; cases h
        | some l' =>
          rw [h2, h3] at h
          cases h
          obtain ⟨g1, g2⟩ := evP.rep s h3
          refine ⟨by simpa using g1, fun j p x hp hx => ?_⟩
          cases j with
          | zero => simp at hp hx; subst hp; subst hx; exact cellsD.rep h2 (s.ev h1)
          | succ j => exact g2 j p x (by simpa using hp) (by simpa using hx)
theorem Qt.build {X : Nat} {parts : List (Nat × Operand)} {pl : List (Nat × Nat)} {zs : List Value} {l : List (Nat × List A)} [z : TyZ' P X zs] [i : TyP P X pl] (h : evP f parts = some l) (hf : fillA pl (vs zs) l = some (fillB pl 0 l (vs zs))) : Qt P c [] ⟨t, .build X parts.toArray, T, ps, af, gd⟩ f L (.agg (fillB pl 0 l (vs zs))) := ⟨fun a w s => by
  obtain ⟨g1, g2⟩ := evP.rep s h
  obtain ⟨zv, hz1, hz2⟩ := tyZero.run z.h
  obtain ⟨fs, u1, u2⟩ := tyPlaces.run i.h
  obtain ⟨us, r1, r2⟩ := fillA.run (ok := okk c L) (w := w) l (parts.map fun p => (p.1, a.eval p.2)) (vs zs) _ zv.cells hf (by rw [hz1]; exact RC.vs z.o) g1 g2
  refine ⟨.agg us, by unfold RD; exact ⟨us.toList, by simp, r2⟩, fun w' k => ?_⟩
  have e : (parts.toArray.map fun (i, x) => (i, a.eval x)).toList = parts.map fun p => (p.1, a.eval p.2) := by simp
  simp only [execOp, Instr.build, Sem.run_bind, hz2, Result.andThen_ok, run_underlying u1, u2, e, r1, Sem.run_pure]⟩
theorem Qt.field {x : Operand} {X k off : Nat} {cs : List A} {e : A} {pl : List (Nat × Nat)} [i : TyP P X pl] (h : evD f x = some (.agg cs)) (hp : pl[k]? = some (off, 1)) (hv : fieldV P X k = true) (he : cs[off]? = some e) : Qt P c [] ⟨t, .field X x k, T, ps, af, gd⟩ f L (.c e) := ⟨fun a w s => by
  have r := s.ev h
  unfold RD at r
  obtain ⟨vs, hx, hr⟩ := r
  obtain ⟨y, hy, hre⟩ := hr.get off he
  refine ⟨y, by unfold RD; exact hre, fun w' k' => ?_⟩
  unfold fieldV at hv
  have hi := i.h
  unfold tyPlaces at hi
  cases hu : P.underlying X with
  | none => rw [hu] at hi; cases hi
  | some d =>
    rw [hu] at hi hv
    cases d with
    | struct fs =>
      simp only at hi hv
      cases hf : fs[k]? with
      | none => rw [hf] at hv; cases hv
      | some fd =>
        rw [hf] at hv
        simp only [beq_iff_eq] at hv
        have hoff : fd.offset = off := by
          have h3 := mapM_get hi (k := k) (a := fd) (by simpa using hf)
          obtain ⟨q, hq1, hq2⟩ := h3
          rw [hp] at hq1; cases hq1
          cases hinf : P.info? fd.type with
          | none => rw [hinf] at hq2; cases hq2
          | some ii => rw [hinf] at hq2; simp at hq2; exact hq2.1
        simp [execOp, Instr.field, Sem.run_bind, run_underlying hu, hf, hx, asAgg, part, tyAgg.runF hv, hoff, hy]
    | _ => cases hv⟩
def bnd (f : Fm) (x : Option Operand) (n : Int) : Option Int := match x with
  | none => some n
  | some y => match evD f y with
    | some (.c (.v (.int _ m))) => some m
    | _ => none
theorem bnd.run {a : Act} {w : World} (s : St c f L a w) {x : Option Operand} {n m : Int} (h : bnd f x n = some m) : (x = none ∧ m = n) ∨ ∃ y k, x = some y ∧ a.eval y = .int k m := by
  unfold bnd at h
  cases x with
  | none => simp at h; exact .inl ⟨rfl, h.symm⟩
  | some y =>
    simp only at h
    split at h
    · rename_i k q e
      cases h
      exact .inr ⟨y, k, rfl, s.val e⟩
    · cases h
theorem Qt.sliceR {x : Operand} {lo hi : Option Operand} {X e sz : Nat} {l : List (List A)} {m n : Int} [i : TyS P X e sz] (h : evD f x = some (.c (.r sz l))) (hlo : bnd f lo 0 = some m) (hhi : bnd f hi l.length = some n) (h1 : 0 ≤ m) (h2 : m ≤ n) (h3 : n ≤ l.length) : Qt P c [] ⟨t, .slice X x lo hi none, T, ps, af, gd⟩ f L (.c (.r sz ((l.take n.toNat).drop m.toNat))) := ⟨fun a w s => by
  have r := s.ev h
  unfold RD RA at r
  obtain ⟨ao, cap, hx, g1, g2, g3⟩ := r
  have hn : n.toNat ≤ l.length := by omega
  refine ⟨.slice (if cap = m.toNat then ao else ao.map (·.add (m.toNat * sz))) (n.toNat - m.toNat) (cap - m.toNat), ?_, fun w' k => ?_⟩
  · unfold RD RA
    refine ⟨if cap = m.toNat then ao else ao.map (·.add (m.toNat * sz)), cap - m.toNat, by simp [hn], by simp; omega, by omega, ?_⟩
    by_cases hz : ((l.take n.toNat).drop m.toNat) = []
    · exact .inl hz
    · have hne : l ≠ [] := fun e => hz (by simp [e])
      rcases g3 with g3 | ⟨g, off, rfl, g5, g6, g7⟩
      · exact absurd g3 hne
      · have hlt : m.toNat < cap := by
          rcases Nat.lt_or_ge m.toNat cap with h | h
          · exact h
          · exact absurd (List.eq_nil_of_length_eq_zero (by simp; omega)) hz
        refine .inr ⟨g, off + m.toNat * sz, by rw [if_neg (by omega)]; simp [Addr.add_mid], g5, g6, ?_⟩
        exact (g7.take n.toNat).drop m.toNat
  · have hlow : ∀ w, (match lo.map a.eval with | some v => Instr.sliceBound v n.toNat .sliceB | none => pure 0 : Sem Nat).run P w = .ok m.toNat w := fun w => by
      rcases bnd.run s hlo with ⟨rfl, rfl⟩ | ⟨y, kd, rfl, hy⟩
      · simp
      · simp only [Option.map_some, hy, Instr.sliceBound, asIntOf, Sem.run_bind, Sem.run_pure, Result.andThen_ok]
        rw [if_pos ⟨h1, by omega⟩]; rfl
    have hhigh : ∀ w, (match hi.map a.eval, (none : Option Value) with | some v, some _ => Instr.sliceBound v cap .slice3B | some v, none => Instr.sliceBound v cap (if true then .sliceAcap else .sliceAlen) | none, none => pure l.length | none, some _ => stuck "Slice: max without high" : Sem Nat).run P w = .ok n.toNat w := fun w => by
      rcases bnd.run s hhi with ⟨rfl, rfl⟩ | ⟨y, kd, rfl, hy⟩
      · simp
      · simp only [Option.map_some, hy, Instr.sliceBound, asIntOf, Sem.run_bind, Sem.run_pure, Result.andThen_ok]
        rw [if_pos ⟨by omega, by omega⟩]; rfl
    have hsb : ∀ w, (Instr.sliceBounds true l.length cap (lo.map a.eval) (hi.map a.eval) none).run P w = .ok (m.toNat, n.toNat, cap) w := fun w => by
      unfold Instr.sliceBounds
      simp only [Sem.run_bind, Sem.run_pure, Result.andThen_ok, Option.isSome_none, Bool.false_eq_true, ↓reduceIte]
      have a1 := hhigh w
      have a2 := hlow w
      cases hhi' : hi.map a.eval <;> cases hlo' : lo.map a.eval <;> rw [hhi'] at a1 <;> rw [hlo'] at a2 <;> simp only [↓reduceIte, Sem.run_pure, Result.ok.injEq, and_true] at a1 a2 <;> simp [Sem.run_bind, a1, a2]
    simp only [execOp, Option.map_none, Instr.sliceAt, Instr.slice, hx, Sem.run_bind, run_underlying (tyElem.und i.h), Result.andThen_ok, hsb, tySize.run i.s, Sem.run_pure]⟩
theorem Qt.eq {U : List Nat} {o : Oper} {d d' : D} (q : Qt P c U o f L d) (h : d = d') : Qt P c U o f L d' := h ▸ q
theorem w64 {n : Int} (h1 : -9223372036854775808 ≤ n) (h2 : n ≤ 9223372036854775807) : IntKind.i64.wrap n = n := IntWalk.i64_in n ⟨h1, h2⟩
end
section
variable {P : Program} {c : Cx} {k : List Item} {f : Fm} {L L2 : List Res} {o : Oper}
theorem foots_perm (hp : L2.Perm L) (x : Nat) : x ∈ foots L2 ↔ x ∈ foots L := by
  rw [mem_foots, mem_foots]
  exact ⟨fun ⟨q, hq, hx⟩ => ⟨q, hp.mem_iff.1 hq, hx⟩, fun ⟨q, hq, hx⟩ => ⟨q, hp.mem_iff.2 hq, hx⟩⟩
theorem St.perm (hp : L2.Perm L) {a : Act} {w : World} (s : St c f L a w) : St c f L2 a w := by
  have ho : okk c L2 = okk c L := by
    funext x; unfold okk; rw [foots_perm hp]
  exact ⟨s.kp, s.size, s.dfr, fun q hq => by rw [ho]; exact s.res q (hp.mem_iff.1 hq), fun x hx => s.frm x ((foots_perm hp x).1 hx), (hp.pairwise_iff (fun {x y} hxy z hz hz' => hxy z hz' hz)).2 s.ap, fun u d hu => by rw [ho]; exact s.fr u d hu⟩
theorem Ld.perm (hp : L2.Perm L) {S : List Nat} {ι : Type} {f' : ι → Fm} {L' : ι → List Res} (h : Ld P c o f L2 S f' L') : Ld P c o f L S f' L' := ⟨fun a w s K Q hK =>
  h.go a w (s.perm hp) K Q fun x v w' kp sx hf => hK x v w' kp sx fun y hy => by
    rcases hf y hy with h | h
    · exact .inl ((foots_perm hp y).1 h)
    · exact .inr h⟩
theorem erase_perm {r : Res} {i : Nat} {L' : List Res} (h : L[i]? = some r) (e : L.eraseIdx i = L') : (r :: L').Perm L := e ▸ pull_perm L i h
variable {T X : TypeId} {ps : String} {af : Array Edge} {gd : Option (Nat × Bool)} {t : Nat} {e sz bytes i : Nat} {z : Value} {x y : Operand} {v : Value} {l1 l2 : List (List A)} {L' : List Res} {d2 : D}
theorem Srce.ownC {j e' : Nat} {u : Value} {m : List (List A)} [bx : RowAt L' u e' sz m j] : Srce L' sz (.c (.v u)) m := .own j bx.h
theorem Ld.appOw [E : TyE P X e sz bytes z] [bx : RowAt L v e sz l1 i] [er : EraseAt L i L'] (ht : t < c.N) (h1 : evD f x = some (.c (.v v))) (h2 : evD f y = some d2) (hs : Srce L' sz d2 l2) (hb : (l1.length + l2.length) * bytes ≤ 140737488355328) :
    Ld P c ⟨some t, .call ⟨.builtin .append, #[x, y], #[X, X]⟩, T, ps, af, gd⟩ f L (vfoot v) (fun v' : Value => (t, .c (.v v')) :: f) (fun v' => .row v' e sz (l1 ++ l2) :: L') :=
  Ld.perm (erase_perm bx.h er.h) (Ld.appO ht h1 (.own rfl) h2 hs hb)
theorem Ld.appRw [E : TyE P X e sz bytes z] [bx : RowAt L v e sz l1 i] [er : EraseAt L i L'] (ht : t < c.N) (h1 : evD f x = some (.c (.v v))) (h2 : evD f y = some d2) (hs : Srce L' sz d2 l2) (hb : (l1.length + l2.length) * bytes ≤ 140737488355328) :
    Ld P c ⟨some t, .call ⟨.builtin .append, #[x, y], #[X, X]⟩, T, ps, af, gd⟩ f L (vfoot v) (fun _ : Unit => (t, .c (.r sz (l1 ++ l2))) :: f) (fun _ => L') :=
  Ld.perm (erase_perm bx.h er.h) (Ld.appR ht h1 (.own rfl) h2 hs hb)
theorem Ld.appOn [E : TyE P X e sz bytes z] (ht : t < c.N) (h1 : evD f x = some (.c (.v (.slice none 0 0)))) (h2 : evD f y = some d2) (hs : Srce L sz d2 l2) (hb : l2.length * bytes ≤ 140737488355328) :
    Ld P c ⟨some t, .call ⟨.builtin .append, #[x, y], #[X, X]⟩, T, ps, af, gd⟩ f L (vfoot (.slice none 0 0)) (fun v' : Value => (t, .c (.v v')) :: f) (fun v' => .row v' e sz l2 :: L) :=
  Ld.appO ht h1 .nil h2 hs (by simpa using hb)
theorem Ld.appRn [E : TyE P X e sz bytes z] (ht : t < c.N) (h1 : evD f x = some (.c (.v (.slice none 0 0)))) (h2 : evD f y = some d2) (hs : Srce L sz d2 l2) (hb : l2.length * bytes ≤ 140737488355328) :
    Ld P c ⟨some t, .call ⟨.builtin .append, #[x, y], #[X, X]⟩, T, ps, af, gd⟩ f L (vfoot (.slice none 0 0)) (fun _ : Unit => (t, .c (.r sz l2)) :: f) (fun _ => L) :=
  Ld.appR ht h1 .nil h2 hs (by simpa using hb)
end
section
variable {P : Program} {c : Cx} {k : List Item} {f : Fm} {L : List Res}
theorem J.weak {f' : Fm} (h : J P c k f' L) (ho : Only f f') : J P c k f L := J.only f' ho h
theorem J.congL {L' : List Res} (e : L' = L) (h : J P c k f L') : J P c k f L := e ▸ h
theorem J.frzS (t : Nat) {v : Value} {e sz i : Nat} {l : List (List A)} {L' : List Res} [bx : RowAt L v e sz l i] [er : EraseAt L i L'] (h1 : look f t = some (.c (.v v))) (h : J P c k ((t, .c (.r sz l)) :: f) L') : J P c k f L := ⟨fun a w s => by
  have hp : (Res.row v e sz l :: L').Perm L := by rw [← er.h]; exact pull_perm L i bx.h
  have hm : ∀ x, x ∈ foots (Res.row v e sz l :: L') ↔ x ∈ foots L := fun x => by
    rw [mem_foots, mem_foots]
    exact ⟨fun ⟨q, hq, hx⟩ => ⟨q, hp.mem_iff.1 hq, hx⟩, fun ⟨q, hq, hx⟩ => ⟨q, hp.mem_iff.2 hq, hx⟩⟩
  have ho : okk c (Res.row v e sz l :: L') = okk c L := by
    funext x; unfold okk; rw [hm]
  have s1 : St c ((t, .c (.v v)) :: f) (Res.row v e sz l :: L') a w := by
    refine ⟨s.kp, s.size, s.dfr, fun q hq => by rw [ho]; exact s.res q (hp.mem_iff.1 hq), fun x hx => s.frm x ((hm x).1 hx), (hp.pairwise_iff (fun {x y} hxy z hz hz' => hxy z hz' hz)).2 s.ap, fun u d hu => ?_⟩
    rw [ho]
    by_cases e1 : t = u
    · subst e1; rw [look_cons_eq] at hu; cases hu; exact s.fr t _ h1
    · rw [look_cons_ne e1] at hu; exact s.fr u d hu
  exact h.go a w s1.freeze⟩
end
/-! of which kind the next operation is -/
namespace K
section
variable {P : Program} {c : Cx} {k : List Item} {f : Fm} {L : List Res} {ops : Array Oper} {l : List Oper} {t : Option Tmp} {T : TypeId} {ps : String} {af : Array Edge} {gd : Option (Nat × Bool)}
theorem load {X : TypeId} {x : Operand} (h : JO P c ops (⟨t, .load X x, T, ps, af, gd⟩ :: l) k f L) : JO P c ops (⟨t, .load X x, T, ps, af, gd⟩ :: l) k f L := h
theorem store {X : TypeId} {x y : Operand} (h : JO P c ops (⟨t, .store X x y, T, ps, af, gd⟩ :: l) k f L) : JO P c ops (⟨t, .store X x y, T, ps, af, gd⟩ :: l) k f L := h
theorem move {x : Operand} (h : JO P c ops (⟨t, .move x, T, ps, af, gd⟩ :: l) k f L) : JO P c ops (⟨t, .move x, T, ps, af, gd⟩ :: l) k f L := h
theorem assign {x : Operand} (h : JO P c ops (⟨t, .assign x, T, ps, af, gd⟩ :: l) k f L) : JO P c ops (⟨t, .assign x, T, ps, af, gd⟩ :: l) k f L := h
theorem fieldAddr {X : TypeId} {x : Operand} {n : Nat} (h : JO P c ops (⟨t, .fieldAddr X x n, T, ps, af, gd⟩ :: l) k f L) : JO P c ops (⟨t, .fieldAddr X x n, T, ps, af, gd⟩ :: l) k f L := h
theorem indexAddr {X : TypeId} {x y : Operand} (h : JO P c ops (⟨t, .indexAddr X x y, T, ps, af, gd⟩ :: l) k f L) : JO P c ops (⟨t, .indexAddr X x y, T, ps, af, gd⟩ :: l) k f L := h
theorem binOp {b : BinOp} {X Y : TypeId} {x y : Operand} (h : JO P c ops (⟨t, .binOp b X x y Y, T, ps, af, gd⟩ :: l) k f L) : JO P c ops (⟨t, .binOp b X x y Y, T, ps, af, gd⟩ :: l) k f L := h
theorem unOp {b : UnOp} {X : TypeId} {x : Operand} (h : JO P c ops (⟨t, .unOp b X x, T, ps, af, gd⟩ :: l) k f L) : JO P c ops (⟨t, .unOp b X x, T, ps, af, gd⟩ :: l) k f L := h
theorem call {x : Operand} {as_ : Array Operand} {tys : Array TypeId} (h : JO P c ops (⟨t, .call ⟨.value x, as_, tys⟩, T, ps, af, gd⟩ :: l) k f L) : JO P c ops (⟨t, .call ⟨.value x, as_, tys⟩, T, ps, af, gd⟩ :: l) k f L := h
theorem bi {b : Builtin} {as_ : Array Operand} {tys : Array TypeId} (h : JO P c ops (⟨t, .call ⟨.builtin b, as_, tys⟩, T, ps, af, gd⟩ :: l) k f L) : JO P c ops (⟨t, .call ⟨.builtin b, as_, tys⟩, T, ps, af, gd⟩ :: l) k f L := h
theorem extract {x : Operand} {n : Nat} (h : JO P c ops (⟨t, .extract x n, T, ps, af, gd⟩ :: l) k f L) : JO P c ops (⟨t, .extract x n, T, ps, af, gd⟩ :: l) k f L := h
theorem alloc {X : TypeId} (h : JO P c ops (⟨t, .alloc X, T, ps, af, gd⟩ :: l) k f L) : JO P c ops (⟨t, .alloc X, T, ps, af, gd⟩ :: l) k f L := h
theorem box {X : TypeId} {x : Operand} (h : JO P c ops (⟨t, .box X x, T, ps, af, gd⟩ :: l) k f L) : JO P c ops (⟨t, .box X x, T, ps, af, gd⟩ :: l) k f L := h
theorem build {X : TypeId} {as_ : Array (Nat × Operand)} (h : JO P c ops (⟨t, .build X as_, T, ps, af, gd⟩ :: l) k f L) : JO P c ops (⟨t, .build X as_, T, ps, af, gd⟩ :: l) k f L := h
theorem lit {X : TypeId} {n : Nat} {as_ : Array (Nat × Operand)} (h : JO P c ops (⟨t, .buildSlice X n as_, T, ps, af, gd⟩ :: l) k f L) : JO P c ops (⟨t, .buildSlice X n as_, T, ps, af, gd⟩ :: l) k f L := h
theorem slice {X : TypeId} {x : Operand} {lo hi mx : Option Operand} (h : JO P c ops (⟨t, .slice X x lo hi mx, T, ps, af, gd⟩ :: l) k f L) : JO P c ops (⟨t, .slice X x lo hi mx, T, ps, af, gd⟩ :: l) k f L := h
theorem pick {x y z : Operand} (h : JO P c ops (⟨t, .pick x y z, T, ps, af, gd⟩ :: l) k f L) : JO P c ops (⟨t, .pick x y z, T, ps, af, gd⟩ :: l) k f L := h
theorem nilCheck {x : Operand} (h : JO P c ops (⟨t, .nilCheck x, T, ps, af, gd⟩ :: l) k f L) : JO P c ops (⟨t, .nilCheck x, T, ps, af, gd⟩ :: l) k f L := h
theorem convert {X Y : TypeId} {x : Operand} (h : JO P c ops (⟨t, .convert X Y x, T, ps, af, gd⟩ :: l) k f L) : JO P c ops (⟨t, .convert X Y x, T, ps, af, gd⟩ :: l) k f L := h
theorem field {X : TypeId} {x : Operand} {n : Nat} (h : JO P c ops (⟨t, .field X x n, T, ps, af, gd⟩ :: l) k f L) : JO P c ops (⟨t, .field X x n, T, ps, af, gd⟩ :: l) k f L := h
theorem make {X : TypeId} {x y : Operand} (h : JO P c ops (⟨t, .makeSlice X x y, T, ps, af, gd⟩ :: l) k f L) : JO P c ops (⟨t, .makeSlice X x y, T, ps, af, gd⟩ :: l) k f L := h
end
end K
end Fl
end Go.Proofs.YtbjnbngpjdoejaaDoor
