/-
  Regions that draw their order: operations that only look are taken first; the others as they come.
  Conditions: none; nothing of the program stands here.
-/
import Derived.Test.YtgjpdogjekmemaaDoorFlh
namespace Go.Proofs.YtgjpdogjekmemaaDoor
open Go.RowKit
set_option linter.unusedVariables false
set_option linter.unusedSimpArgs false
set_option linter.unnecessarySimpa false

namespace Fl
section
variable {P : Program} {ops : Array Oper} {Q : Exit → Act → World → Prop} {md : Region.Mode} {S : World → Prop} {m : Option Nat}
/-- whatever comes next: S holds behind it, unless it is the last one -/
def Gx (P : Program) (md : Region.Mode) (ops : Array Oper) (Q : Exit → Act → World → Prop) (S : World → Prop) (m : Option Nat) : Nat → Array Bool → Act → World → Prop
  | 0, listed, a, w => Region.ready md ops listed = [] ∧ Q .normal a w
  | n + 1, listed, a, w => (Region.ready md ops listed = [] → Q .normal a w) ∧
    ∀ i ∈ Region.ready md ops listed, wpOp P ops Q i (fun a' w' => (some i = m ∧ wpAny P md ops Q n (listed.setIfInBounds i true) a' w') ∨ (S w' ∧ Gx P md ops Q S m n (listed.setIfInBounds i true) a' w')) a w
theorem Gx.any : ∀ (n : Nat) (listed : Array Bool) (a : Act) (w : World), Gx P md ops Q S m n listed a w → wpAny P md ops Q n listed a w
  | 0, _, _, _, h => h
  | n + 1, _, _, _, h => ⟨h.1, fun i hi => wpOp_mono (fun a' w' h' => h'.elim (·.2) (fun h' => Gx.any n _ a' w' h'.2)) (h.2 i hi)⟩
/-- the last one waits for number i -/
def waitsO (md : Region.Mode) (ops : Array Oper) (m : Option Nat) (i : Nat) : Bool := match m with
  | none => true
  | some j => waitsFor md ops j i
theorem Gx.first {i : Nat} {oi : Oper} {v : Value} (hi : ops[i]? = some oi) (hsel : ∀ (j : Nat) (o : Oper) cs b, ops[j]? = some o → o.op ≠ .select cs b) (hQ : ∀ c a w, Q (.panic c) (a.put oi.dst v) w → Q (.panic c) a w) (hm : waitsO md ops m i = true) :
    ∀ (n : Nat) (listed : Array Bool) (a : Act) (w : World), (∀ (j : Nat) oj, ops[j]? = some oj → j ≠ i → listed.getD j true = false → (∀ e ∈ oj.after, Region.binds md e = true → e.on ≠ i) → oi.apart ops oj = true) →
      i ∈ Region.ready md ops listed → YieldsIf P ops S oi v a → S w → Gx P md ops Q S m n (listed.setIfInBounds i true) (a.put oi.dst v) w → Gx P md ops Q S m (n + 1) listed a w
  | n, listed, a, w, hfree, hr, hy, hS, H => by
    refine ⟨fun h => (by rw [h] at hr; cases hr), fun j hj => ?_⟩
    by_cases hji : j = i
    · subst hji; exact hy.wpOp hi hS (.inr ⟨hS, H⟩)
    · cases n with
      | zero =>
        have := ready_mono hj hji
        rw [H.1] at this
        cases this
      | succ n =>
        obtain ⟨hjun, oj, hoj, hall⟩ := mem_ready.1 hj
        have hno := not_ready_yet hr hall
        have hjm : some j ≠ m := fun e => by
          subst e
          unfold waitsO waitsFor at hm
          simp only at hm
          rw [hoj] at hm
          obtain ⟨x, hx, hp⟩ := Array.any_eq_true'.1 hm
          simp only [Bool.and_eq_true, beq_iff_eq] at hp
          exact hno x hx hp.2 hp.1
        have h2 := wpOp_putIf hoj (hfree j oj hoj hji hjun hno) (fun cs b => hsel i oi cs b hi) (fun cs b => hsel j oj cs b hoj) hQ hy (H.2 j (ready_mono hj hji))
        have hr2 : i ∈ Region.ready md ops (listed.setIfInBounds j true) := ready_mono hr (Ne.symm hji)
        refine wpOp_mono (fun a' w' h3 => ?_) h2
        have hcomm := Array.setIfInBounds_comm (xs := listed) true true hji
        obtain ⟨h4, h5⟩ : S w' ∧ _ := h3.2.resolve_left (fun h => hjm h.1)
        exact .inr ⟨h4, Gx.first hi hsel hQ hm n (listed.setIfInBounds j true) a' w' (fun k ok hk hki hun hno => by
          refine hfree k ok hk hki ?_ hno
          by_cases hjk : j = k
          · subst hjk; exact hjun
          · rw [getD_set_ne true hjk] at hun; exact hun) hr2 h3.1 h4 (by rw [hcomm]; exact h5)⟩
end
/-- the region's number i may be taken now, ahead of the others -/
def okTake (md : Region.Mode) (ops : Array Oper) (m : Option Nat) (listed : Array Bool) (i : Nat) : Bool :=
  Region.noSelect ops && Region.free md ops listed i && (Region.ready md ops listed).contains i && waitsO md ops m i
/-- the blocks of numbers T of what is owned -/
def blk (L : List Res) (T : List Nat) : List Nat := T.flatMap fun i => match L[i]? with
  | some r => r.foot
  | none => []
theorem mem_blk {L : List Res} {T : List Nat} {x : Nat} : x ∈ blk L T ↔ ∃ i ∈ T, ∃ r, L[i]? = some r ∧ x ∈ r.foot := by
  unfold blk
  rw [List.mem_flatMap]
  constructor
  · rintro ⟨i, hi, hx⟩
    cases h : L[i]? with
    | none => rw [h] at hx; cases hx
    | some r => rw [h] at hx; exact ⟨i, hi, r, h, hx⟩
  · rintro ⟨i, hi, r, h, hx⟩
    exact ⟨i, hi, by rw [h]; exact hx⟩
theorem blk_foots {L : List Res} {T : List Nat} {x : Nat} (h : x ∈ blk L T) : x ∈ foots L := by
  obtain ⟨i, _, r, hr, hx⟩ := mem_blk.1 h
  exact mem_foots.2 ⟨r, List.mem_of_getElem? hr, hx⟩
section
variable (P : Program) (c : Cx)
/-- a region that draws, on its way -/
structure JW (ops : Array Oper) (n : Nat) (listed : Array Bool) (k : List Item) (f : Fm) (L : List Res) : Prop where
  go : ∀ a w, St c f L a w → wpAny P .any ops (fun e a' w' => e = .normal ∧ Run P c k a' w') n listed a w
/-- a region that draws, on its way: what is known now (f, L), and what was known at its beginning, and since, of what lay there then (f0, L0); numbers T of that may have been written -/
structure JD (ops : Array Oper) (m : Option Nat) (T : List Nat) (n : Nat) (listed : Array Bool) (k : List Item) (f : Fm) (L : List Res) (f0 : Fm) (L0 : List Res) : Prop where
  go : ∀ a w w0, St c f L a w → St c f0 L0 a w0 → Keeps (blk L0 T) w0 w → (∀ x ∈ foots L, x ∈ foots L0 ∨ w0.heap.size ≤ x) → Gx P .any ops (fun e a' w' => e = .normal ∧ Run P c k a' w') (fun w' => Keeps (blk L0 T) w0 w') m n listed a w
end
section
variable {P : Program} {c : Cx} {k : List Item} {f f0 : Fm} {L L0 : List Res} {ops : Array Oper} {l : List Oper} {o : Oper} {m : Option Nat} {T : List Nat} {n : Nat} {listed : Array Bool}
theorem J.draw {id : Nat} (hm : P.follows .mixedOrders = true) (hn : l.length = n) (h : JW P c l.toArray n (Array.replicate n false) k f L) : J P c (.code (.region id l.toArray true) :: k) f L := ⟨fun a w s => by
  refine Run.wp (wp_region_any hm ?_)
  have s' : St c f L a w.drew := ⟨s.kp.drew, s.size, s.dfr, fun r hr => (s.res r hr).mon ((Keeps.refl [] w).drew) (Mon.of_keeps ((Keeps.refl [] w).drew) fun g _ hg => ⟨hg, by simp⟩) (by simp), s.frm, s.ap, fun t d ht => RD.mon (Mon.of_keeps ((Keeps.refl [] w).drew) fun g _ hg => ⟨hg, by simp⟩) d _ (s.fr t d ht)⟩
  have := h.go a w.drew s'
  subst hn
  simpa using this⟩
/-- what lies there now is what is known at the beginning; number m, and what writes in numbers T, may write to it -/
theorem JW.baseT (T : List Nat) (m : Option Nat) (h : JD P c ops m T n listed k f L f L) : JW P c ops n listed k f L := ⟨fun a w s =>
  Gx.any (S := fun w' => Keeps (blk L T) w w') (m := m) _ _ _ _ (h.go a w w s s (Keeps.refl _ _) (fun g hg => .inl hg))⟩
theorem JW.base (m : Option Nat) (h : JD P c ops m [] n listed k f L f L) : JW P c ops n listed k f L := JW.baseT [] m h
/-- the block to which operand x points may be written -/
theorem JW.baseB (x : Operand) {b o B j : Nat} {cs : List A} (hx : evD f x = some (.c (.v (.pointer (some ⟨b, o, none⟩))))) [bx : BoxAt L b B cs j] (h : JD P c ops none [j] n listed k f L f L) : JW P c ops n listed k f L := JW.baseT [j] none h
/-- the row x may be written -/
theorem JW.baseR (x : Operand) {v : Value} {e sz j : Nat} {l : List (List A)} (hx : evD f x = some (.c (.v v))) [bx : RowAt L v e sz l j] (h : JD P c ops none [j] n listed k f L f L) : JW P c ops n listed k f L := JW.baseT [j] none h
/-- all have come -/
theorem JW.done (hl : Region.ready .any ops listed = []) (h : J P c k f L) : JW P c ops n listed k f L := ⟨fun a w s => wpAny_done hl ⟨rfl, h.go _ w s⟩ n⟩
theorem St.undef {a : Act} {w : World} {t : Nat} (s : St c f L a w) (ht : t < c.N) : St c ((t, .tup []) :: f) L (a.put (some t) Go.undef) w := s.put0 ht (by unfold RD; exact ⟨[], rfl, rfl⟩)
/-- an operation that looks, at what lay there at the beginning -/
theorem JD.take (i : Nat) {t : Nat} {d : D} {U : List Nat} (hi : ops[i]? = some o) (hd : o.dst = some t) (hk : okTake .any ops m listed i = true) (hw : Wants ops o f0 = true) (ht : t < c.N) (q : Qt P c U o f0 L0 d) (hu : (U.all fun j => !T.contains j) = true) (h : JD P c ops m T n (listed.setIfInBounds i true) k ((t, d) :: f) L ((t, d) :: f0) L0) : JD P c ops m T (n + 1) listed k f L f0 L0 := ⟨fun a w w0 s s0 kp ho => by
  obtain ⟨v, h1, h2⟩ := q.go a w0 s0
  unfold okTake at hk
  simp only [Bool.and_eq_true] at hk
  obtain ⟨⟨⟨k1, k2⟩, k3⟩, k4⟩ := hk
  have m1 : Mon (okk c L0) (okk c L) w0 w := Mon.of_keeps kp fun g hg hg' => ⟨⟨hg'.1, fun hx => by rcases ho g hx with h | h; exact hg'.2 h; omega⟩, fun hm => hg'.2 (blk_foots hm)⟩
  have hlat : ∀ w', Keeps (blk L0 T) w0 w' → Later L0 U w0 w' := fun w' hw' => ⟨_, hw', fun x hx => blk_foots hx, fun x hx j hj r hr hxr => by
    obtain ⟨i, hi, r2, hr2, hx2⟩ := mem_blk.1 hx
    have hij : j ≠ i := fun e => by
      subst e
      have := List.all_eq_true.1 hu j hj
      simp [hi] at this
    exact Apart.ne s0.ap hr hr2 hij x hxr hx2⟩
  refine Gx.first hi (Region.noSelect_spec k1) (fun c a w h => by cases h.1) k4 n listed a w (Region.free_spec hi k2) (by simpa using k3) (v := v) (.inl ⟨Wants.run hw s0, fun w' hw' => h2 w' (hlat w' hw')⟩) kp ?_
  have := h.go (a.put o.dst v) w w0 (by rw [hd]; exact s.put0 ht (RD.mon m1 _ _ h1)) (by rw [hd]; exact s0.put0 ht h1) kp ho
  exact this⟩
/-- a guarded operation that does not come -/
theorem JD.skip (i : Nat) {t : Nat} (hi : ops[i]? = some o) (hd : o.dst = some t) (hk : okTake .any ops m listed i = true) (hw : Wants0 ops o f0 = true) (ht : t < c.N) (h : JD P c ops m T n (listed.setIfInBounds i true) k ((t, .tup []) :: f) L ((t, .tup []) :: f0) L0) : JD P c ops m T (n + 1) listed k f L f0 L0 := ⟨fun a w w0 s s0 kp ho => by
  unfold okTake at hk
  simp only [Bool.and_eq_true] at hk
  obtain ⟨⟨⟨k1, k2⟩, k3⟩, k4⟩ := hk
  refine Gx.first hi (Region.noSelect_spec k1) (fun c a w h => by cases h.1) k4 n listed a w (Region.free_spec hi k2) (by simpa using k3) (v := undef) (.inr ⟨Wants0.run hw s0, rfl⟩) kp ?_
  have := h.go (a.put o.dst undef) w w0 (by rw [hd]; exact s.undef ht) (by rw [hd]; exact s0.undef ht) kp ho
  exact this⟩
/-- what does not hang on the memory -/
def stays : D → D
  | .c (.v x) => .c (.v x)
  | _ => .any
theorem stays.rep {d : D} {ok ok' : Nat → Prop} {w w' : World} {x : Value} (h : RD ok w d x) : RD ok' w' (stays d) x := by
  unfold stays
  split
  · unfold RD RA at h ⊢; exact h
  · unfold RD; trivial
/-- L0 is the end of L, but for what lies in the blocks -/
inductive Tail (L0 : List Res) : List Res → Prop
  | refl : Tail L0 L0
  | cons {r L} : Tail L0 L → Tail L0 (r :: L)
theorem Tail.mem {L0 L : List Res} (h : Tail L0 L) : ∀ q ∈ L0, q ∈ L := by
  induction h with
  | refl => exact fun _ h => h
  | cons _ ih => exact fun q hq => List.mem_cons_of_mem _ (ih q hq)
/-- what an operation may write in: nothing; what has been made since; or numbers T of what lay there -/
inductive Since (T : List Nat) (L0 L : List Res) : List Nat → Prop
  | none : Since T L0 L []
  | nil : Since T L0 L (vfoot (.slice none 0 0))
  | first {v e sz m Lr} : L = .row v e sz m :: Lr → Tail L0 Lr → Since T L0 L (vfoot v)
  | any {r i Lr} : L[i]? = some r → L.eraseIdx i = Lr → Tail L0 Lr → Since T L0 L r.foot
  | there {r j} : L0[j]? = some r → T.contains j = true → Since T L0 L r.foot
theorem Since.row {L0 L L' : List Res} {v : Value} {e sz i : Nat} {m : List (List A)} [bx : RowAt L v e sz m i] [er : EraseAt L i L'] (ht : Tail L0 L') : Since T L0 L (vfoot v) := .any bx.h er.h ht
theorem Since.box {L0 L L' : List Res} {b B i : Nat} {cs : List A} [bx : BoxAt L b B cs i] [er : EraseAt L i L'] (ht : Tail L0 L') : Since T L0 L [b] := .any bx.h er.h ht
theorem Since.trow {L0 L : List Res} {v : Value} {e sz i : Nat} {m : List (List A)} [bx : RowAt L0 v e sz m i] (ht : T.contains i = true) : Since T L0 L (vfoot v) := .there bx.h ht
theorem Since.tbox {L0 L : List Res} {b B i : Nat} {cs : List A} [bx : BoxAt L0 b B cs i] (ht : T.contains i = true) : Since T L0 L [b] := .there bx.h ht
theorem Since.keeps {S : List Nat} (hS : Since T L0 L S) {a : Act} {w w0 w' : World} (s : St c f L a w) (kp : Keeps (blk L0 T) w0 w) (ho : ∀ x ∈ foots L, x ∈ foots L0 ∨ w0.heap.size ≤ x) (kp' : Keeps S w w') : Keeps (blk L0 T) w0 w' := by
  refine kp.trans kp' fun x hx => ?_
  cases hS with
  | none => cases hx
  | nil => cases hx
  | first e ht =>
    subst e
    rcases ho x (mem_foots.2 ⟨_, List.mem_cons_self .., hx⟩) with h | h
    · obtain ⟨q, hq, hxq⟩ := mem_foots.1 h
      exact absurd hxq ((List.pairwise_cons.1 s.ap).1 q (ht.mem q hq) x hx)
    · exact .inr h
  | any h1 e ht =>
    rcases ho x (mem_foots.2 ⟨_, List.mem_of_getElem? h1, hx⟩) with h | h
    · obtain ⟨q, hq, hxq⟩ := mem_foots.1 h
      have hm := ht.mem q hq
      rw [← e] at hm
      obtain ⟨j, hj⟩ := List.mem_iff_getElem?.1 hm
      rw [List.getElem?_eraseIdx] at hj
      exfalso
      split at hj
      · exact Apart.ne s.ap h1 hj (by omega) x hx hxq
      · exact Apart.ne s.ap h1 hj (by omega) x hx hxq
    · exact .inr h
  | there h1 ht => exact .inl (mem_blk.2 ⟨_, by simpa using ht, _, h1, hx⟩)
/-- what is shown of number i, when it comes next -/
structure JS (P : Program) (c : Cx) (ops : Array Oper) (m : Option Nat) (T : List Nat) (n : Nat) (listed : Array Bool) (k : List Item) (f : Fm) (L : List Res) (f0 : Fm) (L0 : List Res) (i : Nat) : Prop where
  go : ∀ a w w0, St c f L a w → St c f0 L0 a w0 → Keeps (blk L0 T) w0 w → (∀ x ∈ foots L, x ∈ foots L0 ∨ w0.heap.size ≤ x) →
    wpOp P ops (fun e a' w' => e = .normal ∧ Run P c k a' w') i (fun a' w' => (some i = m ∧ wpAny P .any ops (fun e a' w' => e = .normal ∧ Run P c k a' w') n (listed.setIfInBounds i true) a' w') ∨ (Keeps (blk L0 T) w0 w' ∧ Gx P .any ops (fun e a' w' => e = .normal ∧ Run P c k a' w') (fun w' => Keeps (blk L0 T) w0 w') m n (listed.setIfInBounds i true) a' w')) a w
/-- it makes memory -/
theorem JS.loud {S : List Nat} {i t : Nat} {ι : Type} {g : ι → D} {L' : ι → List Res} (hi : ops[i]? = some o) (hd : o.dst = some t) (hw : Wants ops o f = true) (ht : t < c.N) (q : Ld P c o f L S (fun x => (t, g x) :: f) L') (hS : Since T L0 L S)
    (h : ∀ x, JD P c ops m T n (listed.setIfInBounds i true) k ((t, g x) :: f) (L' x) ((t, stays (g x)) :: f0) L0) : JS P c ops m T n listed k f L f0 L0 i := ⟨fun a w w0 s s0 kp ho => by
  refine wpOp_step hi (fun K hK => ?_)
  rw [Wants.run hw s, if_pos rfl]
  refine q.go a w s K _ fun x v w' kp' sx hf => ?_
  have kp2 := hS.keeps s kp ho kp'
  refine hK _ _ (.inr ⟨kp2, (h x).go _ w' w0 sx ?_ kp2 ?_⟩)
  · rw [hd]
    exact s0.put0 ht (stays.rep (by
      have h1 := sx.fr t (g x) (look_cons_eq _ _ _)
      have h2 := s.size
      rw [hd] at h1
      simpa [Act.put, Array.getD_eq_getD_getElem?, Array.getElem?_setIfInBounds, h2, ht] using h1))
  · intro y hy
    rcases hf y hy with h1 | h1
    · exact ho y h1
    · exact .inr (Nat.le_trans kp.size h1)⟩
/-- it writes, in what may be written -/
theorem JS.st {S : List Nat} {i : Nat} {ι : Type} {L' : ι → List Res} (hi : ops[i]? = some o) (hd : o.dst = none) (hw : Wants ops o f = true) (q : Ld P c o f L S (fun _ => f) L') (hS : Since T L0 L S)
    (h : ∀ x, JD P c ops m T n (listed.setIfInBounds i true) k f (L' x) f0 L0) : JS P c ops m T n listed k f L f0 L0 i := ⟨fun a w w0 s s0 kp ho => by
  refine wpOp_step hi (fun K hK => ?_)
  rw [Wants.run hw s, if_pos rfl]
  refine q.go a w s K _ fun x v w' kp' sx hf => ?_
  have kp2 := hS.keeps s kp ho kp'
  refine hK _ _ (.inr ⟨kp2, (h x).go _ w' w0 sx (by rw [hd]; exact s0) kp2 ?_⟩)
  intro y hy
  rcases hf y hy with h1 | h1
  · exact ho y h1
  · exact .inr (Nat.le_trans kp.size h1)⟩
/-- it looks -/
theorem JS.q {i t : Nat} {d : D} {U : List Nat} (hi : ops[i]? = some o) (hd : o.dst = some t) (hw : Wants ops o f = true) (ht : t < c.N) (q : Qt P c U o f L d)
    (h : JD P c ops m T n (listed.setIfInBounds i true) k ((t, d) :: f) L ((t, stays d) :: f0) L0) : JS P c ops m T n listed k f L f0 L0 i := ⟨fun a w w0 s s0 kp ho => by
  obtain ⟨v, h1, h2⟩ := q.go a w s
  refine wpOp_step hi (fun K hK => ?_)
  rw [Wants.run hw s, if_pos rfl]
  simp only [Oper.wp, h2 w (Later.now _ _ _), Oper.upon]
  exact hK _ _ (.inr ⟨kp, h.go _ w w0 (by rw [hd]; exact s.put0 ht h1) (by rw [hd]; exact s0.put0 ht (stays.rep h1)) kp ho⟩)⟩
/-- the one that writes -/
theorem JS.last {i : Nat} {ι : Type} {f' : ι → Fm} {L' : ι → List Res} {S : List Nat} (hi : ops[i]? = some o) (hw : Wants ops o f = true) (q : Ld P c o f L S f' L') (h : ∀ x, JW P c ops n (listed.setIfInBounds i true) k (f' x) (L' x)) : JS P c ops (some i) T n listed k f L f0 L0 i := ⟨fun a w w0 s s0 kp ho => by
  refine wpOp_step hi (fun K hK => ?_)
  rw [Wants.run hw s, if_pos rfl]
  exact q.go a w s K _ fun x v w' kp' sx hf => hK _ _ (.inl ⟨rfl, (h x).go _ w' sx⟩)⟩
/-- these may come: each is shown -/
theorem JD.each1 {i : Nat} (hr : Region.ready .any ops listed = [i]) (h : JS P c ops m T n listed k f L f0 L0 i) : JD P c ops m T (n + 1) listed k f L f0 L0 := ⟨fun a w w0 s s0 kp ho => by
  refine ⟨fun h0 => (by rw [hr] at h0; cases h0), fun j hj => ?_⟩
  rw [hr] at hj
  simp at hj
  subst hj
  exact h.go a w w0 s s0 kp ho⟩
theorem JD.each2 {i j : Nat} (hr : Region.ready .any ops listed = [i, j]) (h1 : JS P c ops m T n listed k f L f0 L0 i) (h2 : JS P c ops m T n listed k f L f0 L0 j) : JD P c ops m T (n + 1) listed k f L f0 L0 := ⟨fun a w w0 s s0 kp ho => by
  refine ⟨fun h0 => (by rw [hr] at h0; cases h0), fun j hj => ?_⟩
  rw [hr] at hj
  simp at hj
  rcases hj with rfl | rfl
  · exact h1.go a w w0 s s0 kp ho
  · exact h2.go a w w0 s s0 kp ho⟩
theorem JD.each3 {i j q : Nat} (hr : Region.ready .any ops listed = [i, j, q]) (h1 : JS P c ops m T n listed k f L f0 L0 i) (h2 : JS P c ops m T n listed k f L f0 L0 j) (h3 : JS P c ops m T n listed k f L f0 L0 q) : JD P c ops m T (n + 1) listed k f L f0 L0 := ⟨fun a w w0 s s0 kp ho => by
  refine ⟨fun h0 => (by rw [hr] at h0; cases h0), fun j hj => ?_⟩
  rw [hr] at hj
  simp at hj
  rcases hj with rfl | rfl | rfl
  · exact h1.go a w w0 s s0 kp ho
  · exact h2.go a w w0 s s0 kp ho
  · exact h3.go a w w0 s s0 kp ho⟩
/-- number i alone may come, and makes memory -/
theorem JD.one (i : Nat) {S : List Nat} {t : Nat} {ι : Type} {g : ι → D} {L' : ι → List Res} (hi : ops[i]? = some o) (hd : o.dst = some t) (hr : Region.ready .any ops listed = [i]) (hw : Wants ops o f = true) (ht : t < c.N) (q : Ld P c o f L S (fun x => (t, g x) :: f) L') (hS : Since T L0 L S)
    (h : ∀ x, JD P c ops m T n (listed.setIfInBounds i true) k ((t, g x) :: f) (L' x) ((t, stays (g x)) :: f0) L0) : JD P c ops m T (n + 1) listed k f L f0 L0 := JD.each1 hr (JS.loud hi hd hw ht q hS h)
/-- the one that writes -/
theorem JD.last (i : Nat) {ι : Type} {f' : ι → Fm} {L' : ι → List Res} {S : List Nat} (hi : ops[i]? = some o) (hr : Region.ready .any ops listed = [i]) (hw : Wants ops o f = true) (q : Ld P c o f L S f' L') (h : ∀ x, JW P c ops n (listed.setIfInBounds i true) k (f' x) (L' x)) : JD P c ops (some i) T (n + 1) listed k f L f0 L0 := JD.each1 hr (JS.last hi hw q h)
/-- number i alone may come, and writes in what may be written -/
theorem JD.st (i : Nat) {S : List Nat} {ι : Type} {L' : ι → List Res} (hi : ops[i]? = some o) (hd : o.dst = none) (hr : Region.ready .any ops listed = [i]) (hw : Wants ops o f = true) (q : Ld P c o f L S (fun _ => f) L') (hS : Since T L0 L S)
    (h : ∀ x, JD P c ops m T n (listed.setIfInBounds i true) k f (L' x) f0 L0) : JD P c ops m T (n + 1) listed k f L f0 L0 := JD.each1 hr (JS.st hi hd hw q hS h)
/-- number i alone may come, and looks at what lies there now -/
theorem JD.see (i : Nat) {t : Nat} {d : D} {U : List Nat} (hi : ops[i]? = some o) (hd : o.dst = some t) (hr : Region.ready .any ops listed = [i]) (hw : Wants ops o f = true) (ht : t < c.N) (q : Qt P c U o f L d)
    (h : JD P c ops m T n (listed.setIfInBounds i true) k ((t, d) :: f) L ((t, stays d) :: f0) L0) : JD P c ops m T (n + 1) listed k f L f0 L0 := JD.each1 hr (JS.q hi hd hw ht q h)
/-- all have come -/
theorem JD.done (hl : Region.ready .any ops listed = []) (h : J P c k f L) : JD P c ops m T n listed k f L f0 L0 := ⟨fun a w w0 s s0 kp ho => by
  have hq := h.go _ w s
  cases n with
  | zero => exact ⟨hl, rfl, hq⟩
  | succ n => exact ⟨fun _ => ⟨rfl, hq⟩, fun k hk => by rw [hl] at hk; cases hk⟩⟩
/-- two may come, and make memory -/
theorem JD.two (i j : Nat) {S S' : List Nat} {o' : Oper} {t t' : Nat} {ι ι' : Type} {g : ι → D} {L' : ι → List Res} {g' : ι' → D} {L'' : ι' → List Res} (hr : Region.ready .any ops listed = [i, j]) (hi : ops[i]? = some o) (hd : o.dst = some t) (hw : Wants ops o f = true) (ht : t < c.N) (q : Ld P c o f L S (fun x => (t, g x) :: f) L') (hS : Since T L0 L S)
    (hi' : ops[j]? = some o') (hd' : o'.dst = some t') (hw' : Wants ops o' f = true) (ht' : t' < c.N) (q' : Ld P c o' f L S' (fun x => (t', g' x) :: f) L'') (hS' : Since T L0 L S')
    (h : ∀ x, JD P c ops m T n (listed.setIfInBounds i true) k ((t, g x) :: f) (L' x) ((t, stays (g x)) :: f0) L0) (h' : ∀ x, JD P c ops m T n (listed.setIfInBounds j true) k ((t', g' x) :: f) (L'' x) ((t', stays (g' x)) :: f0) L0) : JD P c ops m T (n + 1) listed k f L f0 L0 :=
  JD.each2 hr (JS.loud hi hd hw ht q hS h) (JS.loud hi' hd' hw' ht' q' hS' h')
end
end Fl
end Go.Proofs.YtgjpdogjekmemaaDoor
