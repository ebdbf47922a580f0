/-
  Texts FlB Fsb Opn of this claim, put together: what they show stands at their heads.
  Conditions: none but those that each theorem states.
-/
import Derived.Test.YtbjnbngpjdoejaaDoorQ7
import Derived.Laws.CopyRow
import Derived.Laws.OwnMore
import Derived.OwnWalk
/- Flk -/
namespace Go.Proofs.YtbjnbngpjdoejaaDoor
open Go.RowKit
set_option linter.unusedVariables false
set_option linter.unusedSimpArgs false
set_option linter.unnecessarySimpa false

namespace Fl
theorem RX.take {ok : Nat → Prop} {w : World} {sz : Nat} : ∀ (n : Nat) {l : List (List A)} {xs : List Value}, RX ok w sz l xs → RX ok w sz (l.take n) (xs.take (n * sz))
  | 0, l, xs, h => by simp [RX]
  | n + 1, [], xs, h => by unfold RX at h; subst h; simp [RX]
  | n + 1, cs :: l, xs, h => by
    obtain ⟨vs, ys, rfl, h2, h3, h4⟩ := h
    have e1 : (vs ++ ys).take ((n + 1) * sz) = vs ++ ys.take (n * sz) := by
      rw [List.take_append, List.take_of_length_le (by rw [h2, Nat.add_mul]; omega), h2]
      congr 2; rw [Nat.add_mul]; omega
    rw [e1]
    exact ⟨vs, _, rfl, h2, h3, RX.take n h4⟩
theorem RX.drop {ok : Nat → Prop} {w : World} {sz : Nat} : ∀ (n : Nat) {l : List (List A)} {xs : List Value}, RX ok w sz l xs → RX ok w sz (l.drop n) (xs.drop (n * sz))
  | 0, l, xs, h => by simpa using h
  | n + 1, [], xs, h => by unfold RX at h; subst h; simp [RX]
  | n + 1, cs :: l, xs, h => by
    obtain ⟨vs, ys, rfl, h2, h3, h4⟩ := h
    have e1 : (vs ++ ys).drop ((n + 1) * sz) = ys.drop (n * sz) := by
      rw [List.drop_append, List.drop_of_length_le (by rw [h2, Nat.add_mul]; omega), h2]
      simp only [List.nil_append]
      congr 1; rw [Nat.add_mul]; omega
    rw [e1]
    exact RX.drop n h4
section
variable {P : Program} {c : Cx} {k : List Item} {f : Fm} {L : List Res} {ops : Array Oper} {T X : TypeId} {ps : String} {af : Array Edge} {gd : Option (Nat × Bool)} {t : Nat}
theorem cutO {x : Operand} {lo hi : Option Operand} {e sz j : Nat} {v : Value} {l l' : List (List A)} {L' : List Res} {m n : Int} [i : TyS P X e sz] [bx : RowAt L v e sz l j] [er : EraseAt L j L'] (ht : t < c.N) (h : evD f x = some (.c (.v v))) (hlo : bnd f lo 0 = some m) (hhi : bnd f hi l.length = some n) (h1 : 0 ≤ m) (h2 : m ≤ n) (h3 : n ≤ l.length) (hl : (l.take n.toNat).drop m.toNat = l') :
    Ld P c ⟨some t, .slice X x lo hi none, T, ps, af, gd⟩ f L (vfoot v) (fun v' : Value => (t, .c (.v v')) :: f) (fun v' => .row v' e sz l' :: L') := Ld.perm (erase_perm bx.h er.h) ⟨fun a w s K Q hK => by
  subst hl
  have rx := s.val h
  obtain ⟨xs, r1, r2⟩ := s.res _ (List.mem_cons_self ..)
  have ap := List.pairwise_cons.1 s.ap
  obtain ⟨h0, ao, cap, hx, g1, g2, g3⟩ := r1
  have hn : n.toNat ≤ l.length := by omega
  have hlow : ∀ w, (match lo.map a.eval with | some v => Instr.sliceBound v n.toNat .sliceB | none => pure 0 : Sem Nat).run P w = .ok m.toNat w := fun w => by
    rcases bnd.run s hlo with ⟨rfl, rfl⟩ | ⟨y, kd, rfl, hy⟩
    · simp
    · simp only [Option.map_some, hy, Instr.sliceBound, asIntOf, Sem.run_bind, Sem.run_pure, Result.andThen_ok]
      rw [if_pos ⟨h1, by omega⟩]; rfl
  have hhigh : ∀ w, (match hi.map a.eval, (none : Option Value) with | some v, some _ => Instr.sliceBound v cap .slice3B | some v, none => Instr.sliceBound v cap (if true then .sliceAcap else .sliceAlen) | none, none => pure l.length | none, some _ => stuck "Slice: max without high" : Sem Nat).run P w = .ok n.toNat w := fun w => by
    rcases bnd.run s hhi with ⟨rfl, rfl⟩ | ⟨y, kd, rfl, hy⟩
    · simp
    · simp only [Option.map_some, hy, Instr.sliceBound, asIntOf, Sem.run_bind, Sem.run_pure, Result.andThen_ok]
      rw [if_pos ⟨by omega, by omega⟩]; rfl
  have hsb : ∀ w, (Instr.sliceBounds true l.length cap (lo.map a.eval) (hi.map a.eval) none).run P w = .ok (m.toNat, n.toNat, cap) w := fun w => by
    unfold Instr.sliceBounds
    simp only [Sem.run_bind, Sem.run_pure, Result.andThen_ok, Option.isSome_none, Bool.false_eq_true, ↓reduceIte]
    have a1 := hhigh w
    have a2 := hlow w
    cases hhi' : hi.map a.eval <;> cases hlo' : lo.map a.eval <;> rw [hhi'] at a1 <;> rw [hlo'] at a2 <;> simp only [↓reduceIte, Sem.run_pure, Result.ok.injEq, and_true] at a1 a2 <;> simp [Sem.run_bind, a1, a2]
  have hrun : (execOp a.eval ⟨some t, .slice X x lo hi none, T, ps, af, gd⟩).run P w = .ok (.value (.slice (if cap = m.toNat then ao else ao.map (·.add (m.toNat * sz))) (n.toNat - m.toNat) (cap - m.toNat))) w := by
    simp only [execOp, Option.map_none, Instr.sliceAt, Instr.slice, rx, hx, Sem.run_bind, run_underlying (tyElem.und i.h), Result.andThen_ok, hsb, tySize.run i.s, Sem.run_pure]
  have hlen : ((l.take n.toNat).drop m.toNat).length = n.toNat - m.toNat := by simp [hn]
  have hf : vfoot (.slice (if cap = m.toNat then ao else ao.map (·.add (m.toNat * sz))) (n.toNat - m.toNat) (cap - m.toNat)) = vfoot v := by
    subst hx
    cases ao with
    | none => simp [vfoot]
    | some A => split <;> simp [vfoot, Addr.add] <;> split <;> rfl
  have hR : (Res.row (.slice (if cap = m.toNat then ao else ao.map (·.add (m.toNat * sz))) (n.toNat - m.toNat) (cap - m.toNat)) e sz ((l.take n.toNat).drop m.toNat)).holds (okk c (.row v e sz l :: L')) w := by
    refine ⟨(xs.take (n.toNat * sz)).drop (m.toNat * sz), ?_, (r2.take n.toNat).drop m.toNat⟩
    rw [hf, hlen]
    refine ⟨?_, _, _, rfl, by omega, by omega, ?_⟩
    · have := ((r2.take n.toNat).drop m.toNat).len
      rw [this, hlen]
    · rcases g3 with ⟨rfl, g4, g5, g6⟩ | ⟨g, off, cur, rfl, g5, g6, g7, g8⟩
      · exact .inl ⟨by simp, by omega, by omega, g6⟩
      · by_cases hc : cap = m.toNat
        · refine .inr ⟨g, off, cur, by rw [if_pos hc], g5, g6, by rw [hc]; have : off ≤ off + cap * sz := Nat.le_add_right _ _; simp; omega, fun q hq => ?_⟩
          have hl2 := ((r2.take n.toNat).drop m.toNat).len
          rw [hl2, hlen, show n.toNat - m.toNat = 0 by omega] at hq
          omega
        · refine .inr ⟨g, off + m.toNat * sz, cur, by rw [if_neg hc]; simp [Addr.add_mid], g5, g6, ?_, fun q hq => ?_⟩
          · have e1 : m.toNat * sz + (cap - m.toNat) * sz = cap * sz := by rw [← Nat.add_mul]; congr 1; omega
            omega
          · have hq2 : q < xs.length := by
              have := hq; simp only [List.length_drop, List.length_take] at this; omega
            have hq3 : m.toNat * sz + q < n.toNat * sz := by
              have := hq; simp only [List.length_drop, List.length_take] at this; omega
            have hq4 : m.toNat * sz + q < xs.length := by
              have := hq; simp only [List.length_drop, List.length_take] at this; omega
            rw [List.getElem?_drop, List.getElem?_take, if_pos hq3, ← g8 _ hq4]
            congr 1; omega
  have ho : okk c (.row (.slice (if cap = m.toNat then ao else ao.map (·.add (m.toNat * sz))) (n.toNat - m.toNat) (cap - m.toNat)) e sz ((l.take n.toNat).drop m.toNat) :: L') = okk c (.row v e sz l :: L') := by
    funext x; unfold okk; simp only [foots_cons, Res.foot, hf]
  unfold Oper.wp
  rw [hrun]
  refine hK _ _ w (Keeps.refl _ _) (s.put ht (by unfold RD RA; exact ⟨rfl, rfl⟩) s.kp (fun q hq => ?_) (fun y hy => s.frm y ?_) ?_ (by rw [ho]; exact Mon.refl _ _)) (fun y hy => .inl ?_)
  · rw [ho]
    rcases List.mem_cons.1 hq with rfl | hq
    · exact hR
    · exact s.res q (List.mem_cons_of_mem _ hq)
  · rw [foots_cons, Res.foot, hf] at hy; exact (foots_cons _ _ _).2 hy
  · exact List.pairwise_cons.2 ⟨fun q hq y hy hy' => ap.1 q hq y (by rw [Res.foot, hf] at hy; exact hy) hy', ap.2⟩
  · rw [foots_cons, Res.foot, hf] at hy; exact (foots_cons _ _ _).2 hy⟩
theorem J.join {I : Item} {ι : Type} (f' : ι → Fm) (L' : ι → List Res) (rest : ∀ x, J P c k (f' x) (L' x)) (h : (∀ x, J P c k (f' x) (L' x)) → J P c (I :: k) f L) : J P c (I :: k) f L := h rest
theorem J.frzC (t u n : Nat) {v : Value} {e sz i j b o B : Nat} {ll : List (List A)} {cs : List A} {L1 L2 : List Res} [r : RowAt L v e sz ll i] [bx : BoxAt L b B cs j] [st : SetAt L j (.box b B (cs.set n (.r sz ll))) L1] [er : EraseAt L1 i L2] (h1 : look f t = some (.c (.v v))) (h2 : look f u = some (.c (.v (.pointer (some ⟨b, o, none⟩))))) (hc : cs[n]? = some (.v v)) (h : J P c k f L2) : J P c k f L :=
  J.frzB i j n r.h bx.h hc (by rw [st.h, er.h]; exact h)
theorem J.pullS (t : Nat) {v : Value} {e sz i : Nat} {ll : List (List A)} {L2 : List Res} [r : RowAt L v e sz ll i] [er : EraseAt L i L2] (h1 : look f t = some (.c (.v v))) (h : J P c k f (.row v e sz ll :: L2)) : J P c k f L :=
  J.pull i r.h (by rw [er.h]; exact h)
theorem J.dropN (i : Nat) {L2 : List Res} [er : EraseAt L i L2] (h : J P c k f L2) : J P c k f L := J.drop i (by rw [er.h]; exact h)
end
class WAt (L : List Res) (d : D) (j : outParam Nat) : Prop where h : True
instance WAt.box {L : List Res} {b o B j : Nat} {cs : List A} [BoxAt L b B cs j] : WAt L (.c (.v (.pointer (some ⟨b, o, none⟩)))) j := ⟨trivial⟩
instance WAt.row {L : List Res} {v : Value} {e sz j : Nat} {l : List (List A)} [RowAt L v e sz l j] : WAt L (.c (.v v)) j := ⟨trivial⟩
section
variable {P : Program} {c : Cx} {k : List Item} {f : Fm} {L : List Res} {ops : Array Oper} {n : Nat} {listed : Array Bool}
theorem Gx.mono {S S' : World → Prop} {md : Region.Mode} {Q : Exit → Act → World → Prop} {m : Option Nat} (hS : ∀ w, S' w → S w) : ∀ (n : Nat) (listed : Array Bool) (a : Act) (w : World), Gx P md ops Q S' m n listed a w → Gx P md ops Q S m n listed a w
  | 0, _, _, _, h => h
  | n + 1, _, _, _, h => ⟨h.1, fun i hi => wpOp_mono (fun a' w' h' => h'.elim .inl (fun h' => .inr ⟨hS _ h'.1, Gx.mono hS n _ _ _ h'.2⟩)) (h.2 i hi)⟩
theorem JD.rebase {m : Option Nat} {T : List Nat} {f0 : Fm} {L0 : List Res} (h : JD P c ops m [] n listed k f L f L) : JD P c ops m T n listed k f L f0 L0 := ⟨fun a w w0 s s0 kp ho =>
  Gx.mono (fun w' h' => kp.trans h' (fun x hx => by simp [blk] at hx)) _ _ _ _ (h.go a w w s s (Keeps.refl _ _) (fun x hx => .inl hx))⟩
theorem JW.base1 (m : Option Nat) (x : Operand) {d : D} {j : Nat} (hx : evD f x = some d) [WAt L d j] (h : JD P c ops m [j] n listed k f L f L) : JW P c ops n listed k f L := JW.baseT _ _ h
theorem JW.base2 (m : Option Nat) (x y : Operand) {d d2 : D} {j j2 : Nat} (hx : evD f x = some d) (hy : evD f y = some d2) [WAt L d j] [WAt L d2 j2] (h : JD P c ops m [j, j2] n listed k f L f L) : JW P c ops n listed k f L := JW.baseT _ _ h
theorem JW.base3 (m : Option Nat) (x y z : Operand) {d d2 d3 : D} {j j2 j3 : Nat} (hx : evD f x = some d) (hy : evD f y = some d2) (hz : evD f z = some d3) [WAt L d j] [WAt L d2 j2] [WAt L d3 j3] (h : JD P c ops m [j, j2, j3] n listed k f L f L) : JW P c ops n listed k f L := JW.baseT _ _ h
end
end Fl
end Go.Proofs.YtbjnbngpjdoejaaDoor
/- Flm -/
namespace Go.Proofs.YtbjnbngpjdoejaaDoor
open Go.RowKit
set_option linter.unusedVariables false
set_option linter.unusedSimpArgs false
set_option linter.unnecessarySimpa false

namespace Fl
section
variable {P : Program} {ops : Array Oper} {Q : Exit → Act → World → Prop} {md : Region.Mode} {S : World → Prop}
def reach (md : Region.Mode) (ops : Array Oper) (listed : Array Bool) : Nat → Nat → Nat → Bool
  | 0, m, i => waitsFor md ops m i
  | n + 1, m, i => waitsFor md ops m i || match ops[m]? with
    | none => false
    | some o => o.after.any (fun e => Region.binds md e && !(listed.getD e.on false) && reach md ops listed n e.on i)
theorem waitsFor_not_ready {listed : Array Bool} {m i : Nat} (hr : i ∈ Region.ready md ops listed) (hw : waitsFor md ops m i = true) : m ∉ Region.ready md ops listed := fun hm => by
  obtain ⟨_, oj, hoj, hall⟩ := mem_ready.1 hm
  have hno := not_ready_yet hr hall
  unfold waitsFor at hw
  rw [hoj] at hw
  obtain ⟨x, hx, hp⟩ := Array.any_eq_true'.1 hw
  simp only [Bool.and_eq_true, beq_iff_eq] at hp
  exact hno x hx hp.2 hp.1
theorem reach_not_ready {listed : Array Bool} {i : Nat} (hr : i ∈ Region.ready md ops listed) : ∀ (n m : Nat), reach md ops listed n m i = true → m ∉ Region.ready md ops listed
  | 0, m, h => waitsFor_not_ready hr h
  | n + 1, m, h => fun hm => by
    unfold reach at h
    rw [Bool.or_eq_true] at h
    rcases h with h | h
    · exact waitsFor_not_ready hr h hm
    · obtain ⟨_, oj, hoj, hall⟩ := mem_ready.1 hm
      rw [hoj] at h
      obtain ⟨x, hx, hp⟩ := Array.any_eq_true'.1 h
      simp only [Bool.and_eq_true, Bool.not_eq_true'] at hp
      have := hall x hx hp.1.1
      rw [hp.1.2] at this
      cases this
theorem reach_mono {listed : Array Bool} {i j : Nat} (hr : i ∈ Region.ready md ops listed) (hj : j ∈ Region.ready md ops listed) : ∀ (n m : Nat), reach md ops listed n m i = true → reach md ops (listed.setIfInBounds j true) n m i = true
  | 0, m, h => h
  | n + 1, m, h => by
    unfold reach at h ⊢
    rw [Bool.or_eq_true] at h ⊢
    rcases h with h | h
    · exact .inl h
    · refine .inr ?_
      cases ho : ops[m]? with
      | none => rw [ho] at h; cases h
      | some o =>
        rw [ho] at h
        obtain ⟨x, hx, hp⟩ := Array.any_eq_true'.1 h
        simp only [Bool.and_eq_true, Bool.not_eq_true'] at hp
        have hne : j ≠ x.on := fun e => reach_not_ready hr n x.on hp.2 (e ▸ hj)
        refine Array.any_eq_true'.2 ⟨x, hx, ?_⟩
        simp only [Bool.and_eq_true, Bool.not_eq_true']
        exact ⟨⟨hp.1.1, by rw [getD_set_ne false hne]; exact hp.1.2⟩, reach_mono hr hj n x.on hp.2⟩
def waitsT (md : Region.Mode) (ops : Array Oper) (m : Option Nat) (listed : Array Bool) (i : Nat) : Bool := match m with
  | none => true
  | some j => reach md ops listed ops.size j i
theorem Gx.firstT {m : Option Nat} {i : Nat} {oi : Oper} {v : Value} (hi : ops[i]? = some oi) (hsel : ∀ (j : Nat) (o : Oper) cs b, ops[j]? = some o → o.op ≠ .select cs b) (hQ : ∀ c a w, Q (.panic c) (a.put oi.dst v) w → Q (.panic c) a w) :
    ∀ (n : Nat) (listed : Array Bool) (a : Act) (w : World), waitsT md ops m listed i = true → (∀ (j : Nat) oj, ops[j]? = some oj → j ≠ i → listed.getD j true = false → (∀ e ∈ oj.after, Region.binds md e = true → e.on ≠ i) → oi.apart ops oj = true) →
      i ∈ Region.ready md ops listed → YieldsIf P ops S oi v a → S w → Gx P md ops Q S m n (listed.setIfInBounds i true) (a.put oi.dst v) w → Gx P md ops Q S m (n + 1) listed a w
  | n, listed, a, w, hm, hfree, hr, hy, hS, H => by
    refine ⟨fun h => (by rw [h] at hr; cases hr), fun j hj => ?_⟩
    by_cases hji : j = i
    · subst hji; exact hy.wpOp hi hS (.inr ⟨hS, H⟩)
    · cases n with
      | zero =>
        have := ready_mono hj hji
        rw [H.1] at this
        cases this
      | succ n =>
        obtain ⟨hjun, oj, hoj, hall⟩ := mem_ready.1 hj
        have hno := not_ready_yet hr hall
        have hjm : some j ≠ m := fun e => by
          subst e
          exact reach_not_ready hr _ _ hm hj
        have hm2 : waitsT md ops m (listed.setIfInBounds j true) i = true := by
          cases m with
          | none => rfl
          | some q => exact reach_mono hr hj _ _ hm
        have h2 := wpOp_putIf hoj (hfree j oj hoj hji hjun hno) (fun cs b => hsel i oi cs b hi) (fun cs b => hsel j oj cs b hoj) hQ hy (H.2 j (ready_mono hj hji))
        have hr2 : i ∈ Region.ready md ops (listed.setIfInBounds j true) := ready_mono hr (Ne.symm hji)
        refine wpOp_mono (fun a' w' h3 => ?_) h2
        have hcomm := Array.setIfInBounds_comm (xs := listed) true true hji
        obtain ⟨h4, h5⟩ : S w' ∧ _ := h3.2.resolve_left (fun h => hjm h.1)
        exact .inr ⟨h4, Gx.firstT hi hsel hQ n (listed.setIfInBounds j true) a' w' hm2 (fun k ok hk hki hun hno => by
          refine hfree k ok hk hki ?_ hno
          by_cases hjk : j = k
          · subst hjk; exact hjun
          · rw [getD_set_ne true hjk] at hun; exact hun) hr2 h3.1 h4 (by rw [hcomm]; exact h5)⟩
end
def okTakeT (md : Region.Mode) (ops : Array Oper) (m : Option Nat) (listed : Array Bool) (i : Nat) : Bool :=
  Region.noSelect ops && Region.free md ops listed i && (Region.ready md ops listed).contains i && waitsT md ops m listed i
section
variable {P : Program} {c : Cx} {k : List Item} {f f0 : Fm} {L L0 : List Res} {ops : Array Oper} {n : Nat} {listed : Array Bool} {m : Option Nat} {T : List Nat} {o : Oper}
theorem JD.takeT (i : Nat) {t : Nat} {d : D} {U : List Nat} (hi : ops[i]? = some o) (hd : o.dst = some t) (hk : okTakeT .any ops m listed i = true) (hw : Wants ops o f0 = true) (ht : t < c.N) (q : Qt P c U o f0 L0 d) (hu : (U.all fun j => !T.contains j) = true) (h : JD P c ops m T n (listed.setIfInBounds i true) k ((t, d) :: f) L ((t, d) :: f0) L0) : JD P c ops m T (n + 1) listed k f L f0 L0 := ⟨fun a w w0 s s0 kp ho => by
  obtain ⟨v, h1, h2⟩ := q.go a w0 s0
  unfold okTakeT at hk
  simp only [Bool.and_eq_true] at hk
  obtain ⟨⟨⟨k1, k2⟩, k3⟩, k4⟩ := hk
  have m1 : Mon (okk c L0) (okk c L) w0 w := Mon.of_keeps kp fun g hg hg' => ⟨⟨hg'.1, fun hx => by rcases ho g hx with h | h; exact hg'.2 h; omega⟩, fun hm => hg'.2 (blk_foots hm)⟩
  have hlat : ∀ w', Keeps (blk L0 T) w0 w' → Later L0 U w0 w' := fun w' hw' => ⟨_, hw', fun x hx => blk_foots hx, fun x hx j hj r hr hxr => by
    obtain ⟨i, hi, r2, hr2, hx2⟩ := mem_blk.1 hx
    have hij : j ≠ i := fun e => by
      subst e
      have := List.all_eq_true.1 hu j hj
      simp [hi] at this
    exact Apart.ne s0.ap hr hr2 hij x hxr hx2⟩
  refine Gx.firstT hi (Region.noSelect_spec k1) (fun c a w h => by cases h.1) n listed a w k4 (Region.free_spec hi k2) (by simpa using k3) (v := v) (.inl ⟨Wants.run hw s0, fun w' hw' => h2 w' (hlat w' hw')⟩) kp ?_
  have := h.go (a.put o.dst v) w w0 (by rw [hd]; exact s.put0 ht (RD.mon m1 _ _ h1)) (by rw [hd]; exact s0.put0 ht h1) kp ho
  exact this⟩
theorem JD.skipT (i : Nat) {t : Nat} (hi : ops[i]? = some o) (hd : o.dst = some t) (hk : okTakeT .any ops m listed i = true) (hw : Wants0 ops o f0 = true) (ht : t < c.N) (h : JD P c ops m T n (listed.setIfInBounds i true) k ((t, .tup []) :: f) L ((t, .tup []) :: f0) L0) : JD P c ops m T (n + 1) listed k f L f0 L0 := ⟨fun a w w0 s s0 kp ho => by
  unfold okTakeT at hk
  simp only [Bool.and_eq_true] at hk
  obtain ⟨⟨⟨k1, k2⟩, k3⟩, k4⟩ := hk
  refine Gx.firstT hi (Region.noSelect_spec k1) (fun c a w h => by cases h.1) n listed a w k4 (Region.free_spec hi k2) (by simpa using k3) (v := undef) (.inr ⟨Wants0.run hw s0, rfl⟩) kp ?_
  have := h.go (a.put o.dst undef) w w0 (by rw [hd]; exact s.undef ht) (by rw [hd]; exact s0.undef ht) kp ho
  exact this⟩
end
end Fl
end Go.Proofs.YtbjnbngpjdoejaaDoor
/- Flp -/
namespace Go.Proofs.YtbjnbngpjdoejaaDoor
open Go.RowKit
set_option linter.unusedVariables false
set_option linter.unusedSimpArgs false
set_option linter.unnecessarySimpa false
namespace Fl
section
variable {P : Program} {c : Cx} {k : List Item} {f : Fm} {L : List Res} {ops : Array Oper} {n : Nat} {listed : Array Bool} {o : Oper}
structure JT (P : Program) (c : Cx) (ops : Array Oper) (n : Nat) (listed : Array Bool) (k : List Item) (f : Fm) (L : List Res) (i : Nat) : Prop where
  go : ∀ a w, St c f L a w → wpOp P ops (fun e a' w' => e = .normal ∧ Run P c k a' w') i (fun a' w' => wpAny P .any ops (fun e a' w' => e = .normal ∧ Run P c k a' w') n (listed.setIfInBounds i true) a' w') a w
theorem JT.q {i t : Nat} {d : D} {U : List Nat} (hi : ops[i]? = some o) (hd : o.dst = some t) (hw : Wants ops o f = true) (ht : t < c.N) (q : Qt P c U o f L d) (h : JW P c ops n (listed.setIfInBounds i true) k ((t, d) :: f) L) : JT P c ops n listed k f L i := ⟨fun a w s => by
  obtain ⟨v, h1, h2⟩ := q.go a w s
  refine wpOp_step hi (fun K hK => ?_)
  rw [Wants.run hw s, if_pos rfl]
  simp only [Oper.wp, h2 w (Later.now _ _ _), Oper.upon]
  exact hK _ _ (h.go _ w (by rw [hd]; exact s.put0 ht h1))⟩
theorem JT.no {i t : Nat} (hi : ops[i]? = some o) (hd : o.dst = some t) (hw : Wants0 ops o f = true) (ht : t < c.N) (h : JW P c ops n (listed.setIfInBounds i true) k ((t, .tup []) :: f) L) : JT P c ops n listed k f L i := ⟨fun a w s => by
  refine wpOp_step hi (fun K hK => ?_)
  rw [Wants0.run hw s, if_neg (by decide)]
  exact hK _ _ (h.go _ w (by rw [hd]; exact s.undef ht))⟩
theorem JT.ld {i : Nat} {ι : Type} {f' : ι → Fm} {L' : ι → List Res} {S : List Nat} (hi : ops[i]? = some o) (hw : Wants ops o f = true) (q : Ld P c o f L S f' L') (h : ∀ x, JW P c ops n (listed.setIfInBounds i true) k (f' x) (L' x)) : JT P c ops n listed k f L i := ⟨fun a w s => by
  refine wpOp_step hi (fun K hK => ?_)
  rw [Wants.run hw s, if_pos rfl]
  exact q.go a w s K _ fun x v w' kp' sx hf => hK _ _ ((h x).go _ w' sx)⟩
theorem JW.each1 {i : Nat} (hr : Region.ready .any ops listed = [i]) (h : JT P c ops n listed k f L i) : JW P c ops (n + 1) listed k f L := ⟨fun a w s => by
  refine ⟨fun h0 => (by rw [hr] at h0; cases h0), fun j hj => ?_⟩
  rw [hr] at hj
  simp at hj
  subst hj
  exact h.go a w s⟩
theorem JW.each2 {i j : Nat} (hr : Region.ready .any ops listed = [i, j]) (h1 : JT P c ops n listed k f L i) (h2 : JT P c ops n listed k f L j) : JW P c ops (n + 1) listed k f L := ⟨fun a w s => by
  refine ⟨fun h0 => (by rw [hr] at h0; cases h0), fun j hj => ?_⟩
  rw [hr] at hj
  simp at hj
  rcases hj with rfl | rfl
  · exact h1.go a w s
  · exact h2.go a w s⟩
theorem JW.each3 {i j q : Nat} (hr : Region.ready .any ops listed = [i, j, q]) (h1 : JT P c ops n listed k f L i) (h2 : JT P c ops n listed k f L j) (h3 : JT P c ops n listed k f L q) : JW P c ops (n + 1) listed k f L := ⟨fun a w s => by
  refine ⟨fun h0 => (by rw [hr] at h0; cases h0), fun j hj => ?_⟩
  rw [hr] at hj
  simp at hj
  rcases hj with rfl | rfl | rfl
  · exact h1.go a w s
  · exact h2.go a w s
  · exact h3.go a w s⟩
variable {T : TypeId} {ps : String} {af : Array Edge} {gd : Option (Nat × Bool)} {t : Nat}
theorem Ld.callF {F : FuncId} {args : List Operand} {tys : Array TypeId} {ds0 ds : List D} {ι : Type} {dd : ι → D} {M : ι → List Res} {Ll : List Res} (Lr : List Res) (L' : ι → List Res) [i : TyC P F] (hC : Con P F ds Ll (fun x => (dd x, M x))) (hL : (Ll ++ Lr).Perm L) (hL' : ∀ x, (L' x).Perm (M x ++ Lr)) (ht : t < c.N) (h : evDs f args = some ds0) (hle : LeDs ds0 ds) :
    Ld P c ⟨some t, .call ⟨.value (.func F), args.toArray, tys⟩, T, ps, af, gd⟩ f L (foots Ll) (fun x => (t, dd x) :: f) L' := ⟨fun a w s K Q hK => by
  have h1 := Ld.call (P := P) (c := c) (T := T) (ps := ps) (af := af) (gd := gd) (L := Ll ++ Lr) (f := f) (tys := tys) hC ht h hle (Ll := Ll) (Lr := Lr) rfl
  refine h1.go a w (s.perm hL) K Q fun x v w' kp sx hf => ?_
  refine hK x v w' kp (sx.perm (hL' x)) fun y hy => ?_
  rcases hf y ((foots_perm (hL' x) y).1 hy) with h | h
  · exact .inl ((foots_perm hL y).1 h)
  · exact .inr h⟩
end
end Fl
end Go.Proofs.YtbjnbngpjdoejaaDoor
/- Flo -/
namespace Go.Proofs.YtbjnbngpjdoejaaDoor
open Go.RowKit
set_option linter.unusedVariables false
set_option linter.unusedSimpArgs false
set_option linter.unnecessarySimpa false
namespace Fl
theorem RX.rep {ok : Nat → Prop} {w : World} {zs : List Value} (h : zs.all (·.oneCell') = true) : ∀ n : Nat, RX ok w zs.length (List.replicate n (vs zs)) ((List.replicate n ()).flatMap fun _ => zs)
  | 0 => rfl
  | n + 1 => ⟨zs, (List.replicate n ()).flatMap fun _ => zs, by rw [List.replicate_succ, List.flatMap_cons], rfl, RC.vs h, RX.rep h n⟩
section
variable {P : Program} {c : Cx} {k : List Item} {f : Fm} {L : List Res} {T X : TypeId} {ps : String} {af : Array Edge} {gd : Option (Nat × Bool)} {t : Nat}
theorem Ld.make {e sz bytes : Nat} {z : Value} {zs : List Value} [E : TyE P X e sz bytes z] [Z : TyZ' P e zs] {x y : Operand} {kl kc : IntKind} {N : Int} (n : Nat) (ht : t < c.N) (hx : evD f x = some (.c (.v (.int kl N)))) (hy : evD f y = some (.c (.v (.int kc N)))) (hN : N = (n : Int)) (hb : n * bytes ≤ 281474976710656) :
    Ld P c ⟨some t, .makeSlice X x y, T, ps, af, gd⟩ f L [] (fun b : Nat => (t, .c (.v (.slice (some ⟨b, 0, none⟩) n n))) :: f) (fun b => .row (.slice (some ⟨b, 0, none⟩) n n) e sz (List.replicate n (vs zs)) :: L) := ⟨fun a w s K Q hK => by
  subst hN
  obtain ⟨hu, hinf, hz, hpos, hby⟩ := E.h
  obtain ⟨i, hi, hi1, hi2, hi3⟩ := info_parts hinf
  have hsmall : n ≤ 281474976710656 := Nat.le_trans (Nat.le_mul_of_pos_right _ hby) hb
  have rx := s.val hx
  have ry := s.val hy
  obtain ⟨w', hrun, r1, r2⟩ := run_make_full (P := P) w 0 X e i z sz hu hi hi1 hi2 kl kc n (by rw [hi3, Nat.mul_comm]; exact hb) (by simp only [maxLen]; omega) (Nat.zero_le _)
  have hk : Keeps [] w w' := (Keeps.refl [] w).grown r2 (by simp)
  have hr := (Row.of_own r1).1
  have hzs : z.cells.toList = zs := by
    have h1 := Z.h
    unfold tyZero at h1
    rw [hi] at h1
    simpa [hi1] using h1
  have hl : zs.length = sz := by rw [← hzs]; simpa using hz
  have hrow : (Res.row (.slice (some ⟨w.heap.size, 0, none⟩) n n) e sz (List.replicate n (vs zs))).holds (okk c (.row (.slice (some ⟨w.heap.size, 0, none⟩) n n) e sz (List.replicate n (vs zs)) :: L)) w' := by
    refine ⟨(List.replicate n ()).flatMap fun _ => zs, ?_, ?_⟩
    · rw [List.length_replicate, ← flat_made (f := fun _ => zs) (fun _ => hl) (x0 := ()) hzs hpos n]; exact hr
    · subst hl; exact RX.rep Z.o n
  have hf : ∀ y ∈ (Res.row (.slice (some ⟨w.heap.size, 0, none⟩) n n) e sz (List.replicate n (vs zs))).foot, w.heap.size ≤ y := by simp [Res.foot, vfoot]
  unfold Oper.wp
  simp only [execOp, rx, ry, hrun, Result.andThen, Sem.run_bind]
  exact hK w.heap.size _ _ hk (s.new ht hk hf hrow (by unfold RD RA; exact ⟨rfl, rfl⟩)) (foots_new hf)⟩
theorem Ld.make0 {e sz bytes : Nat} {z : Value} [E : TyE P X e sz bytes z] {x y : Operand} {kl kc : IntKind} {N : Int} (n : Nat) (ht : t < c.N) (hx : evD f x = some (.c (.v (.int kl 0)))) (hy : evD f y = some (.c (.v (.int kc N)))) (hN : N = (n : Int)) (hb : n * bytes ≤ 281474976710656) :
    Ld P c ⟨some t, .makeSlice X x y, T, ps, af, gd⟩ f L [] (fun b : Nat => (t, .c (.v (.slice (some ⟨b, 0, none⟩) 0 n))) :: f) (fun b => .row (.slice (some ⟨b, 0, none⟩) 0 n) e sz [] :: L) := ⟨fun a w s K Q hK => by
  subst hN
  obtain ⟨hu, hinf, hz, hpos, hby⟩ := E.h
  obtain ⟨i, hi, hi1, hi2, hi3⟩ := info_parts hinf
  have hsmall : n ≤ 281474976710656 := Nat.le_trans (Nat.le_mul_of_pos_right _ hby) hb
  have rx := s.val hx
  have ry := s.val hy
  obtain ⟨w', hrun, r1, r2⟩ := run_make_own (P := P) w 0 X e i z sz hu hi hi1 hi2 kl kc n (by rw [hi3, Nat.mul_comm]; exact hb) (by simp only [maxLen]; omega) (Nat.zero_le _)
  have hk : Keeps [] w w' := (Keeps.refl [] w).grown r2 (by simp)
  have hr := (Row.of_own r1).1
  have hrow : (Res.row (.slice (some ⟨w.heap.size, 0, none⟩) 0 n) e sz []).holds (okk c (.row (.slice (some ⟨w.heap.size, 0, none⟩) 0 n) e sz [] :: L)) w' := ⟨[], hr, rfl⟩
  have hf : ∀ y ∈ (Res.row (.slice (some ⟨w.heap.size, 0, none⟩) 0 n) e sz []).foot, w.heap.size ≤ y := by simp [Res.foot, vfoot]
  unfold Oper.wp
  simp only [execOp, rx, ry, hrun, Result.andThen, Sem.run_bind]
  exact hK w.heap.size _ _ hk (s.new ht hk hf hrow (by unfold RD RA; exact ⟨rfl, rfl⟩)) (foots_new hf)⟩
theorem RX.len1 {ok : Nat → Prop} {w : World} {sz : Nat} : ∀ {l : List (List A)} {xs : List Value}, RX ok w sz l xs → xs.length = l.length * sz
  | [], xs, h => by unfold RX at h; simp [h]
  | cs :: l, xs, h => by
    obtain ⟨us, ys, rfl, h2, h3, h4⟩ := h
    have := RX.len1 h4
    simp only [List.length_append, List.length_cons, Nat.add_mul]; omega
theorem Ld.copy {e bytes : Nat} {z : Value} [E : TyE P X e 1 bytes z] {x y : Operand} {v : Value} {l1 l2 : List (List A)} {i : Nat} {L' : List Res} [bx : RowAt L v e 1 l1 i] [st : SetAt L i (.row v e 1 l2) L'] (ht : t < c.N) (hx : evD f x = some (.c (.v v))) (hy : evD f y = some (.c (.r 1 l2))) (hn : l1.length = l2.length) :
    Ld P c ⟨some t, .call ⟨.builtin .copy, #[x, y], #[X, X]⟩, T, ps, af, gd⟩ f L (vfoot v) (fun _ : Unit => (t, .c (.v (.int .i64 l2.length))) :: f) (fun _ => L') := ⟨fun a w s K Q hK => by
  obtain ⟨hu, hinf, hz, hpos, hby⟩ := E.h
  obtain ⟨ti, hi, hi1, hi2, hi3⟩ := info_parts hinf
  have hsz : (P.info? e).map (·.size) = some 1 := by rw [hi]; simp [hi2]
  have rx := s.val hx
  have ry := s.ev hy
  unfold RD at ry
  obtain ⟨ys, S, v1, v2, v3⟩ := ry.view
  obtain ⟨xs, ⟨hl, ao, cap, rfl, hnc, hcm, h4⟩, q2⟩ := s.res _ (List.mem_of_getElem? bx.h)
  obtain ⟨hul, bo, bap, hbv, hub, hum, hu4⟩ := v1
  have hv1 : ∀ u ∈ ys, u.oneCell' = true := v2.one
  have hrun : ∃ w', (execOp a.eval ⟨some t, .call ⟨.builtin .copy, #[x, y], #[X, X]⟩, T, ps, af, gd⟩).run P w = .ok (.value (.int .i64 l2.length)) w' ∧ Keeps (vfoot (.slice ao l1.length cap)) w w' ∧ Row w' (.slice ao l1.length cap) e 1 l1.length ys (vfoot (.slice ao l1.length cap)) := by
    by_cases h0 : l2.length = 0
    · refine ⟨w, ?_, Keeps.refl _ _, ?_⟩
      · have hr := run_copy_none (P := P) w X X T e ao bo l1.length cap l2.length bap hu hsz (by rw [hn, h0]; rfl)
        rw [h0] at hr hbv ⊢
        simp [execOp, resolve, invoke, builtin, rx, hbv, hr, Sem.run_bind, goInt]
      · have e1 : ys = [] := List.eq_nil_of_length_eq_zero (by rw [hul, h0])
        have e2 : xs = [] := List.eq_nil_of_length_eq_zero (by rw [hl, hn, h0])
        rw [e1, ← e2]
        exact ⟨hl, ao, cap, rfl, hnc, hcm, h4⟩
    · rcases h4 with ⟨_, h, _⟩ | ⟨g, off, cur, rfl, hS, hb, hfit, hc⟩
      · omega
      · rcases hu4 with ⟨h, _⟩ | ⟨ug, uoff, rfl, _, hug, huc⟩
        · omega
        · have hr := run_copy_row (P := P) w X X T e g off l1.length cap ⟨ug, uoff, none⟩ l2.length bap cur.toArray e ys hu hsz hb (by rw [hul, hn]; simp) (fun j y hj => by
            rw [Addr.add_lit, huc j (List.getElem?_eq_some_iff.1 hj).1]; exact hj) (by rw [hul, List.size_toArray]; omega) hv1
          refine ⟨_, ?_, (Keeps.refl _ w).setRow (g := g) (.inl (by simp [vfoot])) (cur.toArray.toList.take off ++ ys ++ cur.toArray.toList.drop (off + ys.length)).toArray, ?_⟩
          · simp only [execOp, resolve, invoke, builtin, Sem.run_bind]
            simp [rx, hbv, hr, hul, goInt, Sem.run_bind]
          · refine ⟨by rw [hul, hn], _, _, rfl, hnc, hcm, .inr ⟨g, off, _, rfl, hS, setRow_heap w g cur.toArray _ e _ hb, ?_, ?_⟩⟩
            · simp only [List.length_append, List.length_take, List.length_drop, hul]
              omega
            · intro j hj
              have htl : (cur.take off).length = off := by rw [List.length_take]; omega
              rw [List.append_assoc, List.getElem?_append_right (by rw [htl]; omega), htl, show off + j - off = j by omega, List.getElem?_append_left hj]
  obtain ⟨w', hrun, hk, hrow⟩ := hrun
  unfold Oper.wp
  rw [hrun]
  have m : Mon (okk c L) (okk c L) w w' := Mon.of_keeps hk fun g hg ho => ⟨ho, fun hm => ho.2 (mem_foots.2 ⟨_, List.mem_of_getElem? bx.h, hm⟩)⟩
  have hh : (Res.row (.slice ao l1.length cap) e 1 l2).holds (okk c L) w' := ⟨ys, by rw [← hn]; exact hrow, RX.mon m _ _ v2⟩
  have s2 := s.set bx.h (r' := .row (.slice ao l1.length cap) e 1 l2) rfl hk hh
  rw [st.h] at s2
  refine hK () _ w' hk (s2.put0 ht (by unfold RD RA; exact ⟨rfl, rfl⟩)) fun y hy => ?_
  rw [← st.h] at hy
  exact .inl ((foots_set bx.h (r' := .row (.slice ao l1.length cap) e 1 l2) rfl y).1 hy)⟩
theorem Ld.lit1R {e sz : Nat} {x : Operand} {d : D} {cs : List A} {zs : List Value} [i : TyS P X e sz] [z : TyZ' P e zs] (ht : t < c.N) (h : evD f x = some d) (hc : cellsD d = some cs) (hn : cs.length = sz) (h0 : Nat.ble 1 sz = true) (hs : Nat.ble sz 1000 = true) :
    Ld P c ⟨some t, .buildSlice X 1 #[(0, x)], T, ps, af, gd⟩ f L [] (fun _ : Unit => (t, .c (.r sz [cs])) :: f) (fun _ => L) := ⟨fun a w s K Q hK =>
  (Ld.lit1 (P := P) (c := c) (T := T) (ps := ps) (af := af) (gd := gd) (f := f) (L := L) (e := e) (sz := sz) (zs := zs) (X := X) (t := t) ht h hc hn h0 hs).go a w s K Q fun b u w' k' s' hf => hK () u w' k' s'.freeze fun y hy => hf y ((foots_cons _ _ _).2 (.inr hy))⟩
theorem Ld.lit0R {e sz : Nat} [i : TyS P X e sz] (ht : t < c.N) : Ld P c ⟨some t, .buildSlice X 0 #[], T, ps, af, gd⟩ f L [] (fun _ : Unit => (t, .c (.r sz [])) :: f) (fun _ => L) := ⟨fun a w s K Q hK =>
  (Ld.lit0 (P := P) (c := c) (T := T) (ps := ps) (af := af) (gd := gd) (f := f) (L := L) (e := e) (sz := sz) (X := X) (t := t) ht).go a w s K Q fun b u w' k' s' hf => hK () u w' k' s'.freeze fun y hy => hf y ((foots_cons _ _ _).2 (.inr hy))⟩
theorem Qt.min {x y : Operand} {tys : Array TypeId} {k1 : IntKind} {m n r : Int} (h : evD f x = some (.c (.v (.int k1 m)))) (hy : evD f y = some (.c (.v (.int k1 n)))) (hr : (if n < m then n else m) = r) : Qt P c [] ⟨t, .call ⟨.builtin .min, #[x, y], tys⟩, T, ps, af, gd⟩ f L (.c (.v (.int k1 r))) := ⟨fun a w s => by
  have rx := s.val h
  have ry := s.val hy
  subst hr
  refine ⟨_, by unfold RD RA; exact ⟨rfl, rfl⟩, fun w' k => ?_⟩
  simp only [execOp, resolve, invoke, builtin, Sem.run_bind]
  simp [rx, ry, Builtin.min_, Builtin.min2, Sem.run_bind]⟩
end
end Fl
end Go.Proofs.YtbjnbngpjdoejaaDoor
namespace Go.Proofs.YtbjnbngpjdoejaaDoor
open Go.RowKit
set_option linter.unusedVariables false
set_option linter.unusedSimpArgs false
set_option linter.unnecessarySimpa false
namespace Fl
theorem at_map {α β : Type} {l : List α} {h : α → β} {k : Nat} {a : α} (e : l[k]? = some a) : (l.map h)[k]? = some (h a) := by rw [List.getElem?_map, e]; rfl
theorem J.frzN {P : Program} {c : Cx} {k : List Item} {f : Fm} {L L1 L2 : List Res} (i j n : Nat) {v : Value} {e : TypeId} {sz : Nat} {ll : List (List A)} {b : Nat} {B : TypeId} {cs : List A} [st : SetAt L j (.box b B (cs.set n (.r sz ll))) L1] [er : EraseAt L1 i L2] (hi : L[i]? = some (.row v e sz ll)) (hj : L[j]? = some (.box b B cs)) (hc : cs[n]? = some (.v v)) (h : J P c k f L2) : J P c k f L :=
  J.frzB i j n hi hj hc (by rw [st.h, er.h]; exact h)
def zSt : List A := vs [.int .i64 0, .int .i64 0, .int .i64 0, .slice none 0 0, .slice none 0 0, .slice none 0 0, .slice none 0 0, .slice none 0 0, .int .i64 0, .slice none 0 0, .int .i64 0, .slice none 0 0]
def drs (l : List Int) : A := .r 1 (l.map fun n => [.v (.int .u16 n)])
theorem drs_at {l : List Int} {k : Int} (h0 : 0 ≤ k) (h : k < l.length) : (l.map fun n => [A.v (.int .u16 n)])[k.toNat]? = some [.v (.int .u16 (Sx.atK l k))] := by
  have : k.toNat < l.length := by omega
  refine at_map ?_
  unfold Sx.atK
  rw [List.getElem?_eq_getElem this, List.getD_eq_getElem?_getD, List.getElem?_eq_getElem this]; rfl
theorem atK_mem {l : List Int} {k : Int} (h0 : 0 ≤ k) (h : k < l.length) : Sx.atK l k ∈ l := by
  have : k.toNat < l.length := by omega
  unfold Sx.atK
  rw [List.getD_eq_getElem?_getD, List.getElem?_eq_getElem this]
  exact List.getElem_mem _
theorem gr_wG (s : Sx.St) (g k : Nat) (x : Sx.Gr) (hg : g < s.gs.length) : Sx.gr (Sx.withG s g x) k = if k = g then x else Sx.gr s k := by
  unfold Sx.gr Sx.withG
  rw [List.getD_eq_getElem?_getD, List.getD_eq_getElem?_getD, List.getElem?_set]
  by_cases h : g = k
  · subst h; simp [hg]
  · rw [if_neg h, if_neg (Ne.symm h)]
end Fl
end Go.Proofs.YtbjnbngpjdoejaaDoor
namespace Go.Proofs.YtbjnbngpjdoejaaDoor
open Go.RowKit Go.ChangeShapes Go.WideShapes Go.Deep
set_option linter.unusedVariables false
set_option linter.unusedSimpArgs false
set_option linter.unnecessarySimpa false
namespace Fl
section
variable {α : Type} {E : World → List Value → α → List Nat → Prop} {enc : α → List A}
def Si (enc : α → List A) (E : World → List Value → α → List Nat → Prop) : Prop :=
  ∀ (ok : Nat → Prop) (w : World) (cs : List Value) (a : α) (U : List Nat), E w cs a U → (∀ x ∈ U, ok x) → RC ok w (enc a) cs
theorem Si.rx (h : Si enc E) {ok : Nat → Prop} {w : World} {sz : Nat} {S : List Nat} (hS : ∀ x ∈ S, ok x) : ∀ {l : List α} {xs : List Value}, xs.length = l.length * sz → Parts E sz w xs l S → RX ok w sz (l.map enc) xs
  | [], xs, hl, r => by simp at hl; subst hl; rfl
  | a :: l, xs, hl, r => by
    have hl' : xs.length = l.length * sz + sz := by rw [hl, List.length_cons, Nat.add_mul]; omega
    refine ⟨xs.take sz, xs.drop sz, (List.take_append_drop sz xs).symm, by rw [List.length_take]; omega, ?_, Si.rx h hS (by rw [List.length_drop]; omega) fun k b hk => ?_⟩
    · obtain ⟨U, u1, u2⟩ := r 0 a rfl
      have : chunk xs sz 0 = xs.take sz := by unfold chunk; simp
      rw [this] at u1
      exact h ok w _ a U u1 fun x hx => hS x (u2 x hx)
    · obtain ⟨U, u1, u2⟩ := r (k + 1) b (by simpa using hk)
      have : chunk xs sz (k + 1) = chunk (xs.drop sz) sz k := by
        unfold chunk
        rw [List.drop_drop, show (k + 1) * sz = sz + k * sz by rw [Nat.add_mul]; omega]
      rw [this] at u1
      exact ⟨U, u1, u2⟩
theorem Si.ra (h : Si enc E) {ok : Nat → Prop} {w : World} {sz : Nat} {v : Value} {l : List α} {S : List Nat} (r : GV E sz w v l S) (hS : ∀ x ∈ S, ok x) : RA ok w (.r sz (l.map enc)) v := by
  obtain ⟨xs, T, v1, v2, v3, v4, v5⟩ := r
  exact RA.of_view (ys := xs) (S := T) (by rw [List.length_map]; exact v1) (h.rx hS v1.len v2) fun g hg => hS g (v3 g hg)
theorem Si.row (h : Si enc E) {sz : Nat} : Si (fun l : List α => [A.r sz (l.map enc)]) (rowE E sz) := fun ok w cs l U r hS => by
  obtain ⟨v, rfl, g⟩ := r
  exact RC.cons (h.ra g hS) RC.nil
end
theorem RA.w {ok : Nat → Prop} {w : World} {v : Value} (h : v.oneCell' = true) : RA ok w (.v v) v := by unfold RA; exact ⟨rfl, h⟩
theorem RD.v {ok : Nat → Prop} {w : World} {v : Value} (h : v.oneCell' = true) : RD ok w (.c (.v v)) v := by unfold RD RA; exact ⟨rfl, h⟩
theorem law1 {P : Program} {F : FuncId} {ds : List D} (h : Pure P F ds (.c (bI true))) {w : World} {xs : List Value} (hd : RDs (fun _ => True) w ds xs) : Calls P F xs.toArray w fun e w' => e = .returned (.bool true) ∧ Keeps [] w w' := by
  refine Calls.mono (h.go (fun _ => True) w xs hd (by simp) List.Pairwise.nil (by simp [foots])) ?_
  rintro en w' ⟨i, x, rfl, kp, _, _, _, r⟩
  unfold RD bI RA at r
  exact ⟨by rw [r.1], by simpa [foots] using kp⟩
end Fl
end Go.Proofs.YtbjnbngpjdoejaaDoor
