/-
  Struct values made of parts, parts of struct values, slices of slices.
  Conditions: none; nothing of the program stands here.
-/
import Derived.Test.YtgjpdogjekmemaaDoorFli
namespace Go.Proofs.YtgjpdogjekmemaaDoor
open Go.RowKit
set_option linter.unusedVariables false
set_option linter.unusedSimpArgs false
set_option linter.unnecessarySimpa false

namespace Fl
/-- where a struct's fields lie: offset, cells -/
def tyPlaces (P : Program) (T : TypeId) : Option (List (Nat × Nat)) := match P.underlying T with
  | some (.struct fs) => fs.toList.mapM fun f => (P.info? f.type).map fun i => (f.offset, i.size)
  | _ => none
class TyP (P : Program) (T : TypeId) (pl : outParam (List (Nat × Nat))) : Prop where h : tyPlaces P T = some pl
def fillA (pl : List (Nat × Nat)) : List A → List (Nat × List A) → Option (List A)
  | cs, [] => some cs
  | cs, (i, es) :: r => match pl[i]? with
    | none => none
    | some (off, size) => cond (Nat.beq es.length size && Nat.ble (off + es.length) cs.length) (fillA pl (putC cs off es) r) none
/-- the same, field by field -/
def fillB : List (Nat × Nat) → Nat → List (Nat × List A) → List A → List A
  | [], _, _, _ => []
  | (_, n) :: pl, k, [], zs => zs.take n ++ fillB pl (k + 1) [] (zs.drop n)
  | (_, n) :: pl, k, (i, es) :: r, zs => cond (Nat.beq i k) (es ++ fillB pl (k + 1) r (zs.drop n)) (zs.take n ++ fillB pl (k + 1) ((i, es) :: r) (zs.drop n))
theorem foldl_put (l : List Value) : ∀ (k : Nat) (z : Array Value), k + l.length ≤ z.size → ∀ off, off ≤ k → (l.zipIdx (k - off)).foldl (fun cs x => cs.setIfInBounds (off + x.2) x.1) z = (z.toList.take k ++ l ++ z.toList.drop (k + l.length)).toArray := by
  induction l with
  | nil => intro k z hz off ho; simp
  | cons x l ih =>
    intro k z hz off ho
    simp only [List.length_cons] at hz
    rw [List.zipIdx_cons, List.foldl_cons]
    have := ih (k + 1) (z.setIfInBounds (off + (k - off)) x) (by simp; omega) off (by omega)
    rw [show k + 1 - off = k - off + 1 by omega] at this
    rw [this]
    simp only [show off + (k - off) = k by omega]
    apply congrArg
    simp only [Array.toList_setIfInBounds, List.length_cons]
    rw [List.take_add_one, List.take_set, List.getElem?_set_self (by simp; omega)]
    rw [List.set_eq_of_length_le (by simp; omega), List.drop_set, if_pos (by omega)]
    simp only [Option.toList_some, List.append_assoc, List.singleton_append, List.cons_append, List.nil_append]
    rw [show k + (l.length + 1) = k + 1 + l.length by omega]
theorem fillA.run {ok : Nat → Prop} {w : World} {pl : List (Nat × Nat)} : ∀ (ps : List (Nat × List A)) (xs : List (Nat × Value)) (cs cs' : List A) (us : Array Value), fillA pl cs ps = some cs' → RC ok w cs us.toList → xs.map (·.1) = ps.map (·.1) → (∀ (j : Nat) (p : Nat × List A) (x : Nat × Value), ps[j]? = some p → xs[j]? = some x → RC ok w p.2 x.2.cells.toList) →
    ∃ us', Instr.fill (pl.toArray[·]?) us xs = some us' ∧ RC ok w cs' us'.toList
  | [], xs, cs, cs', us, h, hr, hm, hx => by
    have : xs = [] := by simpa using hm
    subst this
    simp [fillA] at h; subst h
    exact ⟨us, rfl, hr⟩
  | (i, es) :: ps, [], cs, cs', us, h, hr, hm, hx => by simp at hm
  | (i, es) :: ps, (i', x) :: xs, cs, cs', us, h, hr, hm, hx => by
    simp only [List.map_cons, List.cons.injEq] at hm
    obtain ⟨rfl, hm⟩ := hm
    have hxc := hx 0 _ _ rfl rfl
    simp only at hxc
    unfold fillA at h
    cases hp : pl[i']? with
    | none => rw [hp] at h; cases h
    | some q =>
      obtain ⟨off, size⟩ := q
      rw [hp] at h
      simp only at h
      cases hc : (Nat.beq es.length size && Nat.ble (off + es.length) cs.length) with
      | false => rw [hc] at h; cases h
      | true =>
        rw [hc] at h
        simp only [Bool.and_eq_true] at hc
        have h1 := Nat.eq_of_beq_eq_true hc.1
        have h2 := Nat.le_of_ble_eq_true hc.2
        have hl1 := hxc.len
        have hl2 := hr.len
        simp only [Array.length_toList] at hl1 hl2
        have hf := foldl_put x.cells.toList off us (by simp; omega) off (Nat.le_refl _)
        rw [Nat.sub_self] at hf
        have hr2 : RC ok w (putC cs off es) (us.toList.take off ++ x.cells.toList ++ us.toList.drop (off + x.cells.toList.length)) := by
          unfold putC
          have : es.length = x.cells.toList.length := by simp; omega
          rw [this]
          exact RC.app (RC.app (hr.take off) hxc) (hr.drop _)
        obtain ⟨us', g1, g2⟩ := fillA.run ps xs _ cs' ((us.toList.take off ++ x.cells.toList ++ us.toList.drop (off + x.cells.toList.length)).toArray) h (by simpa using hr2) hm (fun j p x hp hx' => hx (j + 1) p x (by simpa using hp) (by simpa using hx'))
        refine ⟨us', ?_, g2⟩
        have hp' : pl.toArray[i']? = some (off, size) := by simpa using hp
        unfold Instr.fill
        rw [hp']
        simp only
        rw [if_neg (by simp; omega)]
        rw [← g1]
        congr 1
        rw [← Array.foldl_toList, Array.toList_zipIdx]
        exact hf
section
variable {P : Program}
theorem tyPlaces.run {T : Nat} {pl : List (Nat × Nat)} (h : tyPlaces P T = some pl) : ∃ fs, P.underlying T = some (.struct fs) ∧ ∀ w, (fs.mapM fun f => do pure (f.offset, ← sizeOf f.type) : Sem (Array (Nat × Nat))).run P w = .ok pl.toArray w := by
  unfold tyPlaces at h
  cases hu : P.underlying T with
  | none => rw [hu] at h; cases h
  | some d =>
    rw [hu] at h
    cases d with
    | struct fs =>
      simp only at h
      refine ⟨fs, rfl, fun w => ?_⟩
      have key : ∀ (l : List Field) (pl : List (Nat × Nat)), (l.mapM fun f => (P.info? f.type).map fun i => (f.offset, i.size)) = some pl → (l.mapM fun f => do pure (f.offset, ← sizeOf f.type) : Sem (List (Nat × Nat))).run P w = .ok pl w := by
        intro l
        induction l with
        | nil => intro pl h; simp at h; subst h; simp
        | cons f l ih =>
          intro pl h
          rw [List.mapM_cons] at h
          cases hi : P.info? f.type with
          | none => rw [hi] at h; cases h
          | some i =>
            rw [hi] at h
            simp only [Option.map_some, Option.bind_eq_bind, Option.bind_some] at h
            cases hm : (l.mapM fun f => (P.info? f.type).map fun i => (f.offset, i.size)) with
            | none => rw [hm] at h; cases h
            | some q =>
              rw [hm] at h
              simp at h; subst h
              have h5 := ih q hm
              have h6 : (sizeOf f.type).run P w = .ok i.size w := by simp [sizeOf, typeInfo, Sem.run_bind, hi]
              rw [List.mapM_cons, Sem.run_bind, Sem.run_bind, h6]
              simp only [Result.andThen_ok, Sem.run_pure, Sem.run_bind, h5]
      have h2 := key fs.toList pl h
      have e : (fs.mapM fun f => do pure (f.offset, ← sizeOf f.type) : Sem (Array (Nat × Nat))) = (do let l ← (fs.toList.mapM fun f => do pure (f.offset, ← sizeOf f.type)); pure l.toArray) := by
        rw [Array.mapM_eq_mapM_toList, map_eq_pure_bind]
      rw [e, Sem.run_bind, h2]
      rfl
    | _ => cases h
end
def fieldV (P : Program) (X k : Nat) : Bool := match P.underlying X with
    | some (.struct fs) => match fs[k]? with
      | some fd => tyAgg P fd.type == some false
      | none => false
    | _ => false
theorem mapM_get {α β : Type} {g : α → Option β} : ∀ {l : List α} {q : List β}, l.mapM g = some q → ∀ {k : Nat} {a : α}, l[k]? = some a → ∃ b, q[k]? = some b ∧ g a = some b
    | [], q, h, k, a, e => by simp at e
    | x :: l, q, h, k, a, e => by
      rw [List.mapM_cons] at h
      cases hx : g x with
      | none => rw [hx] at h; cases h
      | some b =>
        rw [hx] at h
        simp only [Option.bind_eq_bind, Option.bind_some] at h
        cases hl : l.mapM g with
        | none => rw [hl] at h; cases h
        | some r =>
          rw [hl] at h
          simp at h; subst h
          cases k with
          | zero => simp at e; subst e; exact ⟨b, rfl, hx⟩
          | succ k => simp at e; simpa using mapM_get hl e
def evP (f : Fm) : List (Nat × Operand) → Option (List (Nat × List A))
  | [] => some []
  | (i, x) :: r => match evD f x with
    | none => none
    | some d => match cellsD d, evP f r with
      | some cs, some l => some ((i, cs) :: l)
      | _, _ => none
section
variable {P : Program} {c : Cx} {f : Fm} {L : List Res} {t : Option Tmp} {T : TypeId} {ps : String} {af : Array Edge} {gd : Option (Nat × Bool)}
theorem evP.rep {a : Act} {w : World} (s : St c f L a w) : ∀ {parts : List (Nat × Operand)} {l : List (Nat × List A)}, evP f parts = some l → (parts.map fun p => (p.1, a.eval p.2)).map (·.1) = l.map (·.1) ∧ ∀ (j : Nat) (p : Nat × List A) (x : Nat × Value), l[j]? = some p → (parts.map fun p => (p.1, a.eval p.2))[j]? = some x → RC (okk c L) w p.2 x.2.cells.toList
  | [], l, h => by simp [evP] at h; subst h; simp
  | (i, x) :: r, l, h => by
    unfold evP at h
    cases h1 : evD f x with
    | none => rw [h1] at h; cases h
    | some d =>
      rw [h1] at h
      simp only at h
      cases h2 : cellsD d with
      | none => rw [h2] at h; cases h
      | some cs =>
        cases h3 : evP f r with
        | none => rw [h2, h3] at h; cases h
        | some l' =>
          rw [h2, h3] at h
          cases h
          obtain ⟨g1, g2⟩ := evP.rep s h3
          refine ⟨by simpa using g1, fun j p x hp hx => ?_⟩
          cases j with
          | zero => simp at hp hx; subst hp; subst hx; exact cellsD.rep h2 (s.ev h1)
          | succ j => exact g2 j p x (by simpa using hp) (by simpa using hx)
/-- a struct value out of its parts -/
theorem Qt.build {X : Nat} {parts : List (Nat × Operand)} {pl : List (Nat × Nat)} {zs : List Value} {l : List (Nat × List A)} [z : TyZ' P X zs] [i : TyP P X pl] (h : evP f parts = some l) (hf : fillA pl (vs zs) l = some (fillB pl 0 l (vs zs))) : Qt P c [] ⟨t, .build X parts.toArray, T, ps, af, gd⟩ f L (.agg (fillB pl 0 l (vs zs))) := ⟨fun a w s => by
  obtain ⟨g1, g2⟩ := evP.rep s h
  obtain ⟨zv, hz1, hz2⟩ := tyZero.run z.h
  obtain ⟨fs, u1, u2⟩ := tyPlaces.run i.h
  obtain ⟨us, r1, r2⟩ := fillA.run (ok := okk c L) (w := w) l (parts.map fun p => (p.1, a.eval p.2)) (vs zs) _ zv.cells hf (by rw [hz1]; exact RC.vs z.o) g1 g2
  refine ⟨.agg us, by unfold RD; exact ⟨us.toList, by simp, r2⟩, fun w' k => ?_⟩
  have e : (parts.toArray.map fun (i, x) => (i, a.eval x)).toList = parts.map fun p => (p.1, a.eval p.2) := by simp
  simp only [execOp, Instr.build, Sem.run_bind, hz2, Result.andThen_ok, run_underlying u1, u2, e, r1, Sem.run_pure]⟩
/-- one field of a struct value -/
theorem Qt.field {x : Operand} {X k off : Nat} {cs : List A} {e : A} {pl : List (Nat × Nat)} [i : TyP P X pl] (h : evD f x = some (.agg cs)) (hp : pl[k]? = some (off, 1)) (hv : fieldV P X k = true) (he : cs[off]? = some e) : Qt P c [] ⟨t, .field X x k, T, ps, af, gd⟩ f L (.c e) := ⟨fun a w s => by
  have r := s.ev h
  unfold RD at r
  obtain ⟨vs, hx, hr⟩ := r
  obtain ⟨y, hy, hre⟩ := hr.get off he
  refine ⟨y, by unfold RD; exact hre, fun w' k' => ?_⟩
  unfold fieldV at hv
  have hi := i.h
  unfold tyPlaces at hi
  cases hu : P.underlying X with
  | none => rw [hu] at hi; cases hi
  | some d =>
    rw [hu] at hi hv
    cases d with
    | struct fs =>
      simp only at hi hv
      cases hf : fs[k]? with
      | none => rw [hf] at hv; cases hv
      | some fd =>
        rw [hf] at hv
        simp only [beq_iff_eq] at hv
        have hoff : fd.offset = off := by
          have h3 := mapM_get hi (k := k) (a := fd) (by simpa using hf)
          obtain ⟨q, hq1, hq2⟩ := h3
          rw [hp] at hq1; cases hq1
          cases hinf : P.info? fd.type with
          | none => rw [hinf] at hq2; cases hq2
          | some ii => rw [hinf] at hq2; simp at hq2; exact hq2.1
        simp [execOp, Instr.field, Sem.run_bind, run_underlying hu, hf, hx, asAgg, part, tyAgg.runF hv, hoff, hy]
    | _ => cases hv⟩
/-- a bound of a slice expression -/
def bnd (f : Fm) (x : Option Operand) (n : Int) : Option Int := match x with
  | none => some n
  | some y => match evD f y with
    | some (.c (.v (.int _ m))) => some m
    | _ => none
theorem bnd.run {a : Act} {w : World} (s : St c f L a w) {x : Option Operand} {n m : Int} (h : bnd f x n = some m) : (x = none ∧ m = n) ∨ ∃ y k, x = some y ∧ a.eval y = .int k m := by
  unfold bnd at h
  cases x with
  | none => simp at h; exact .inl ⟨rfl, h.symm⟩
  | some y =>
    simp only at h
    split at h
    · rename_i k q e
      cases h
      exact .inr ⟨y, k, rfl, s.val e⟩
    · cases h
/-- a slice of a slice that is read -/
theorem Qt.sliceR {x : Operand} {lo hi : Option Operand} {X e sz : Nat} {l : List (List A)} {m n : Int} [i : TyS P X e sz] (h : evD f x = some (.c (.r sz l))) (hlo : bnd f lo 0 = some m) (hhi : bnd f hi l.length = some n) (h1 : 0 ≤ m) (h2 : m ≤ n) (h3 : n ≤ l.length) : Qt P c [] ⟨t, .slice X x lo hi none, T, ps, af, gd⟩ f L (.c (.r sz ((l.take n.toNat).drop m.toNat))) := ⟨fun a w s => by
  have r := s.ev h
  unfold RD RA at r
  obtain ⟨ao, cap, hx, g1, g2, g3⟩ := r
  have hn : n.toNat ≤ l.length := by omega
  refine ⟨.slice (if cap = m.toNat then ao else ao.map (·.add (m.toNat * sz))) (n.toNat - m.toNat) (cap - m.toNat), ?_, fun w' k => ?_⟩
  · unfold RD RA
    refine ⟨if cap = m.toNat then ao else ao.map (·.add (m.toNat * sz)), cap - m.toNat, by simp [hn], by simp; omega, by omega, ?_⟩
    by_cases hz : ((l.take n.toNat).drop m.toNat) = []
    · exact .inl hz
    · have hne : l ≠ [] := fun e => hz (by simp [e])
      rcases g3 with g3 | ⟨g, off, rfl, g5, g6, g7⟩
      · exact absurd g3 hne
      · have hlt : m.toNat < cap := by
          rcases Nat.lt_or_ge m.toNat cap with h | h
          · exact h
          · exact absurd (List.eq_nil_of_length_eq_zero (by simp; omega)) hz
        refine .inr ⟨g, off + m.toNat * sz, by rw [if_neg (by omega)]; simp [Addr.add_mid], g5, g6, ?_⟩
        exact (g7.take n.toNat).drop m.toNat
  · have hlow : ∀ w, (match lo.map a.eval with | some v => Instr.sliceBound v n.toNat .sliceB | none => pure 0 : Sem Nat).run P w = .ok m.toNat w := fun w => by
      rcases bnd.run s hlo with ⟨rfl, rfl⟩ | ⟨y, kd, rfl, hy⟩
      · simp
      · simp only [Option.map_some, hy, Instr.sliceBound, asIntOf, Sem.run_bind, Sem.run_pure, Result.andThen_ok]
        rw [if_pos ⟨h1, by omega⟩]; rfl
    have hhigh : ∀ w, (match hi.map a.eval, (none : Option Value) with | some v, some _ => Instr.sliceBound v cap .slice3B | some v, none => Instr.sliceBound v cap (if true then .sliceAcap else .sliceAlen) | none, none => pure l.length | none, some _ => stuck "Slice: max without high" : Sem Nat).run P w = .ok n.toNat w := fun w => by
      rcases bnd.run s hhi with ⟨rfl, rfl⟩ | ⟨y, kd, rfl, hy⟩
      · simp
      · simp only [Option.map_some, hy, Instr.sliceBound, asIntOf, Sem.run_bind, Sem.run_pure, Result.andThen_ok]
        rw [if_pos ⟨by omega, by omega⟩]; rfl
    have hsb : ∀ w, (Instr.sliceBounds true l.length cap (lo.map a.eval) (hi.map a.eval) none).run P w = .ok (m.toNat, n.toNat, cap) w := fun w => by
      unfold Instr.sliceBounds
      simp only [Sem.run_bind, Sem.run_pure, Result.andThen_ok, Option.isSome_none, Bool.false_eq_true, ↓reduceIte]
      have a1 := hhigh w
      have a2 := hlow w
      cases hhi' : hi.map a.eval <;> cases hlo' : lo.map a.eval <;> rw [hhi'] at a1 <;> rw [hlo'] at a2 <;> simp only [↓reduceIte, Sem.run_pure, Result.ok.injEq, and_true] at a1 a2 <;> simp [Sem.run_bind, a1, a2]
    simp only [execOp, Option.map_none, Instr.sliceAt, Instr.slice, hx, Sem.run_bind, run_underlying (tyElem.und i.h), Result.andThen_ok, hsb, tySize.run i.s, Sem.run_pure]⟩
theorem Qt.eq {U : List Nat} {o : Oper} {d d' : D} (q : Qt P c U o f L d) (h : d = d') : Qt P c U o f L d' := h ▸ q
theorem w64 {n : Int} (h1 : -9223372036854775808 ≤ n) (h2 : n ≤ 9223372036854775807) : IntKind.i64.wrap n = n := IntWalk.i64_in n ⟨h1, h2⟩
end
section
variable {P : Program} {c : Cx} {k : List Item} {f : Fm} {L L2 : List Res} {o : Oper}
theorem foots_perm (hp : L2.Perm L) (x : Nat) : x ∈ foots L2 ↔ x ∈ foots L := by
  rw [mem_foots, mem_foots]
  exact ⟨fun ⟨q, hq, hx⟩ => ⟨q, hp.mem_iff.1 hq, hx⟩, fun ⟨q, hq, hx⟩ => ⟨q, hp.mem_iff.2 hq, hx⟩⟩
theorem St.perm (hp : L2.Perm L) {a : Act} {w : World} (s : St c f L a w) : St c f L2 a w := by
  have ho : okk c L2 = okk c L := by
    funext x; unfold okk; rw [foots_perm hp]
  exact ⟨s.kp, s.size, s.dfr, fun q hq => by rw [ho]; exact s.res q (hp.mem_iff.1 hq), fun x hx => s.frm x ((foots_perm hp x).1 hx), (hp.pairwise_iff (fun {x y} hxy z hz hz' => hxy z hz' hz)).2 s.ap, fun u d hu => by rw [ho]; exact s.fr u d hu⟩
theorem Ld.perm (hp : L2.Perm L) {S : List Nat} {ι : Type} {f' : ι → Fm} {L' : ι → List Res} (h : Ld P c o f L2 S f' L') : Ld P c o f L S f' L' := ⟨fun a w s K Q hK =>
  h.go a w (s.perm hp) K Q fun x v w' kp sx hf => hK x v w' kp sx fun y hy => by
    rcases hf y hy with h | h
    · exact .inl ((foots_perm hp y).1 h)
    · exact .inr h⟩
theorem erase_perm {r : Res} {i : Nat} {L' : List Res} (h : L[i]? = some r) (e : L.eraseIdx i = L') : (r :: L').Perm L := e ▸ pull_perm L i h
variable {T X : TypeId} {ps : String} {af : Array Edge} {gd : Option (Nat × Bool)} {t : Nat} {e sz bytes i : Nat} {z : Value} {x y : Operand} {v : Value} {l1 l2 : List (List A)} {L' : List Res} {d2 : D}
theorem Srce.ownC {j e' : Nat} {u : Value} {m : List (List A)} [bx : RowAt L' u e' sz m j] : Srce L' sz (.c (.v u)) m := .own j bx.h
/-- append to a row that is owned: the result is owned -/
theorem Ld.appOw [E : TyE P X e sz bytes z] [bx : RowAt L v e sz l1 i] [er : EraseAt L i L'] (ht : t < c.N) (h1 : evD f x = some (.c (.v v))) (h2 : evD f y = some d2) (hs : Srce L' sz d2 l2) (hb : (l1.length + l2.length) * bytes ≤ 140737488355328) :
    Ld P c ⟨some t, .call ⟨.builtin .append, #[x, y], #[X, X]⟩, T, ps, af, gd⟩ f L (vfoot v) (fun v' : Value => (t, .c (.v v')) :: f) (fun v' => .row v' e sz (l1 ++ l2) :: L') :=
  Ld.perm (erase_perm bx.h er.h) (Ld.appO ht h1 (.own rfl) h2 hs hb)
/-- append to a row that is owned: the result is read on -/
theorem Ld.appRw [E : TyE P X e sz bytes z] [bx : RowAt L v e sz l1 i] [er : EraseAt L i L'] (ht : t < c.N) (h1 : evD f x = some (.c (.v v))) (h2 : evD f y = some d2) (hs : Srce L' sz d2 l2) (hb : (l1.length + l2.length) * bytes ≤ 140737488355328) :
    Ld P c ⟨some t, .call ⟨.builtin .append, #[x, y], #[X, X]⟩, T, ps, af, gd⟩ f L (vfoot v) (fun _ : Unit => (t, .c (.r sz (l1 ++ l2))) :: f) (fun _ => L') :=
  Ld.perm (erase_perm bx.h er.h) (Ld.appR ht h1 (.own rfl) h2 hs hb)
/-- append to none -/
theorem Ld.appOn [E : TyE P X e sz bytes z] (ht : t < c.N) (h1 : evD f x = some (.c (.v (.slice none 0 0)))) (h2 : evD f y = some d2) (hs : Srce L sz d2 l2) (hb : l2.length * bytes ≤ 140737488355328) :
    Ld P c ⟨some t, .call ⟨.builtin .append, #[x, y], #[X, X]⟩, T, ps, af, gd⟩ f L (vfoot (.slice none 0 0)) (fun v' : Value => (t, .c (.v v')) :: f) (fun v' => .row v' e sz l2 :: L) :=
  Ld.appO ht h1 .nil h2 hs (by simpa using hb)
theorem Ld.appRn [E : TyE P X e sz bytes z] (ht : t < c.N) (h1 : evD f x = some (.c (.v (.slice none 0 0)))) (h2 : evD f y = some d2) (hs : Srce L sz d2 l2) (hb : l2.length * bytes ≤ 140737488355328) :
    Ld P c ⟨some t, .call ⟨.builtin .append, #[x, y], #[X, X]⟩, T, ps, af, gd⟩ f L (vfoot (.slice none 0 0)) (fun _ : Unit => (t, .c (.r sz l2)) :: f) (fun _ => L) :=
  Ld.appR ht h1 .nil h2 hs (by simpa using hb)
end
section
variable {P : Program} {c : Cx} {k : List Item} {f : Fm} {L : List Res}
theorem J.weak {f' : Fm} (h : J P c k f' L) (ho : Only f f') : J P c k f L := J.only f' ho h
theorem J.congL {L' : List Res} (e : L' = L) (h : J P c k f L') : J P c k f L := e ▸ h
/-- a row that is owned is given up; a slot reads it on -/
theorem J.frzS (t : Nat) {v : Value} {e sz i : Nat} {l : List (List A)} {L' : List Res} [bx : RowAt L v e sz l i] [er : EraseAt L i L'] (h1 : look f t = some (.c (.v v))) (h : J P c k ((t, .c (.r sz l)) :: f) L') : J P c k f L := ⟨fun a w s => by
  have hp : (Res.row v e sz l :: L').Perm L := by rw [← er.h]; exact pull_perm L i bx.h
  have hm : ∀ x, x ∈ foots (Res.row v e sz l :: L') ↔ x ∈ foots L := fun x => by
    rw [mem_foots, mem_foots]
    exact ⟨fun ⟨q, hq, hx⟩ => ⟨q, hp.mem_iff.1 hq, hx⟩, fun ⟨q, hq, hx⟩ => ⟨q, hp.mem_iff.2 hq, hx⟩⟩
  have ho : okk c (Res.row v e sz l :: L') = okk c L := by
    funext x; unfold okk; rw [hm]
  have s1 : St c ((t, .c (.v v)) :: f) (Res.row v e sz l :: L') a w := by
    refine ⟨s.kp, s.size, s.dfr, fun q hq => by rw [ho]; exact s.res q (hp.mem_iff.1 hq), fun x hx => s.frm x ((hm x).1 hx), (hp.pairwise_iff (fun {x y} hxy z hz hz' => hxy z hz' hz)).2 s.ap, fun u d hu => ?_⟩
    rw [ho]
    by_cases e1 : t = u
    · subst e1; rw [look_cons_eq] at hu; cases hu; exact s.fr t _ h1
    · rw [look_cons_ne e1] at hu; exact s.fr u d hu
  exact h.go a w s1.freeze⟩
end
/-! of which kind the next operation is -/
namespace K
section
variable {P : Program} {c : Cx} {k : List Item} {f : Fm} {L : List Res} {ops : Array Oper} {l : List Oper} {t : Option Tmp} {T : TypeId} {ps : String} {af : Array Edge} {gd : Option (Nat × Bool)}
theorem load {X : TypeId} {x : Operand} (h : JO P c ops (⟨t, .load X x, T, ps, af, gd⟩ :: l) k f L) : JO P c ops (⟨t, .load X x, T, ps, af, gd⟩ :: l) k f L := h
theorem store {X : TypeId} {x y : Operand} (h : JO P c ops (⟨t, .store X x y, T, ps, af, gd⟩ :: l) k f L) : JO P c ops (⟨t, .store X x y, T, ps, af, gd⟩ :: l) k f L := h
theorem move {x : Operand} (h : JO P c ops (⟨t, .move x, T, ps, af, gd⟩ :: l) k f L) : JO P c ops (⟨t, .move x, T, ps, af, gd⟩ :: l) k f L := h
theorem assign {x : Operand} (h : JO P c ops (⟨t, .assign x, T, ps, af, gd⟩ :: l) k f L) : JO P c ops (⟨t, .assign x, T, ps, af, gd⟩ :: l) k f L := h
theorem fieldAddr {X : TypeId} {x : Operand} {n : Nat} (h : JO P c ops (⟨t, .fieldAddr X x n, T, ps, af, gd⟩ :: l) k f L) : JO P c ops (⟨t, .fieldAddr X x n, T, ps, af, gd⟩ :: l) k f L := h
theorem indexAddr {X : TypeId} {x y : Operand} (h : JO P c ops (⟨t, .indexAddr X x y, T, ps, af, gd⟩ :: l) k f L) : JO P c ops (⟨t, .indexAddr X x y, T, ps, af, gd⟩ :: l) k f L := h
theorem binOp {b : BinOp} {X Y : TypeId} {x y : Operand} (h : JO P c ops (⟨t, .binOp b X x y Y, T, ps, af, gd⟩ :: l) k f L) : JO P c ops (⟨t, .binOp b X x y Y, T, ps, af, gd⟩ :: l) k f L := h
theorem unOp {b : UnOp} {X : TypeId} {x : Operand} (h : JO P c ops (⟨t, .unOp b X x, T, ps, af, gd⟩ :: l) k f L) : JO P c ops (⟨t, .unOp b X x, T, ps, af, gd⟩ :: l) k f L := h
theorem call {x : Operand} {as_ : Array Operand} {tys : Array TypeId} (h : JO P c ops (⟨t, .call ⟨.value x, as_, tys⟩, T, ps, af, gd⟩ :: l) k f L) : JO P c ops (⟨t, .call ⟨.value x, as_, tys⟩, T, ps, af, gd⟩ :: l) k f L := h
theorem bi {b : Builtin} {as_ : Array Operand} {tys : Array TypeId} (h : JO P c ops (⟨t, .call ⟨.builtin b, as_, tys⟩, T, ps, af, gd⟩ :: l) k f L) : JO P c ops (⟨t, .call ⟨.builtin b, as_, tys⟩, T, ps, af, gd⟩ :: l) k f L := h
theorem extract {x : Operand} {n : Nat} (h : JO P c ops (⟨t, .extract x n, T, ps, af, gd⟩ :: l) k f L) : JO P c ops (⟨t, .extract x n, T, ps, af, gd⟩ :: l) k f L := h
theorem alloc {X : TypeId} (h : JO P c ops (⟨t, .alloc X, T, ps, af, gd⟩ :: l) k f L) : JO P c ops (⟨t, .alloc X, T, ps, af, gd⟩ :: l) k f L := h
theorem box {X : TypeId} {x : Operand} (h : JO P c ops (⟨t, .box X x, T, ps, af, gd⟩ :: l) k f L) : JO P c ops (⟨t, .box X x, T, ps, af, gd⟩ :: l) k f L := h
theorem build {X : TypeId} {as_ : Array (Nat × Operand)} (h : JO P c ops (⟨t, .build X as_, T, ps, af, gd⟩ :: l) k f L) : JO P c ops (⟨t, .build X as_, T, ps, af, gd⟩ :: l) k f L := h
theorem lit {X : TypeId} {n : Nat} {as_ : Array (Nat × Operand)} (h : JO P c ops (⟨t, .buildSlice X n as_, T, ps, af, gd⟩ :: l) k f L) : JO P c ops (⟨t, .buildSlice X n as_, T, ps, af, gd⟩ :: l) k f L := h
theorem slice {X : TypeId} {x : Operand} {lo hi mx : Option Operand} (h : JO P c ops (⟨t, .slice X x lo hi mx, T, ps, af, gd⟩ :: l) k f L) : JO P c ops (⟨t, .slice X x lo hi mx, T, ps, af, gd⟩ :: l) k f L := h
theorem pick {x y z : Operand} (h : JO P c ops (⟨t, .pick x y z, T, ps, af, gd⟩ :: l) k f L) : JO P c ops (⟨t, .pick x y z, T, ps, af, gd⟩ :: l) k f L := h
theorem nilCheck {x : Operand} (h : JO P c ops (⟨t, .nilCheck x, T, ps, af, gd⟩ :: l) k f L) : JO P c ops (⟨t, .nilCheck x, T, ps, af, gd⟩ :: l) k f L := h
theorem convert {X Y : TypeId} {x : Operand} (h : JO P c ops (⟨t, .convert X Y x, T, ps, af, gd⟩ :: l) k f L) : JO P c ops (⟨t, .convert X Y x, T, ps, af, gd⟩ :: l) k f L := h
theorem field {X : TypeId} {x : Operand} {n : Nat} (h : JO P c ops (⟨t, .field X x n, T, ps, af, gd⟩ :: l) k f L) : JO P c ops (⟨t, .field X x n, T, ps, af, gd⟩ :: l) k f L := h
theorem make {X : TypeId} {x y : Operand} (h : JO P c ops (⟨t, .makeSlice X x y, T, ps, af, gd⟩ :: l) k f L) : JO P c ops (⟨t, .makeSlice X x y, T, ps, af, gd⟩ :: l) k f L := h
end
end K
end Fl
end Go.Proofs.YtgjpdogjekmemaaDoor
