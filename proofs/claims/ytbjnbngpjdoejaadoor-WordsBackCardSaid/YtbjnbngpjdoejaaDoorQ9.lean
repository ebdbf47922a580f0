/-
  Texts Bun Lok Flt of this claim, put together: what they show stands at their heads.
  Conditions: none but those that each theorem states.
-/
import Derived.Test.YtbjnbngpjdoejaaDoorQ8
namespace Go.Proofs.YtbjnbngpjdoejaaDoor
open Go.RowKit
set_option linter.unusedVariables false
set_option linter.unusedSimpArgs false
set_option linter.unnecessarySimpa false
namespace Fl
theorem set_perm {r r' : Res} : ∀ {L : List Res} {j : Nat}, L[j]? = some r → (L.set j r').Perm (r' :: L.eraseIdx j)
  | [], j, h => by simp at h
  | q :: L, 0, h => by simp
  | q :: L, j + 1, h => by
    simp at h
    simp only [List.set_cons_succ, List.eraseIdx_cons_succ]
    exact ((set_perm h).cons q).trans (List.Perm.swap r' q _)
section
variable {P : Program} {c : Cx} {k : List Item} {f : Fm} {L : List Res} {ops : Array Oper} {l : List Oper} {o : Oper} {T : TypeId} {ps : String} {af : Array Edge} {gd : Option (Nat × Bool)} {t : Nat}
theorem Ld.call1 (j : Nat) {F : FuncId} {args : List Operand} {tys : Array TypeId} {ds0 ds : List D} {r : Res} {ι : Type} {dd : ι → D} {r' : ι → Res} {L' : ι → List Res} [i : TyC P F] (hC : Con P F ds [r] (fun x => (dd x, [r' x]))) (hj : L[j]? = some r) (ht : t < c.N) (h : evDs f args = some ds0) (hle : LeDs ds0 ds) (hL : ∀ x, L.set j (r' x) = L' x) :
    Ld P c ⟨some t, .call ⟨.value (.func F), args.toArray, tys⟩, T, ps, af, gd⟩ f L r.foot (fun x => (t, dd x) :: f) L' := ⟨fun a w s K Q hK => by
  have hp := pull_perm L j hj
  have h1 := Ld.call (P := P) (c := c) (T := T) (ps := ps) (af := af) (gd := gd) (L := r :: L.eraseIdx j) (f := f) (tys := tys) hC ht h hle (Ll := [r]) (Lr := L.eraseIdx j) rfl
  refine h1.go a w (s.perm hp) K Q fun x v w' kp sx hf => ?_
  have hq := set_perm (r' := r' x) hj
  rw [hL] at hq
  refine hK x v w' (by simpa [foots] using kp) (sx.perm hq) fun y hy => ?_
  rcases hf y ((foots_perm hq y).1 hy) with h | h
  · exact .inl ((foots_perm hp y).1 h)
  · exact .inr h⟩
end
class ResAt (L : List Res) (r : Res) (j : outParam Nat) : Prop where h : L[j]? = some r
instance ResAt.succ {q r : Res} {M : List Res} {j : Nat} [h : ResAt M r j] : ResAt (q :: M) r (j + 1) := ⟨by simpa using h.h⟩
instance ResAt.zero {r : Res} {M : List Res} : ResAt (r :: M) r 0 := ⟨rfl⟩
section
variable {P : Program} {c : Cx} {k : List Item} {f : Fm} {L : List Res} {ops : Array Oper} {l : List Oper} {o : Oper} {T : TypeId} {ps : String} {af : Array Edge} {gd : Option (Nat × Bool)} {t : Nat}
theorem Ld.callT {F : FuncId} {args : List Operand} {tys : Array TypeId} {ds0 ds : List D} {r : Res} {j : Nat} {ι : Type} {dd : ι → D} {r' : ι → Res} {L' : ι → List Res} [i : TyC P F] (hC : Con P F ds [r] (fun x => (dd x, [r' x]))) [hj : ResAt L r j] [hL : ∀ x, SetAt L j (r' x) (L' x)] (ht : t < c.N) (h : evDs f args = some ds0) (hle : LeDs ds0 ds) :
    Ld P c ⟨some t, .call ⟨.value (.func F), args.toArray, tys⟩, T, ps, af, gd⟩ f L r.foot (fun x => (t, dd x) :: f) L' := Ld.call1 j hC hj.h ht h hle fun x => (hL x).h
theorem Ld.callA {F : FuncId} {args : List Operand} {tys : Array TypeId} {ds0 ds : List D} {ι : Type} {dd : ι → D} {L' : ι → List Res} [i : TyC P F] (hC : Con P F ds L (fun x => (dd x, L' x))) (ht : t < c.N) (h : evDs f args = some ds0) (hle : LeDs ds0 ds) :
    Ld P c ⟨some t, .call ⟨.value (.func F), args.toArray, tys⟩, T, ps, af, gd⟩ f L (foots L) (fun x => (t, dd x) :: f) L' := ⟨fun a w s K Q hK =>
  (Ld.call (P := P) (c := c) (T := T) (ps := ps) (af := af) (gd := gd) (tys := tys) hC ht h hle (Ll := L) (Lr := []) (by simp)).go a w s K Q fun x v w' kp sx hf => hK x v w' kp (by simpa using sx) (by simpa using hf)⟩
end
section
variable {P : Program} {F : FuncId} {ok : Nat → Prop} {e : World} {L0 L : List Res} {ι : Type} {post : ι → D × List Res} {fn : Func} {N : Nat} {f : Fm} {k : List Item}
theorem range_get (L : List Res) : (List.range L.length).map (fun i => L[i]?) = L.map some := by
  apply List.ext_getElem?
  intro i
  rw [List.getElem?_map, List.getElem?_map]
  by_cases h : i < L.length
  · rw [List.getElem?_range h, List.getElem?_eq_getElem h]; simp [List.getElem?_eq_getElem h]
  · rw [List.getElem?_eq_none (by simpa using h), List.getElem?_eq_none (by omega)]; rfl
theorem J.perm {c : Cx} {L2 : List Res} (hp : L2.Perm L) (h : J P c k f L2) : J P c k f L := ⟨fun a w s => h.go a w (s.perm hp)⟩
theorem J.retA (hf : P.funcs[F]? = some fn) {rs : List ResultVar} {ds : List D} (hres : fn.results = rs.toArray) (h : ResDs P f L rs ds) {d : D} (i : ι) (hle : LeD (oneD ds) d) (hp : post i = (d, L)) : J P (cx F ok e L0 post N) (.code .ret :: k) f L :=
  J.ret hf hres h i hle (List.range L.length) List.nodup_range (range_get L) hp
theorem J.finA (hf : P.funcs[F]? = some fn) {rs : List ResultVar} {ds : List D} (hres : fn.results = rs.toArray) (h : ResDs P f L rs ds) {d : D} (i : ι) (hle : LeD (oneD ds) d) (hp : post i = (d, L)) : J P (cx F ok e L0 post N) [] f L :=
  J.fin hf hres h i hle (List.range L.length) List.nodup_range (range_get L) hp
theorem range_getE (E L : List Res) : ((List.range L.length).map (· + E.length)).map (fun i => (E ++ L)[i]?) = L.map some := by
  rw [List.map_map, ← range_get L]
  refine List.map_congr_left fun i _ => ?_
  simp only [Function.comp]
  rw [List.getElem?_append_right (by omega)]
  congr 1; omega
theorem J.retE (E : List Res) {L' : List Res} (hL : L = E ++ L') (hf : P.funcs[F]? = some fn) {rs : List ResultVar} {ds : List D} (hres : fn.results = rs.toArray) (h : ResDs P f L rs ds) {d : D} (i : ι) (hle : LeD (oneD ds) d) (hp : post i = (d, L')) : J P (cx F ok e L0 post N) (.code .ret :: k) f L := by
  subst hL
  exact J.ret hf hres h i hle ((List.range L'.length).map (· + E.length)) (List.pairwise_map.2 (List.nodup_range.imp (fun h e => h (by omega)))) (range_getE E L') hp
theorem J.finE (E : List Res) {L' : List Res} (hL : L = E ++ L') (hf : P.funcs[F]? = some fn) {rs : List ResultVar} {ds : List D} (hres : fn.results = rs.toArray) (h : ResDs P f L rs ds) {d : D} (i : ι) (hle : LeD (oneD ds) d) (hp : post i = (d, L')) : J P (cx F ok e L0 post N) [] f L := by
  subst hL
  exact J.fin hf hres h i hle ((List.range L'.length).map (· + E.length)) (List.pairwise_map.2 (List.nodup_range.imp (fun h e => h (by omega)))) (range_getE E L') hp
end
structure Thing (Φ : World → List Nat → Prop) : Prop where
  keep : ∀ {w w' : World} {S T : List Nat}, Φ w S → Keeps T w w' → (∀ x ∈ S, x ∉ T) → Φ w' S
  lt : ∀ {w : World} {S : List Nat}, Φ w S → ∀ x ∈ S, x < w.heap.size
def thing (Φ : World → List Nat → Prop) (S : List Nat) : Res := .obj S (fun w => Φ w S)
theorem thing.holds {Φ : World → List Nat → Prop} (h : Thing Φ) {ok : Nat → Prop} {w : World} {S : List Nat} : (thing Φ S).holds ok w ↔ Φ w S := by
  constructor
  · rintro ⟨h1, h2⟩; exact h2 w [] (Keeps.refl _ _) (by simp)
  · intro h1; exact ⟨h.lt h1, fun w' S' k hn => h.keep h1 k hn⟩
def flatA : A → Bool
  | .v _ => true
  | .r _ _ => false
def flatR : Res → Bool
  | .box _ _ cs => cs.all flatA
  | .row _ _ _ l => l.all (·.all flatA)
  | .obj _ _ => true
theorem RC.flat {ok ok' : Nat → Prop} {w : World} : ∀ {cs : List A} {vs : List Value}, cs.all flatA = true → RC ok w cs vs → RC ok' w cs vs
  | [], vs, _, h => by unfold RC at h ⊢; exact h
  | .v y :: cs, vs, hf, h => by
    unfold RC at h ⊢
    obtain ⟨x, xs, e, h1, h2⟩ := h
    refine ⟨x, xs, e, ?_, RC.flat (by simpa [flatA] using hf) h2⟩
    unfold RA at h1 ⊢; exact h1
  | .r _ _ :: cs, vs, hf, h => by simp [flatA] at hf
theorem RX.flat {ok ok' : Nat → Prop} {w : World} {sz : Nat} : ∀ {l : List (List A)} {xs : List Value}, l.all (·.all flatA) = true → RX ok w sz l xs → RX ok' w sz l xs
  | [], xs, _, h => h
  | cs :: l, xs, hf, h => by
    obtain ⟨vs, ys, h1, h2, h3, h4⟩ := h
    simp only [List.all_cons, Bool.and_eq_true] at hf
    exact ⟨vs, ys, h1, h2, h3.flat hf.1, RX.flat hf.2 h4⟩
theorem Res.holds.flat {ok ok' : Nat → Prop} {w : World} : ∀ {r : Res}, flatR r = true → r.holds ok w → r.holds ok' w
  | .box _ _ _, hf, ⟨vs, h1, h2⟩ => ⟨vs, h1, h2.flat hf⟩
  | .row _ _ _ _, hf, ⟨xs, h1, h2⟩ => ⟨xs, h1, h2.flat hf⟩
  | .obj _ _, _, h => h
def bun {ι : Type} (M : ι → List Res) (w : World) (S : List Nat) : Prop := ∃ x, foots (M x) = S ∧ Apart (M x) ∧ ∀ r ∈ M x, r.holds (fun _ => False) w
theorem bun.ok {ι : Type} {M : ι → List Res} : Thing (bun M) := ⟨fun ⟨x, e, a, h⟩ k hn => ⟨x, e, a, fun r hr => (h r hr).mon k ⟨k.size, fun _ _ z => z.elim⟩ fun y hy => hn y (by rw [← e]; exact mem_foots.2 ⟨r, hr, hy⟩)⟩, fun ⟨x, e, _, h⟩ y hy => by
  rw [← e] at hy
  obtain ⟨r, hr, hy⟩ := mem_foots.1 hy
  exact (h r hr).lt y hy⟩
section
variable {P : Program} {F : FuncId} {ds : List D} {ι κ : Type} {M : ι → List Res} {M' : κ → List Res}
theorem foots_thing (Φ : World → List Nat → Prop) (S : List Nat) : foots [thing Φ S] = S := by simp [foots, thing, Res.foot]
theorem Con.bunS {Y : Type} {d : Y → D} {S : List Nat} (fl : ∀ x, (M' x).all flatR = true) (h : ∀ x, ∃ (Z : Type) (e : Z → κ) (g : Z → Y), Con P F ds (M x) (fun z : Z => (d (g z), M' (e z)))) :
    Con P F ds [thing (bun M) S] (fun q : Y × List Nat => (d q.1, [thing (bun M') q.2])) := ⟨fun ok e xs hd hr _ hn => by
  obtain ⟨x, eS, ap, hh⟩ := (thing.holds bun.ok).1 (hr _ (List.mem_singleton.2 rfl))
  rw [foots_thing] at hn
  subst eS
  obtain ⟨Z, ee, g, C⟩ := h x
  refine (C.go ok e xs hd (fun r hr => (hh r hr).mon (Keeps.refl [] e) ⟨Nat.le_refl _, fun _ _ z => z.elim⟩ (by simp)) ap hn).mono ?_
  rintro en w' ⟨z, y, rfl, kp, hs, ap', hh', hx⟩
  have eq : okr ok e [thing (bun M) (foots (M x))] [thing (bun M') (foots (M' (ee z)))] = okr ok e (M x) (M' (ee z)) := by
    funext k; unfold okr; rw [foots_thing, foots_thing]
  refine ⟨(g z, foots (M' (ee z))), y, rfl, by rw [foots_thing]; exact kp, by rw [foots_thing, foots_thing]; exact hs, List.pairwise_singleton _ _, fun r hr => ?_, by rw [eq]; exact hx⟩
  rw [List.mem_singleton.1 hr]
  refine (thing.holds bun.ok).2 ⟨ee z, rfl, ap', fun r hr => (hh' r hr).flat ?_⟩
  exact List.all_eq_true.1 (fl _) r hr⟩
theorem Con.bunE {d : D} {S : List Nat} (fl : ∀ x, (M' x).all flatR = true) (h : ∀ x, ∃ (Z : Type) (e : Z → κ), (∀ z, foots (M' (e z)) = foots (M x)) ∧ Con P F ds (M x) (fun z : Z => (d, M' (e z)))) :
    Con P F ds [thing (bun M) S] (fun _ : Unit => (d, [thing (bun M') S])) := ⟨fun ok e xs hd hr _ hn => by
  obtain ⟨x, eS, ap, hh⟩ := (thing.holds bun.ok).1 (hr _ (List.mem_singleton.2 rfl))
  rw [foots_thing] at hn
  subst eS
  obtain ⟨Z, ee, ef, C⟩ := h x
  refine (C.go ok e xs hd (fun r hr => (hh r hr).mon (Keeps.refl [] e) ⟨Nat.le_refl _, fun _ _ z => z.elim⟩ (by simp)) ap hn).mono ?_
  rintro en w' ⟨z, y, rfl, kp, hs, ap', hh', hx⟩
  rw [ef] at hs
  have eq : okr ok e [thing (bun M) (foots (M x))] [thing (bun M') (foots (M x))] = okr ok e (M x) (M' (ee z)) := by
    funext k; unfold okr; rw [foots_thing, foots_thing, ef]
  refine ⟨(), y, rfl, by rw [foots_thing]; exact kp, by rw [foots_thing, foots_thing]; exact fun _ h => .inl h, List.pairwise_singleton _ _, fun r hr => ?_, by rw [eq]; exact hx⟩
  rw [List.mem_singleton.1 hr]
  refine (thing.holds bun.ok).2 ⟨ee z, ef z, ap', fun r hr => (hh' r hr).flat ?_⟩
  exact List.all_eq_true.1 (fl _) r hr⟩
theorem Con.bunN {Y : Type} {d : Y → D} {κ : Y → Type} {N : ∀ y, κ y → List Res} (fl : ∀ y x, (N y x).all flatR = true) {Z : Type} (e : Z → Σ y, κ y) (h : Con P F ds [] (fun z : Z => (d (e z).1, N (e z).1 (e z).2))) :
    Con P F ds [] (fun q : Y × List Nat => (d q.1, [thing (bun (N q.1)) q.2])) := ⟨fun ok w0 xs hd hr ha hn => by
  refine (h.go ok w0 xs hd hr ha hn).mono ?_
  rintro en w' ⟨z, y, rfl, kp, hs, ap', hh', hx⟩
  have eq : okr ok w0 [] [thing (bun (N (e z).1)) (foots (N (e z).1 (e z).2))] = okr ok w0 [] (N (e z).1 (e z).2) := by
    funext k; unfold okr; rw [foots_thing]
  refine ⟨((e z).1, foots (N (e z).1 (e z).2)), y, rfl, kp, by rw [foots_thing]; exact hs, List.pairwise_singleton _ _, fun r hr => ?_, by rw [eq]; exact hx⟩
  rw [List.mem_singleton.1 hr]
  refine (thing.holds bun.ok).2 ⟨(e z).2, rfl, ap', fun r hr => (hh' r hr).flat ?_⟩
  exact List.all_eq_true.1 (fl _ _) r hr⟩
end
section
variable {P : Program} {F : FuncId} {ds : List D} {L Ll Lr : List Res}
theorem Con.frame {ι : Type} {dd : ι → D} {M L' : ι → List Res} (Lr : List Res) (hC : Con P F ds Ll (fun x => (dd x, M x))) (hL : (Ll ++ Lr).Perm L) (hL' : ∀ x, (L' x).Perm (M x ++ Lr)) : Con P F ds L (fun x => (dd x, L' x)) := ⟨fun ok e xs hd hr ha hf => by
  have ha' : Apart (Ll ++ Lr) := (hL.pairwise_iff (fun {x y} hxy z hz hz' => hxy z hz' hz)).2 ha
  have hap := List.pairwise_append.1 ha'
  have hm : ∀ x, x ∈ foots L ↔ x ∈ foots Ll ∨ x ∈ foots Lr := fun x => by rw [← foots_perm hL x, foots_app]
  have hml : ∀ r ∈ Ll, r ∈ L := fun r h => hL.mem_iff.1 (List.mem_append_left _ h)
  have hmr : ∀ r ∈ Lr, r ∈ L := fun r h => hL.mem_iff.1 (List.mem_append_right _ h)
  have hlr : ∀ x, x ∈ foots Ll → x ∉ foots Lr := fun x hx hx' => by
    obtain ⟨q, hq, h1⟩ := mem_foots.1 hx
    obtain ⟨r, hr, h2⟩ := mem_foots.1 hx'
    exact hap.2.2 q hq r hr x h1 h2
  have hlt : ∀ x, x ∈ foots Lr → x < e.heap.size := fun x hx => by
    obtain ⟨r, h1, h2⟩ := mem_foots.1 hx
    exact (hr r (hmr r h1)).lt x h2
  refine Calls.mono (hC.go ok e xs hd (fun r h => hr r (hml r h)) hap.1 (fun x hx => hf x ((hm x).2 (.inl hx)))) ?_
  rintro en w' ⟨i, x, rfl, kp, g1, g2, g3, g4⟩
  have hm' : ∀ y, y ∈ foots (L' i) ↔ y ∈ foots (M i) ∨ y ∈ foots Lr := fun y => by rw [foots_perm (hL' i) y, foots_app]
  have hok : ∀ g, g < w'.heap.size → okr ok e Ll (M i) g → okr ok e L (L' i) g := fun g _ hg => by
    obtain ⟨hg, hn⟩ := hg
    refine ⟨?_, fun hx => ?_⟩
    · rcases hg with hg | hg | hg
      · exact .inl hg
      · exact .inr (.inl ((hm g).2 (.inl hg)))
      · exact .inr (.inr hg)
    · rcases (hm' g).1 hx with hx | hx
      · exact hn hx
      · rcases hg with hg | hg | hg
        · exact hf g ((hm g).2 (.inr hx)) hg
        · exact hlr g hg hx
        · have := hlt g hx; omega
  have m1 : Mon (okr ok e Ll (M i)) (okr ok e L (L' i)) w' w' := ⟨Nat.le_refl _, fun g hg ho => ⟨hok g hg ho, rfl⟩⟩
  have m2 : Mon ok (okr ok e L (L' i)) e w' := Mon.of_keeps kp fun g hg ho => ⟨⟨.inl ho, fun hx => by
    rcases (hm' g).1 hx with hx | hx
    · rcases g1 g hx with h | h
      · exact hf g ((hm g).2 (.inl h)) ho
      · omega
    · exact hf g ((hm g).2 (.inr hx)) ho⟩, fun hx => hf g ((hm g).2 (.inl hx)) ho⟩
  refine ⟨i, x, rfl, kp.mono (fun y hy => .inl ((hm y).2 (.inl hy))), fun y hy => ?_, ?_, fun r hr' => ?_, RD.mon m1 _ _ g4⟩
  · rcases (hm' y).1 hy with hy | hy
    · rcases g1 y hy with h | h
      · exact .inl ((hm y).2 (.inl h))
      · exact .inr h
    · exact .inl ((hm y).2 (.inr hy))
  · refine ((hL' i).pairwise_iff (fun {x y} hxy z hz hz' => hxy z hz' hz)).2 ?_
    refine List.pairwise_append.2 ⟨g2, hap.2.1, fun q hq r hr x hx hx' => ?_⟩
    have hxr : x ∈ foots Lr := mem_foots.2 ⟨r, hr, hx'⟩
    rcases g1 x (mem_foots.2 ⟨q, hq, hx⟩) with h | h
    · exact hlr x h hxr
    · have := hlt x hxr; omega
  · rcases List.mem_append.1 ((hL' i).mem_iff.1 hr') with h | h
    · exact (g3 r h).mon (Keeps.refl [] w') m1 (by simp)
    · exact (hr r (hmr r h)).mon kp m2 (fun x hx hx' => hlr x hx' (mem_foots.2 ⟨r, h, hx⟩))⟩
theorem Con.at_ (j : Nat) {r : Res} {ι : Type} {dd : ι → D} {r' : ι → Res} {L' : ι → List Res} (hj : L[j]? = some r) (hC : Con P F ds [r] (fun x => (dd x, [r' x]))) (hL' : ∀ x, L' x = L.set j (r' x)) : Con P F ds L (fun x => (dd x, L' x)) :=
  Con.frame (L.eraseIdx j) hC (pull_perm L j hj) fun x => by rw [hL' x]; exact set_perm hj
end
class Sfx {ι : Type} (L Ll : List Res) (M : ι → List Res) (L' : outParam (ι → List Res)) : Prop where h : ∃ E, L = E ++ Ll ∧ L' = fun x => E ++ M x
instance Sfx.succ {ι : Type} {q : Res} {L Ll : List Res} {M L' : ι → List Res} [h : Sfx L Ll M L'] : Sfx (q :: L) Ll M (fun x => q :: L' x) := ⟨by
  obtain ⟨E, h1, h2⟩ := h.h
  exact ⟨q :: E, by rw [h1]; rfl, by rw [h2]; rfl⟩⟩
instance Sfx.zero {ι : Type} {L : List Res} {M : ι → List Res} : Sfx L L M M := ⟨⟨[], rfl, rfl⟩⟩
instance (priority := low) Sfx.app {ι : Type} {A L Ll : List Res} {M L' : ι → List Res} [h : Sfx L Ll M L'] : Sfx (A ++ L) Ll M (fun x => A ++ L' x) := ⟨by
  obtain ⟨E, h1, h2⟩ := h.h
  exact ⟨A ++ E, by rw [h1, List.append_assoc], by rw [h2]; funext x; rw [List.append_assoc]⟩⟩
instance (priority := low) Sfx.end_ {ι : Type} {A : List Res} {M : ι → List Res} : Sfx A [] M (fun x => A ++ M x) := ⟨⟨A, by simp, rfl⟩⟩
class DropW (L : List Res) (b : Nat) (L0 : outParam (List Res)) : Prop where h : ∃ B, L = L0 ++ B
instance DropW.succ {q : Res} {L L0 : List Res} {b : Nat} [h : DropW L b L0] : DropW (q :: L) b (q :: L0) := ⟨by
  obtain ⟨B, hB⟩ := h.h
  exact ⟨B, by rw [hB]; rfl⟩⟩
instance DropW.zero {b : Nat} {t : TypeId} {cs : List A} {M : List Res} : DropW (.box b t cs :: M) b [] := ⟨⟨_, rfl⟩⟩
instance DropW.app {E : List Res} {b : Nat} {t : TypeId} {cs : List A} {M : List Res} : DropW (E ++ .box b t cs :: M) b E := ⟨⟨_, rfl⟩⟩
class TailW (L : List Res) (b : Nat) (B : outParam (List Res)) (mk : outParam (List Res → List Res)) : Prop where
  h : L = mk B
  e : ∃ E, ∀ X, mk X = E ++ X
instance TailW.succ {q : Res} {L : List Res} {b : Nat} {B : List Res} {mk : List Res → List Res} [h : TailW L b B mk] : TailW (q :: L) b B (fun A => q :: mk A) := ⟨by rw [h.h], by
  obtain ⟨E, hE⟩ := h.e
  exact ⟨q :: E, fun X => by rw [hE X]; rfl⟩⟩
instance TailW.zero {b : Nat} {t : TypeId} {cs : List A} {M : List Res} : TailW (.box b t cs :: M) b (.box b t cs :: M) (fun A => A) := ⟨rfl, [], fun _ => rfl⟩
section
variable {P : Program} {c : Cx} {k : List Item} {f : Fm} {L L2 : List Res} {T X : TypeId} {ps : String} {af : Array Edge} {gd : Option (Nat × Bool)} {t : Nat}
theorem Ld.callS {F : FuncId} {args : List Operand} {tys : Array TypeId} {ds0 ds : List D} {ι : Type} {dd : ι → D} {Ll : List Res} {M L' : ι → List Res} [i : TyC P F] (hC : Con P F ds Ll (fun x => (dd x, M x))) [hs : Sfx L Ll M L'] (ht : t < c.N) (h : evDs f args = some ds0) (hle : LeDs ds0 ds) :
    Ld P c ⟨some t, .call ⟨.value (.func F), args.toArray, tys⟩, T, ps, af, gd⟩ f L (foots Ll) (fun x => (t, dd x) :: f) L' := by
  obtain ⟨E, h1, h2⟩ := hs.h
  subst h1 h2
  exact Ld.callF E _ hC List.perm_append_comm (fun x => List.perm_append_comm) ht h hle
theorem Ld.callM {F : FuncId} {args : List Operand} {tys : Array TypeId} {ds0 ds : List D} {ι : Type} {dd : ι → D} {M L' : ι → List Res} [i : TyC P F] (hC : Con P F ds [] (fun x => (dd x, M x))) (hL : ∀ x, L' x = M x ++ L) (ht : t < c.N) (h : evDs f args = some ds0) (hle : LeDs ds0 ds) :
    Ld P c ⟨some t, .call ⟨.value (.func F), args.toArray, tys⟩, T, ps, af, gd⟩ f L [] (fun x => (t, dd x) :: f) L' := by
  obtain rfl : L' = fun x => M x ++ L := funext hL
  exact Ld.call (P := P) (c := c) (T := T) (ps := ps) (af := af) (gd := gd) (L := L) (f := f) (tys := tys) hC ht h hle (Ll := []) (Lr := L) rfl
end
/-! ### regions that draw, in which calls may write all that is owned -/
def allT (L : List Res) : List Nat := List.range L.length
theorem blk_all {L : List Res} {x : Nat} (h : x ∈ foots L) : x ∈ blk L (allT L) := by
  obtain ⟨r, hr, hx⟩ := mem_foots.1 h
  obtain ⟨i, hi⟩ := List.getElem?_of_mem hr
  exact mem_blk.2 ⟨i, List.mem_range.2 (List.getElem?_eq_some_iff.1 hi).1, r, hi, hx⟩
def SubF (S : List Nat) (L : List Res) : Prop := ∀ x ∈ S, x ∈ foots L
theorem SubF.nil {L : List Res} : SubF [] L := fun x hx => by cases hx
theorem SubF.row {v : Value} {e sz : Nat} {l : List (List A)} {L : List Res} : SubF (vfoot v) (.row v e sz l :: L) := fun x hx => (foots_cons _ _ _).2 (.inl hx)
theorem SubF.foots {L Ll : List Res} {L' : Unit → List Res} [h : Sfx L Ll (fun _ : Unit => ([] : List Res)) L'] : SubF (Fl.foots Ll) L := fun x hx => by
  obtain ⟨E, h1, _⟩ := h.h
  rw [h1, foots_app]; exact .inr hx
section
variable {P : Program} {c : Cx} {k : List Item} {f f0 : Fm} {L L0 : List Res} {ops : Array Oper} {o : Oper} {m : Option Nat} {n : Nat} {listed : Array Bool}
theorem JW.baseA (m : Option Nat) (h : JD P c ops m (allT L) n listed k f L f L) : JW P c ops n listed k f L := JW.baseT _ _ h
theorem JS.ldA {S : List Nat} {i t : Nat} {ι : Type} {g : ι → D} {L' : ι → List Res} (hi : ops[i]? = some o) (hd : o.dst = some t) (hw : Wants ops o f = true) (ht : t < c.N) (q : Ld P c o f L S (fun x => (t, g x) :: f) L') (hS : SubF S L)
    (h : ∀ x, JD P c ops m (allT L0) n (listed.setIfInBounds i true) k ((t, g x) :: f) (L' x) ((t, stays (g x)) :: f0) L0) : JS P c ops m (allT L0) n listed k f L f0 L0 i := ⟨fun a w w0 s s0 kp ho => by
  refine wpOp_step hi (fun K hK => ?_)
  rw [Wants.run hw s, if_pos rfl]
  refine q.go a w s K _ fun x v w' kp' sx hf => ?_
  have kp2 : Keeps (blk L0 (allT L0)) w0 w' := kp.trans kp' fun x hx => by
    rcases ho x (hS x hx) with h | h
    · exact .inl (blk_all h)
    · exact .inr h
  refine hK _ _ (.inr ⟨kp2, (h x).go _ w' w0 sx ?_ kp2 ?_⟩)
  · rw [hd]
    exact s0.put0 ht (stays.rep (by
      have h1 := sx.fr t (g x) (look_cons_eq _ _ _)
      have h2 := s.size
      rw [hd] at h1
      simpa [Act.put, Array.getD_eq_getD_getElem?, Array.getElem?_setIfInBounds, h2, ht] using h1))
  · intro y hy
    rcases hf y hy with h1 | h1
    · exact ho y h1
    · exact .inr (Nat.le_trans kp.size h1)⟩
end
section
variable {P : Program} {c : Cx} {f : Fm} {L : List Res} {T X : TypeId} {ps : String} {af : Array Edge} {gd : Option (Nat × Bool)} {t : Nat}
theorem Qt.max {x y : Operand} {tys : Array TypeId} {k1 : IntKind} {m n r : Int} (h : evD f x = some (.c (.v (.int k1 m)))) (hy : evD f y = some (.c (.v (.int k1 n)))) (hr : (if n > m then n else m) = r) : Qt P c [] ⟨t, .call ⟨.builtin .max, #[x, y], tys⟩, T, ps, af, gd⟩ f L (.c (.v (.int k1 r))) := ⟨fun a w s => by
  have rx := s.val h
  have ry := s.val hy
  subst hr
  refine ⟨_, by unfold RD RA; exact ⟨rfl, rfl⟩, fun w' k => ?_⟩
  simp only [execOp, resolve, invoke, builtin, Sem.run_bind]
  simp [rx, ry, Builtin.max_, Builtin.max2, Sem.run_bind]⟩
end
theorem RX.drop1 {ok : Nat → Prop} {w : World} : ∀ {l : List (List A)} {xs : List Value} (n : Nat), RX ok w 1 l xs → RX ok w 1 (l.drop n) (xs.drop n)
  | l, xs, 0, h => h
  | [], xs, n + 1, h => by unfold RX at h; subst h; exact rfl
  | cs :: l, xs, n + 1, h => by
    obtain ⟨vs, ys, rfl, h2, h3, h4⟩ := h
    obtain ⟨v, rfl⟩ := List.length_eq_one_iff.1 h2
    exact RX.drop1 n h4
section
variable {P : Program} {c : Cx} {f : Fm} {L : List Res} {T X : TypeId} {ps : String} {af : Array Edge} {gd : Option (Nat × Bool)} {t : Nat}
theorem Ld.copyL {e bytes : Nat} {z : Value} [E : TyE P X e 1 bytes z] {x y : Operand} {v : Value} {l1 l2 : List (List A)} {i : Nat} {L' : List Res} [bx : RowAt L v e 1 l1 i] [st : SetAt L i (.row v e 1 (l2 ++ l1.drop l2.length)) L'] (ht : t < c.N) (hx : evD f x = some (.c (.v v))) (hy : evD f y = some (.c (.r 1 l2))) (hn : l2.length ≤ l1.length) :
    Ld P c ⟨some t, .call ⟨.builtin .copy, #[x, y], #[X, X]⟩, T, ps, af, gd⟩ f L (vfoot v) (fun _ : Unit => (t, .c (.v (.int .i64 l2.length))) :: f) (fun _ => L') := ⟨fun a w s K Q hK => by
  obtain ⟨hu, hinf, hz, hpos, hby⟩ := E.h
  obtain ⟨ti, hi, hi1, hi2, hi3⟩ := info_parts hinf
  have hsz : (P.info? e).map (·.size) = some 1 := by rw [hi]; simp [hi2]
  have rx := s.val hx
  have ry := s.ev hy
  unfold RD at ry
  obtain ⟨ys, S, v1, v2, v3⟩ := ry.view
  obtain ⟨xs, ⟨hl, ao, cap, rfl, hnc, hcm, h4⟩, q2⟩ := s.res _ (List.mem_of_getElem? bx.h)
  obtain ⟨hul, bo, bap, hbv, hub, hum, hu4⟩ := v1
  have hv1 : ∀ u ∈ ys, u.oneCell' = true := v2.one
  have hrun : ∃ w', (execOp a.eval ⟨some t, .call ⟨.builtin .copy, #[x, y], #[X, X]⟩, T, ps, af, gd⟩).run P w = .ok (.value (.int .i64 l2.length)) w' ∧ Keeps (vfoot (.slice ao l1.length cap)) w w' ∧ Row w' (.slice ao l1.length cap) e 1 l1.length (ys ++ xs.drop ys.length) (vfoot (.slice ao l1.length cap)) := by
    by_cases h0 : l2.length = 0
    · refine ⟨w, ?_, Keeps.refl _ _, ?_⟩
      · have hr := run_copy_none (P := P) w X X T e ao bo l1.length cap l2.length bap hu hsz (by rw [h0]; first | exact Nat.zero_min _ | exact Nat.min_zero _ | rfl)
        rw [h0] at hr hbv ⊢
        simp [execOp, resolve, invoke, builtin, rx, hbv, hr, Sem.run_bind, goInt]
      · have e1 : ys = [] := List.eq_nil_of_length_eq_zero (by rw [hul, h0])
        rw [e1]
        exact ⟨hl, ao, cap, rfl, hnc, hcm, h4⟩
    · rcases h4 with ⟨_, h, _⟩ | ⟨g, off, cur, rfl, hS, hb, hfit, hc⟩
      · omega
      · rcases hu4 with ⟨h, _⟩ | ⟨ug, uoff, rfl, _, hug, huc⟩
        · omega
        · have hr := run_copy_row (P := P) w X X T e g off l1.length cap ⟨ug, uoff, none⟩ l2.length bap cur.toArray e ys hu hsz hb (by rw [hul, Nat.mul_one]; exact (Nat.min_eq_left hn).symm) (fun j y hj => by
            rw [Addr.add_lit, huc j (List.getElem?_eq_some_iff.1 hj).1]; exact hj) (by rw [hul, List.size_toArray]; omega) hv1
          refine ⟨_, ?_, (Keeps.refl _ w).setRow (g := g) (.inl (by simp [vfoot])) (cur.toArray.toList.take off ++ ys ++ cur.toArray.toList.drop (off + ys.length)).toArray, ?_⟩
          · simp only [execOp, resolve, invoke, builtin, Sem.run_bind]
            simp [rx, hbv, hr, hul, goInt, Sem.run_bind]
          · refine ⟨by rw [List.length_append, List.length_drop, hl, hul]; omega, _, _, rfl, hnc, hcm, .inr ⟨g, off, _, rfl, hS, setRow_heap w g cur.toArray _ e _ hb, ?_, ?_⟩⟩
            · simp only [List.length_append, List.length_take, List.length_drop, hul]
              omega
            · intro j hj
              have htl : (cur.take off).length = off := by rw [List.length_take]; omega
              rw [List.append_assoc, List.getElem?_append_right (by rw [htl]; omega), htl, show off + j - off = j by omega]
              by_cases hjy : j < ys.length
              · rw [List.getElem?_append_left hjy, List.getElem?_append_left hjy]
              · rw [List.getElem?_append_right (by omega), List.getElem?_append_right (by omega), List.getElem?_drop, List.getElem?_drop, show off + ys.length + (j - ys.length) = off + j by omega, show ys.length + (j - ys.length) = j by omega]
                exact hc j (by rw [List.length_append, List.length_drop] at hj; omega)
  obtain ⟨w', hrun, hk, hrow⟩ := hrun
  unfold Oper.wp
  rw [hrun]
  have m : Mon (okk c L) (okk c L) w w' := Mon.of_keeps hk fun g hg ho => ⟨ho, fun hm => ho.2 (mem_foots.2 ⟨_, List.mem_of_getElem? bx.h, hm⟩)⟩
  have hdr : RX (okk c L) w' 1 (l1.drop l2.length) (xs.drop ys.length) := by
    rw [show ys.length = l2.length by rw [hul, Nat.mul_one]]
    exact RX.drop1 _ (RX.mon m _ _ q2)
  have hh : (Res.row (.slice ao l1.length cap) e 1 (l2 ++ l1.drop l2.length)).holds (okk c L) w' := ⟨ys ++ xs.drop ys.length, by rw [show (l2 ++ l1.drop l2.length).length = l1.length by rw [List.length_append, List.length_drop]; omega]; exact hrow, RX.app (RX.mon m _ _ v2) hdr⟩
  have s2 := s.set bx.h (r' := .row (.slice ao l1.length cap) e 1 (l2 ++ l1.drop l2.length)) rfl hk hh
  rw [st.h] at s2
  refine hK () _ w' hk (s2.put0 ht (by unfold RD RA; exact ⟨rfl, rfl⟩)) fun y hy => ?_
  rw [← st.h] at hy
  exact .inl ((foots_set bx.h (r' := .row (.slice ao l1.length cap) e 1 (l2 ++ l1.drop l2.length)) rfl y).1 hy)⟩
end
def pt (b : Nat) : Value := .pointer (some ⟨b, 0, none⟩)
def nums (l : List Int) : List (List A) := l.map fun n => [nI n]
theorem nums_len (l : List Int) : (nums l).length = l.length := by simp [nums]
theorem nums_flat (l : List Int) : (nums l).all (·.all flatA) = true := List.all_eq_true.2 fun x hx => by
  obtain ⟨n, _, rfl⟩ := List.mem_map.1 hx
  rfl
theorem nums_at {l : List Int} {i : Int} (h0 : 0 ≤ i) (h : i < l.length) : (nums l)[i.toNat]? = some [nI (l.getD i.toNat 0)] := by
  unfold nums
  rw [List.getElem?_map, List.getD_eq_getElem?_getD, List.getElem?_eq_getElem (show i.toNat < l.length by omega)]; rfl
theorem nums_set (l : List Int) (i : Nat) (n : Int) : (nums l).set i [nI n] = nums (l.set i n) := by unfold nums; rw [List.map_set]
end Fl
end Go.Proofs.YtbjnbngpjdoejaaDoor
namespace Go.Proofs.YtbjnbngpjdoejaaDoor
open Go.RowKit
set_option linter.unusedVariables false
set_option linter.unusedSimpArgs false
namespace Fl
def okOp (b i : Nat) (o : Oper) : Bool :=
  (o.dst == some (b + i)) && (match o.op with | .select .. => false | _ => true) && (o.after.toList.all fun e => !Region.binds .any e || decide (e.on < i)) &&
  (o.op.operands.toList.all fun | .tmp t => decide (t < b) || o.after.toList.any (fun e => Region.binds .any e && (b + e.on == t)) | _ => true) &&
  (match o.guard with | some (g, _) => o.after.toList.any (fun e => Region.binds .any e && (e.on == g)) | none => true)
def okFrom (b : Nat) : Nat → List Oper → Bool
  | _, [] => true
  | i, o :: l => okOp b i o && okFrom b (i + 1) l
theorem okFrom.at {b : Nat} : ∀ {l : List Oper} {i : Nat}, okFrom b i l = true → ∀ {j : Nat} {o : Oper}, l[j]? = some o → okOp b (i + j) o = true
  | [], _, _, _, _, h => by simp at h
  | x :: l, i, h, j, o, hj => by
    unfold okFrom at h
    rw [Bool.and_eq_true] at h
    cases j with
    | zero => simp at hj; subst hj; exact h.1
    | succ j =>
      have := okFrom.at h.2 (j := j) (o := o) (by simpa using hj)
      rw [show i + (j + 1) = i + 1 + j by omega]; exact this
section
variable {ops : Array Oper} {b i : Nat} {listed : Array Bool}
theorem okOp.dst {o : Oper} (h : okOp b i o = true) : o.dst = some (b + i) := by
  unfold okOp at h; simp only [Bool.and_eq_true] at h; simpa using h.1.1.1.1
theorem okOp.looks (H : okFrom b 0 ops.toList = true) {o : Oper} (hi : ops[i]? = some o) {t : Nat} (ht : t ∈ o.looksAt ops) :
    t < b ∨ ∃ e ∈ o.after, Region.binds .any e = true ∧ e.on < i ∧ b + e.on = t := by
  have h := okFrom.at H (j := i) (o := o) (by simpa using hi)
  rw [Nat.zero_add] at h
  unfold okOp at h
  simp only [Bool.and_eq_true] at h
  obtain ⟨⟨⟨⟨_, _⟩, h3⟩, h4⟩, h5⟩ := h
  have lt : ∀ e ∈ o.after.toList, Region.binds .any e = true → e.on < i := fun e he hb => by
    have := List.all_eq_true.1 h3 e he
    simpa [hb] using this
  unfold Oper.looksAt at ht
  rw [List.mem_append] at ht
  rcases ht with ht | ht
  · obtain ⟨x, hx, hxt⟩ := List.mem_filterMap.1 ht
    have hq := List.all_eq_true.1 h4 x hx
    cases x with
    | tmp u =>
      simp only [Option.some.injEq] at hxt
      subst hxt
      simp only [Bool.or_eq_true, decide_eq_true_iff] at hq
      rcases hq with hq | hq
      · exact .inl hq
      · obtain ⟨e, he, hb⟩ := List.any_eq_true.1 hq
        simp only [Bool.and_eq_true, beq_iff_eq] at hb
        exact .inr ⟨e, by simpa using he, hb.1, lt e he hb.1, hb.2⟩
    | _ => simp at hxt
  · cases hg : o.guard with
    | none => rw [hg] at ht; simp at ht
    | some p =>
      obtain ⟨g, w⟩ := p
      rw [hg] at ht h5
      simp only at ht h5
      obtain ⟨e, he, hb⟩ := List.any_eq_true.1 h5
      simp only [Bool.and_eq_true, beq_iff_eq] at hb
      cases hog : ops[g]? with
      | none => rw [hog] at ht; simp at ht
      | some og =>
        have := okOp.dst (okFrom.at H (j := g) (o := og) (by simpa using hog))
        rw [hog] at ht
        simp [this] at ht
        exact .inr ⟨e, by simpa using he, hb.1, lt e he hb.1, by omega⟩
theorem okTake_of (H : okFrom b 0 ops.toList = true) (hl : ∀ j, j < ops.size → listed[j]? = some (decide (j < i))) (hi : i < ops.size) : okTake .any ops none listed i = true := by
  have gd : ∀ j (x : Bool), j < ops.size → listed.getD j x = decide (j < i) := fun j x hj => by rw [Array.getD_eq_getD_getElem?, hl j hj]; rfl
  have at_ : ∀ j, j < ops.size → ∃ o, ops[j]? = some o := fun j hj => ⟨_, Array.getElem?_eq_getElem hj⟩
  have ok : ∀ j o, ops[j]? = some o → okOp b j o = true := fun j o ho => by
    have := okFrom.at H (j := j) (o := o) (by simpa using ho)
    rwa [Nat.zero_add] at this
  unfold okTake
  simp only [Bool.and_eq_true]
  refine ⟨⟨⟨?_, ?_⟩, ?_⟩, rfl⟩
  · unfold Region.noSelect
    rw [Array.all_eq_true_iff_forall_mem]
    intro o ho
    obtain ⟨j, hj⟩ := Array.getElem?_of_mem ho
    have := ok j o hj
    unfold okOp at this
    simp only [Bool.and_eq_true] at this
    exact this.1.1.1.2
  · obtain ⟨oi, hoi⟩ := at_ i hi
    unfold Region.free
    rw [hoi]
    simp only
    rw [List.all_eq_true]
    intro j hj
    have hj := List.mem_range.1 hj
    obtain ⟨oj, hoj⟩ := at_ j hj
    rw [hoj, gd j true hj]
    by_cases h1 : j ≤ i
    · rcases Nat.lt_or_eq_of_le h1 with h | h
      · simp [h]
      · simp [h]
    · simp only [Bool.or_eq_true]
      by_cases h2 : ∃ e ∈ oj.after, Region.binds .any e = true ∧ e.on = i
      · obtain ⟨e, he, hb, ho⟩ := h2
        refine .inr (.inl (Array.any_eq_true'.2 ⟨e, he, by simp [hb, ho]⟩))
      · refine .inr (.inr ?_)
        have d1 := okOp.dst (ok i oi hoi)
        have d2 := okOp.dst (ok j oj hoj)
        unfold Oper.apart
        simp only [d1, d2, Bool.and_eq_true, Bool.not_eq_true', bne_iff_ne, ne_eq, Option.some.injEq]
        refine ⟨⟨?_, by omega⟩, ?_⟩
        · rw [← Bool.not_eq_true, List.contains_iff_mem]
          intro hm
          rcases okOp.looks H hoj hm with h | ⟨e, he, hb, _, ho⟩
          · omega
          · exact h2 ⟨e, he, hb, by omega⟩
        · rw [← Bool.not_eq_true, List.contains_iff_mem]
          intro hm
          rcases okOp.looks H hoi hm with h | ⟨e, he, hb, hlt, ho⟩ <;> omega
  · rw [List.contains_iff_mem]
    refine List.mem_filter.2 ⟨List.mem_range.2 hi, ?_⟩
    obtain ⟨oi, hoi⟩ := at_ i hi
    rw [hoi, gd i true hi]
    have := ok i oi hoi
    unfold okOp at this
    simp only [Bool.and_eq_true] at this
    have h3 := this.1.1.2
    simp only [Nat.lt_irrefl, decide_false, Bool.not_false, Bool.true_and, Option.map_some, Option.getD_some]
    rw [Array.all_eq_true_iff_forall_mem]
    intro e he
    have := List.all_eq_true.1 h3 e (by simpa using he)
    simp only [Bool.or_eq_true, decide_eq_true_iff] at this ⊢
    rcases this with h | h
    · exact .inl h
    · refine .inr ?_
      rw [gd e.on false (by omega)]
      exact decide_eq_true h
end
section
variable (P : Program) (c : Cx)
structure JLk (b : Nat) (ops : Array Oper) (i : Nat) (l : List Oper) (k : List Item) (f : Fm) (L : List Res) : Prop where
  go : okFrom b 0 ops.toList = true → ∀ listed : Array Bool, listed.size = ops.size → (∀ j, j < ops.size → listed[j]? = some (decide (j < i))) → ops.toList.drop i = l → JD P c ops none [] l.length listed k f L f L
end
section
variable {P : Program} {c : Cx} {k : List Item} {f : Fm} {L : List Res} {ops : Array Oper} {l : List Oper} {o : Oper} {b i t : Nat}
theorem J.look {id : Nat} (b : Nat) (hm : P.follows .mixedOrders = true) (hb : okFrom b 0 l = true) (h : JLk P c b l.toArray 0 l k f L) (hd : ndf c l = true := by rfl) : J P c (.code (.region id l.toArray true) :: k) f L :=
  J.draw hm rfl (JW.base none (h.go (by simpa using hb) _ (by simp) (fun j hj => by simp at hj; simp [hj]) rfl)) hd
theorem lst_set {listed : Array Bool} (hs : listed.size = ops.size) (hl : ∀ j, j < ops.size → listed[j]? = some (decide (j < i))) : ∀ j, j < ops.size → (listed.setIfInBounds i true)[j]? = some (decide (j < i + 1)) := fun j hj => by
  rw [Array.getElem?_setIfInBounds]
  by_cases h : i = j
  · subst h; simp [hs, hj]
  · rw [if_neg h, hl j hj]
    congr 1
    exact decide_eq_decide.2 (by omega)
theorem drop_cons (h : ops.toList.drop i = o :: l) : ops[i]? = some o ∧ ops.toList.drop (i + 1) = l ∧ i < ops.size := by
  have h1 : ops.toList[i]? = some o := by rw [← List.head?_drop, h]; rfl
  refine ⟨by simpa using h1, ?_, ?_⟩
  · rw [← List.tail_drop, h]; rfl
  · have := (List.getElem?_eq_some_iff.1 h1).1; simpa using this
theorem JLk.q {d : D} {U : List Nat} (hd : o.dst = some t) (hw : Wants ops o f = true) (ht : t < c.N) (q : Qt P c U o f L d) (h : JLk P c b ops (i + 1) l k ((t, d) :: f) L) : JLk P c b ops i (o :: l) k f L := ⟨fun H listed hs hl hdr => by
  obtain ⟨h1, h2, h3⟩ := drop_cons hdr
  exact JD.take i h1 hd (okTake_of H hl h3) hw ht q (by simp) (h.go H _ (by simpa using hs) (lst_set hs hl) h2)⟩
theorem JLk.no (hd : o.dst = some t) (hw : Wants0 ops o f = true) (ht : t < c.N) (h : JLk P c b ops (i + 1) l k ((t, .tup []) :: f) L) : JLk P c b ops i (o :: l) k f L := ⟨fun H listed hs hl hdr => by
  obtain ⟨h1, h2, h3⟩ := drop_cons hdr
  exact JD.skip i h1 hd (okTake_of H hl h3) hw ht (h.go H _ (by simpa using hs) (lst_set hs hl) h2)⟩
theorem JLk.nil (h : J P c k f L) : JLk P c b ops i [] k f L := ⟨fun H listed hs hl hdr => by
  refine JD.done ?_ h
  unfold Region.ready
  rw [List.filter_eq_nil_iff]
  intro j hj
  have hj := List.mem_range.1 hj
  have : ops.toList.length ≤ i := List.drop_eq_nil_iff.1 hdr
  have hi : j < i := by simp at this; omega
  rw [Array.getD_eq_getD_getElem?, hl j hj]
  simp [hi]⟩
end
end Fl
end Go.Proofs.YtbjnbngpjdoejaaDoor
namespace Go.Proofs.YtbjnbngpjdoejaaDoor
open Go.RowKit
set_option linter.unusedVariables false
set_option linter.unusedSimpArgs false
set_option linter.unnecessarySimpa false
namespace Fl
def strV (l : List UInt8) : Value := .string ⟨l.toArray⟩
abbrev sA (l : List UInt8) : A := .v (strV l)
section
variable {P : Program} {c : Cx} {f : Fm} {L : List Res} {T : TypeId} {ps : String} {af : Array Edge} {gd : Option (Nat × Bool)} {t : Nat}
theorem strV_app (l m : List UInt8) : (⟨l.toArray⟩ : ByteArray) ++ ⟨m.toArray⟩ = ⟨(l ++ m).toArray⟩ := by
  apply ByteArray.ext; simp
theorem strV_list (l : List UInt8) : (⟨l.toArray⟩ : ByteArray).toList = l := by
  rw [ByteArray.toList_eq]
theorem Qt.cat {x y : Operand} {X Y : Nat} {l m : List UInt8} (h : evD f x = some (.c (sA l))) (hy : evD f y = some (.c (sA m))) (hs : l.length + m.length ≤ 9223372036854775807) : Qt P c [] ⟨t, .binOp .add X x y Y, T, ps, af, gd⟩ f L (.c (sA (l ++ m))) := ⟨fun a w s => by
  have rx := s.val h
  have ry := s.val hy
  have hS : ¬ (9223372036854775807 : Int) < (l.length : Int) + (m.length : Int) := by omega
  have hM : IntKind.i64.max = 9223372036854775807 := rfl
  refine ⟨strV (l ++ m), by unfold RD RA; exact ⟨rfl, rfl⟩, fun w' k => ?_⟩
  simp only [strV] at rx ry ⊢
  rw [← strV_app]
  simp [execOp, rx, ry, eqGuard_at_string, binOp, Op.stringOp, Sem.run_bind, hM, ByteArray.size, hS]⟩
theorem Qt.strE {x y : Operand} {X Y : Nat} {l m : List UInt8} (h : evD f x = some (.c (sA l))) (hy : evD f y = some (.c (sA m))) : Qt P c [] ⟨t, .binOp .eql X x y Y, T, ps, af, gd⟩ f L (.c (.v (.bool (l == m)))) := ⟨fun a w s => by
  have rx := s.val h
  have ry := s.val hy
  refine ⟨.bool (l == m), by unfold RD RA; exact ⟨rfl, rfl⟩, fun w' k => ?_⟩
  simp only [strV] at rx ry
  simp [execOp, rx, ry, eqGuard_at_string, binOp, Op.stringOp, Sem.run_bind, strV_list]⟩
theorem Qt.strL {x : Operand} {X : Nat} {l : List UInt8} (h : evD f x = some (.c (sA l))) (hu : P.underlying X = some .string) : Qt P c [] ⟨t, .call ⟨.builtin .len, #[x], #[X]⟩, T, ps, af, gd⟩ f L (.c (.v (.int .i64 l.length))) := ⟨fun a w s => by
  have rx := s.val h
  refine ⟨.int .i64 l.length, by unfold RD RA; exact ⟨rfl, rfl⟩, fun w' k => ?_⟩
  simp only [strV] at rx
  simp [execOp, resolve, invoke, builtin, rx, Sem.run_bind, Builtin.len_, run_underlying hu, goInt]; simp [ByteArray.size]⟩
end
theorem Ld.litC {P : Program} {c : Cx} {f : Fm} {L : List Res} {T : TypeId} {ps : String} {af : Array Edge} {gd : Option (Nat × Bool)} {t X n : Nat} {parts : Array (Nat × Operand)} (e : Nat) (zs : List Value) (qs : List (Nat × Value)) (he : ∀ a : Act, parts.toList.map (fun p => (p.1, a.eval p.2)) = qs)
    (hr : ∀ w, (Instr.buildSlice X n qs.toArray).run P w = .ok (.slice (some ⟨w.heap.size, 0, none⟩) n n) (w.alloc (.cells zs.toArray e))) (ho : zs.all (·.oneCell') = true) (hn : zs.length = n) (hm : Nat.ble n 1000 = true) (ht : t < c.N) :
    Ld P c ⟨some t, .buildSlice X n parts, T, ps, af, gd⟩ f L [] (fun b : Nat => (t, .c (.v (.slice (some ⟨b, 0, none⟩) n n))) :: f) (fun b => .row (.slice (some ⟨b, 0, none⟩) n n) e 1 (zs.map fun z => [.v z]) :: L) := ⟨fun a w s K Q hK => by
  have hk : Keeps [] w (w.alloc (.cells zs.toArray e)) := (Keeps.refl [] w).alloc _
  have hm' := Nat.le_of_ble_eq_true hm
  subst hn
  have hrun : (execOp a.eval ⟨some t, .buildSlice X zs.length parts, T, ps, af, gd⟩).run P w = .ok (.value (.slice (some ⟨w.heap.size, 0, none⟩) zs.length zs.length)) (w.alloc (.cells zs.toArray e)) := by
    have e1 := hr w
    have e2 : parts.map (fun p => (p.1, a.eval p.2)) = qs.toArray := by
      rw [← he a]
      apply Array.ext'
      simp
    rw [← e2] at e1
    simp only [execOp, Sem.run_bind, e1, Result.andThen_ok, Sem.run_pure]
  unfold Oper.wp
  rw [hrun]
  have hf : ∀ y ∈ (Res.row (.slice (some ⟨w.heap.size, 0, none⟩) zs.length zs.length) e 1 (zs.map fun z => [.v z])).foot, w.heap.size ≤ y := by simp [Res.foot, vfoot]
  refine hK w.heap.size _ _ hk (s.new ht hk hf ⟨zs, ?_, ?_⟩ (by unfold RD RA; exact ⟨rfl, rfl⟩)) (foots_new hf)
  · have := Row.lit w zs e 1 zs.length (by simp) (by simp [maxLen]; omega)
    simpa [vfoot] using this
  · have key : ∀ (ok : Nat → Prop) (w : World) (l : List Value), l.all (·.oneCell') = true → RX ok w 1 (l.map fun z => [A.v z]) l := by
      intro ok w l
      induction l with
      | nil => intro _; rfl
      | cons z l ih =>
        intro h
        simp only [List.all_cons, Bool.and_eq_true] at h
        exact ⟨[z], l, rfl, rfl, RC.cons (RA.w h.1) RC.nil, ih h.2⟩
    exact key _ _ zs ho⟩
/-! ### what is asked of the world -/
structure ConW (H : World → Prop) (P : Program) (F : FuncId) (ds : List D) (L : List Res) {ι : Type} (post : ι → D × List Res) : Prop where
  go : ∀ (ok : Nat → Prop) (e : World) (xs : List Value), H e → RDs ok e ds xs → (∀ r ∈ L, r.holds ok e) → Apart L → (∀ x ∈ foots L, ¬ ok x) → Calls P F xs.toArray e (SomeR ok e L post)
abbrev PureW (H : World → Prop) (P : Program) (F : FuncId) (ds : List D) (d : D) : Prop := ConW H P F ds [] (fun _ : Unit => (d, []))
section
variable {P : Program} {F : FuncId} {ds : List D} {L : List Res} {ι : Type} {post : ι → D × List Res} {fn : Func} {body : Code} {N : Nat}
theorem ConW.intro {H : World → Prop} (hf : P.funcs[F]? = some fn) (hb : fn.body = some body) (hN : fn.ntmps = N) (hn : Nat.ble ds.length N = true)
    (h : ∀ ok e, H e → J P (cx F ok e L post N) [.code body] (frm0 0 ds) L) : ConW H P F ds L post := ⟨fun ok e xs hH hd hr ha ho cs => by
  have hlen := hd.len
  have hn' : ds.length ≤ N := Nat.le_of_ble_eq_true hn
  let b : Frame := { (default : Frame) with fn := F, kind := .normal }
  have henter : Frame.enter P F xs.toArray .normal = b.at { tmps := xs.toArray ++ Array.replicate (fn.ntmps - xs.toArray.size) undef, defers := [] } [.code body] := by
    simp [Frame.enter, Frame.at, hf, hb, b]
  have m : Mon ok (okk (cx F ok e L post N) L) e e := ⟨Nat.le_refl _, fun g _ hg => ⟨⟨.inl hg, fun hx => ho g hx hg⟩, rfl⟩⟩
  have hst : St (cx F ok e L post N) (frm0 0 ds) L { tmps := xs.toArray ++ Array.replicate (fn.ntmps - xs.toArray.size) undef, defers := [] } e := by
    refine ⟨Keeps.refl _ _, by simp [cx]; omega, rfl, fun r hr' => (hr r hr').mon (Keeps.refl [] e) m (by simp), fun x hx => .inl hx, ha, fun t d ht => ?_⟩
    obtain ⟨_, h2⟩ := look_frm0 ds 0 t d ht
    rw [Nat.sub_zero] at h2
    obtain ⟨x, hx, hx2⟩ := hd.get t h2
    have hlt := (List.getElem?_eq_some_iff.1 hx).1
    have : (xs.toArray ++ Array.replicate (fn.ntmps - xs.toArray.size) undef).getD t undef = x := by
      rw [Array.getD_eq_getD_getElem?, Array.getElem?_append_left (by simpa using hlt)]
      simp [hx]
    rw [this]
    exact RD.mon m d _ hx2
  obtain ⟨en, w', fr, h1, h2, h3, h4⟩ := (h ok e hH).go _ e hst b cs rfl rfl rfl
  exact ⟨en, w', fr, h1, by rw [henter]; exact h2, h3, h4⟩⟩
end
section
variable {P : Program} {c : Cx} {f : Fm} {L : List Res} {T : TypeId} {ps : String} {af : Array Edge} {gd : Option (Nat × Bool)} {t : Nat} {X : Nat}
theorem Ld.callW {H : World → Prop} {F : FuncId} {args : List Operand} {tys : Array TypeId} {ds0 ds : List D} {Ll Lr : List Res} {ι : Type} {post : ι → D × List Res} [i : TyC P F] (hH : ∀ w, Keeps c.lent c.e w → H w) (hC : ConW H P F ds Ll post) (ht : t < c.N) (h : evDs f args = some ds0) (hle : LeDs ds0 ds) (hL : L = Ll ++ Lr) :
    Ld P c ⟨some t, .call ⟨.value (.func F), args.toArray, tys⟩, T, ps, af, gd⟩ f L (foots Ll) (fun i => (t, (post i).1) :: f) (fun i => (post i).2 ++ Lr) := ⟨fun a w s K Q hK => by
  have hev := hle.rep (s.evs h)
  have hop : (execOp a.eval ⟨some t, .call ⟨.value (.func F), args.toArray, tys⟩, T, ps, af, gd⟩).run P w = .ok (.enter F (args.map a.eval).toArray) w := by
    simp [execOp, resolve, Deferred.ofValue, invoke, Act.eval, Sem.run_bind, run_enter i.h]
  unfold Oper.wp
  rw [hop]
  have hap := List.pairwise_append.1 (show List.Pairwise _ (Ll ++ Lr) from hL ▸ s.ap)
  have hinl : ∀ r ∈ Ll, r ∈ L := fun r hr => hL ▸ List.mem_append_left Lr hr
  have hinr : ∀ r ∈ Lr, r ∈ L := fun r hr => hL ▸ List.mem_append_right Ll hr
  have hfl : ∀ x, x ∈ foots Ll → x ∈ foots L := fun x hx => by rw [hL, foots_app]; exact .inl hx
  have hfr : ∀ x, x ∈ foots Lr → x ∈ foots L := fun x hx => by rw [hL, foots_app]; exact .inr hx
  have hlr : ∀ x, x ∈ foots Ll → x ∉ foots Lr := fun x hx hx' => by
    obtain ⟨q, hq, h1⟩ := mem_foots.1 hx
    obtain ⟨r, hr, h2⟩ := mem_foots.1 hx'
    exact hap.2.2 q hq r hr x h1 h2
  refine Calls.mono (hC.go (okk c L) w (args.map a.eval) (hH w s.kp) hev (fun r hr => s.res r (hinl r hr)) hap.1 (fun x hx ho => ho.2 (hfl x hx))) ?_
  rintro en w' ⟨i, x, rfl, kp, g1, g2, g3, g4⟩
  have hok : ∀ g, g < w'.heap.size → okr (okk c L) w Ll (post i).2 g → okk c ((post i).2 ++ Lr) g := fun g _ hg => by
    obtain ⟨hg, hn⟩ := hg
    rcases hg with hg | hg | hg
    · exact ⟨hg.1, fun hx => by rcases (foots_app _ _ _).1 hx with hx | hx; exact hn hx; exact hg.2 (hfr g hx)⟩
    · exact ⟨.inr (s.frm g (hfl g hg)), fun hx => by rcases (foots_app _ _ _).1 hx with hx | hx; exact hn hx; exact hlr g hg hx⟩
    · exact ⟨.inr (.inr (Nat.le_trans s.kp.size hg)), fun hx => by
        rcases (foots_app _ _ _).1 hx with hx | hx
        · exact hn hx
        · have := s.lt g (hfr g hx); omega⟩
  have m1 : Mon (okr (okk c L) w Ll (post i).2) (okk c ((post i).2 ++ Lr)) w' w' := ⟨Nat.le_refl _, fun g hg ho => ⟨hok g hg ho, rfl⟩⟩
  have hpl : ∀ y, y ∈ foots (post i).2 → y ∈ foots Ll ∨ w.heap.size ≤ y := g1
  have m2 : Mon (okk c L) (okk c ((post i).2 ++ Lr)) w w' := Mon.of_keeps kp fun g hg ho => ⟨⟨ho.1, fun hx => by
    rcases (foots_app _ _ _).1 hx with hx | hx
    · rcases hpl g hx with h | h
      · exact ho.2 (hfl g h)
      · omega
    · exact ho.2 (hfr g hx)⟩, fun hx => ho.2 (hfl g hx)⟩
  refine hK i _ _ kp (s.put ht (RD.mon m1 _ _ g4) (s.kp.trans kp (fun x hx => s.frm x (hfl x hx))) ?_ ?_ ?_ m2) (fun y hy => by
    rcases (foots_app _ _ _).1 hy with hy | hy
    · rcases hpl y hy with h | h
      · exact .inl (hfl y h)
      · exact .inr h
    · exact .inl (hfr y hy))
  · intro q hq
    rcases List.mem_append.1 hq with hq | hq
    · exact (g3 q hq).mon (Keeps.refl [] w') m1 (by simp)
    · exact (s.res q (hinr q hq)).mon kp m2 (fun x hx hx' => hlr x hx' (mem_foots.2 ⟨q, hq, hx⟩))
  · intro x hx
    rcases (foots_app _ _ _).1 hx with hx | hx
    · rcases hpl x hx with h | h
      · exact s.frm x (hfl x h)
      · exact .inr (Nat.le_trans s.kp.size h)
    · exact s.frm x (hfr x hx)
  · refine List.pairwise_append.2 ⟨g2, hap.2.1, fun q hq r hr x hx hx' => ?_⟩
    have hxr : x ∈ foots Lr := mem_foots.2 ⟨r, hr, hx'⟩
    rcases hpl x (mem_foots.2 ⟨q, hq, hx⟩) with h | h
    · exact hlr x h hxr
    · have := s.lt x (hfr x hxr); omega⟩
theorem Ld.pureW {H : World → Prop} {F : FuncId} {args : List Operand} {tys : Array TypeId} {ds0 ds : List D} {d : D} [i : TyC P F] (hH : ∀ w, Keeps c.lent c.e w → H w) (hC : PureW H P F ds d) (ht : t < c.N) (h : evDs f args = some ds0) (hle : LeDs ds0 ds) :
    Ld P c ⟨some t, .call ⟨.value (.func F), args.toArray, tys⟩, T, ps, af, gd⟩ f L [] (fun _ : Unit => (t, d) :: f) (fun _ => L) := Ld.callW hH hC ht h hle (Ll := []) (Lr := L) rfl
theorem PureW.plain {H : World → Prop} {F : FuncId} {ds : List D} {d : D} (h : ∀ ok e xs, H e → RDs ok e ds xs → Calls P F xs.toArray e fun en w' => ∃ x, en = .returned x ∧ Keeps [] e w' ∧ RD (fun g => ok g ∨ e.heap.size ≤ g) w' d x) : PureW H P F ds d := ⟨fun ok e xs hH hd _ _ _ => by
  refine Calls.mono (h ok e xs hH hd) ?_
  rintro en w' ⟨x, rfl, kp, hx⟩
  refine ⟨(), x, rfl, by simpa [foots] using kp, by simp [foots], List.Pairwise.nil, by simp, ?_⟩
  have : okr ok e [] [] = fun g => ok g ∨ e.heap.size ≤ g := by
    funext g; unfold okr; simp [foots]
  rw [this]; exact hx⟩
end
end Fl
end Go.Proofs.YtbjnbngpjdoejaaDoor
