/-
  The program's parts as things, its world, dice, Clone, State.
  Conditions: none.
-/
import Derived.Test.YtofnbflkhgammaaFlB
import Derived.Test.YtofnbflkhgammaaFsb
import Derived.Test.YtofnbflkhgammaaBenchX
import Derived.Test.YtofnbflkhgammaaLatchX
import Derived.Test.YtofnbflkhgammaaQueueE
import Derived.Test.YtofnbflkhgammaaPoolD
import Derived.Test.YtofnbflkhgammaaPoolE
import Derived.Test.YtofnbflkhgammaaRingX
/- Fp1 -/
namespace Go.Proofs.Ytofnbflkhgammaa
open Go.RowKit
set_option linter.unusedVariables false
set_option linter.unusedSimpArgs false
set_option linter.unnecessarySimpa false
namespace Fl
theorem set_perm {r r' : Res} : ∀ {L : List Res} {j : Nat}, L[j]? = some r → (L.set j r').Perm (r' :: L.eraseIdx j)
  | [], j, h => by simp at h
  | q :: L, 0, h => by simp
  | q :: L, j + 1, h => by
    simp at h
    simp only [List.set_cons_succ, List.eraseIdx_cons_succ]
    exact ((set_perm h).cons q).trans (List.Perm.swap r' q _)
section
variable {P : Program} {c : Cx} {k : List Item} {f : Fm} {L : List Res} {ops : Array Oper} {l : List Oper} {o : Oper} {T : TypeId} {ps : String} {af : Array Edge} {gd : Option (Nat × Bool)} {t : Nat}
/-- a call of a function that has number j of what is owned -/
theorem Ld.call1 (j : Nat) {F : FuncId} {args : List Operand} {tys : Array TypeId} {ds0 ds : List D} {r : Res} {ι : Type} {dd : ι → D} {r' : ι → Res} {L' : ι → List Res} [i : TyC P F] (hC : Con P F ds [r] (fun x => (dd x, [r' x]))) (hj : L[j]? = some r) (ht : t < c.N) (h : evDs f args = some ds0) (hle : LeDs ds0 ds) (hL : ∀ x, L.set j (r' x) = L' x) :
    Ld P c ⟨some t, .call ⟨.value (.func F), args.toArray, tys⟩, T, ps, af, gd⟩ f L r.foot (fun x => (t, dd x) :: f) L' := ⟨fun a w s K Q hK => by
  have hp := pull_perm L j hj
  have h1 := Ld.call (P := P) (c := c) (T := T) (ps := ps) (af := af) (gd := gd) (L := r :: L.eraseIdx j) (f := f) (tys := tys) hC ht h hle (Ll := [r]) (Lr := L.eraseIdx j) rfl
  refine h1.go a w (s.perm hp) K Q fun x v w' kp sx hf => ?_
  have hq := set_perm (r' := r' x) hj
  rw [hL] at hq
  refine hK x v w' (by simpa [foots] using kp) (sx.perm hq) fun y hy => ?_
  rcases hf y ((foots_perm hq y).1 hy) with h | h
  · exact .inl ((foots_perm hp y).1 h)
  · exact .inr h⟩
end
/-- where something lies among what is owned -/
class ResAt (L : List Res) (r : Res) (j : outParam Nat) : Prop where h : L[j]? = some r
instance ResAt.succ {q r : Res} {M : List Res} {j : Nat} [h : ResAt M r j] : ResAt (q :: M) r (j + 1) := ⟨by simpa using h.h⟩
instance ResAt.zero {r : Res} {M : List Res} : ResAt (r :: M) r 0 := ⟨rfl⟩
section
variable {P : Program} {c : Cx} {k : List Item} {f : Fm} {L : List Res} {ops : Array Oper} {l : List Oper} {o : Oper} {T : TypeId} {ps : String} {af : Array Edge} {gd : Option (Nat × Bool)} {t : Nat}
theorem Ld.callT {F : FuncId} {args : List Operand} {tys : Array TypeId} {ds0 ds : List D} {r : Res} {j : Nat} {ι : Type} {dd : ι → D} {r' : ι → Res} {L' : ι → List Res} [i : TyC P F] (hC : Con P F ds [r] (fun x => (dd x, [r' x]))) [hj : ResAt L r j] [hL : ∀ x, SetAt L j (r' x) (L' x)] (ht : t < c.N) (h : evDs f args = some ds0) (hle : LeDs ds0 ds) :
    Ld P c ⟨some t, .call ⟨.value (.func F), args.toArray, tys⟩, T, ps, af, gd⟩ f L r.foot (fun x => (t, dd x) :: f) L' := Ld.call1 j hC hj.h ht h hle fun x => (hL x).h
/-- a call of a function that has all that is owned -/
theorem Ld.callA {F : FuncId} {args : List Operand} {tys : Array TypeId} {ds0 ds : List D} {ι : Type} {dd : ι → D} {L' : ι → List Res} [i : TyC P F] (hC : Con P F ds L (fun x => (dd x, L' x))) (ht : t < c.N) (h : evDs f args = some ds0) (hle : LeDs ds0 ds) :
    Ld P c ⟨some t, .call ⟨.value (.func F), args.toArray, tys⟩, T, ps, af, gd⟩ f L (foots L) (fun x => (t, dd x) :: f) L' := ⟨fun a w s K Q hK =>
  (Ld.call (P := P) (c := c) (T := T) (ps := ps) (af := af) (gd := gd) (tys := tys) hC ht h hle (Ll := L) (Lr := []) (by simp)).go a w s K Q fun x v w' kp sx hf => hK x v w' kp (by simpa using sx) (by simpa using hf)⟩
end
section
variable {P : Program} {F : FuncId} {ok : Nat → Prop} {e : World} {L0 L : List Res} {ι : Type} {post : ι → D × List Res} {fn : Func} {N : Nat} {f : Fm} {k : List Item}
theorem range_get (L : List Res) : (List.range L.length).map (fun i => L[i]?) = L.map some := by
  apply List.ext_getElem?
  intro i
  rw [List.getElem?_map, List.getElem?_map]
  by_cases h : i < L.length
  · rw [List.getElem?_range h, List.getElem?_eq_getElem h]; simp [List.getElem?_eq_getElem h]
  · rw [List.getElem?_eq_none (by simpa using h), List.getElem?_eq_none (by omega)]; rfl
/-- the end: all that is owned is handed back -/
theorem J.retA (hf : P.funcs[F]? = some fn) {rs : List ResultVar} {ds : List D} (hres : fn.results = rs.toArray) (h : ResDs P f L rs ds) {d : D} (i : ι) (hle : LeD (oneD ds) d) (hp : post i = (d, L)) : J P (cx F ok e L0 post N) (.code .ret :: k) f L :=
  J.ret hf hres h i hle (List.range L.length) List.nodup_range (range_get L) hp
theorem J.finA (hf : P.funcs[F]? = some fn) {rs : List ResultVar} {ds : List D} (hres : fn.results = rs.toArray) (h : ResDs P f L rs ds) {d : D} (i : ι) (hle : LeD (oneD ds) d) (hp : post i = (d, L)) : J P (cx F ok e L0 post N) [] f L :=
  J.fin hf hres h i hle (List.range L.length) List.nodup_range (range_get L) hp
theorem range_getE (E L : List Res) : ((List.range L.length).map (· + E.length)).map (fun i => (E ++ L)[i]?) = L.map some := by
  rw [List.map_map, ← range_get L]
  refine List.map_congr_left fun i _ => ?_
  simp only [Function.comp]
  rw [List.getElem?_append_right (by omega)]
  congr 1; omega
/-- the end: what stands behind the first ones is handed back -/
theorem J.retE (E : List Res) {L' : List Res} (hL : L = E ++ L') (hf : P.funcs[F]? = some fn) {rs : List ResultVar} {ds : List D} (hres : fn.results = rs.toArray) (h : ResDs P f L rs ds) {d : D} (i : ι) (hle : LeD (oneD ds) d) (hp : post i = (d, L')) : J P (cx F ok e L0 post N) (.code .ret :: k) f L := by
  subst hL
  exact J.ret hf hres h i hle ((List.range L'.length).map (· + E.length)) (List.pairwise_map.2 (List.nodup_range.imp (fun h e => h (by omega)))) (range_getE E L') hp
theorem J.finE (E : List Res) {L' : List Res} (hL : L = E ++ L') (hf : P.funcs[F]? = some fn) {rs : List ResultVar} {ds : List D} (hres : fn.results = rs.toArray) (h : ResDs P f L rs ds) {d : D} (i : ι) (hle : LeD (oneD ds) d) (hp : post i = (d, L')) : J P (cx F ok e L0 post N) [] f L := by
  subst hL
  exact J.fin hf hres h i hle ((List.range L'.length).map (· + E.length)) (List.pairwise_map.2 (List.nodup_range.imp (fun h e => h (by omega)))) (range_getE E L') hp
end
/-- a predicate that stays where nothing is written -/
structure Thing (Φ : World → List Nat → Prop) : Prop where
  keep : ∀ {w w' : World} {S T : List Nat}, Φ w S → Keeps T w w' → (∀ x ∈ S, x ∉ T) → Φ w' S
  lt : ∀ {w : World} {S : List Nat}, Φ w S → ∀ x ∈ S, x < w.heap.size
def thing (Φ : World → List Nat → Prop) (S : List Nat) : Res := .obj S (fun w => Φ w S)
theorem thing.holds {Φ : World → List Nat → Prop} (h : Thing Φ) {ok : Nat → Prop} {w : World} {S : List Nat} : (thing Φ S).holds ok w ↔ Φ w S := by
  constructor
  · rintro ⟨h1, h2⟩; exact h2 w [] (Keeps.refl _ _) (by simp)
  · intro h1; exact ⟨h.lt h1, fun w' S' k hn => h.keep h1 k hn⟩
section
variable {P : Program} {F : FuncId} {ds : List D}
/-- a contract of a function that has one thing -/
theorem Con.thing {Φ : World → List Nat → Prop} {S : List Nat} {ι : Type} {Ψ : ι → World → List Nat → Prop} {S' : ι → List Nat} {d : ι → D} (hΦ : Thing Φ) (hΨ : ∀ i, Thing (Ψ i))
    (h : ∀ ok e xs, RDs ok e ds xs → Φ e S → Calls P F xs.toArray e fun en w' => ∃ i x, en = .returned x ∧ Keeps S e w' ∧ (∀ y ∈ S' i, y ∈ S ∨ e.heap.size ≤ y) ∧ Ψ i w' (S' i) ∧ RD (fun g => (ok g ∨ g ∈ S ∨ e.heap.size ≤ g) ∧ g ∉ S' i) w' (d i) x) :
    Con P F ds [Fl.thing Φ S] (fun i => (d i, [Fl.thing (Ψ i) (S' i)])) := ⟨fun ok e xs hd hr _ _ => by
  have h1 := (thing.holds hΦ).1 (hr _ (List.mem_singleton.2 rfl))
  refine Calls.mono (h ok e xs hd h1) ?_
  rintro en w' ⟨i, x, rfl, kp, hs, hp, hx⟩
  have fe : ∀ (Φ : World → List Nat → Prop) (S : List Nat), foots [Fl.thing Φ S] = S := fun Φ S => by simp [foots, Fl.thing, Res.foot]
  refine ⟨i, x, rfl, by rw [fe]; exact kp, by rw [fe, fe]; exact hs, List.pairwise_singleton _ _, fun r hr => ?_, ?_⟩
  · rw [List.mem_singleton.1 hr]; exact (thing.holds (hΨ i)).2 hp
  · have : okr ok e [Fl.thing Φ S] [Fl.thing (Ψ i) (S' i)] = fun g => (ok g ∨ g ∈ S ∨ e.heap.size ≤ g) ∧ g ∉ S' i := by
      funext g; unfold okr; rw [fe, fe]
    rw [this]; exact hx⟩
/-- the same blocks -/
theorem Con.thing1 {Φ Ψ : World → List Nat → Prop} {S : List Nat} {d : D} (hΦ : Thing Φ) (hΨ : Thing Ψ)
    (h : ∀ ok e xs, RDs ok e ds xs → Φ e S → Calls P F xs.toArray e fun en w' => ∃ x, en = .returned x ∧ Keeps S e w' ∧ Ψ w' S ∧ RD (fun g => (ok g ∨ g ∈ S ∨ e.heap.size ≤ g) ∧ g ∉ S) w' d x) :
    Con P F ds [Fl.thing Φ S] (fun _ : Unit => (d, [Fl.thing Ψ S])) :=
  Con.thing (ι := Unit) (Ψ := fun _ => Ψ) (S' := fun _ => S) (d := fun _ => d) hΦ (fun _ => hΨ) fun ok e xs hd hp => by
    refine Calls.mono (h ok e xs hd hp) ?_
    rintro en w' ⟨x, h1, h2, h3, h4⟩
    exact ⟨(), x, h1, h2, fun y hy => .inl hy, h3, h4⟩
/-- a function that only reckons, or makes memory -/
theorem Con.plain {d : D} (h : ∀ ok e xs, RDs ok e ds xs → Calls P F xs.toArray e fun en w' => ∃ x, en = .returned x ∧ Keeps [] e w' ∧ RD (fun g => ok g ∨ e.heap.size ≤ g) w' d x) : Pure P F ds d := ⟨fun ok e xs hd _ _ _ => by
  refine Calls.mono (h ok e xs hd) ?_
  rintro en w' ⟨x, rfl, kp, hx⟩
  refine ⟨(), x, rfl, by simpa [foots] using kp, by simp [foots], List.Pairwise.nil, by simp, ?_⟩
  have : okr ok e [] [] = fun g => ok g ∨ e.heap.size ≤ g := by
    funext g; unfold okr; simp [foots]
  rw [this]; exact hx⟩
end
/-- what a slot holds, read back -/
theorem RDs.v1 {ok : Nat → Prop} {w : World} {v : Value} {xs : List Value} (h : RDs ok w [.c (.v v)] xs) : xs = [v] := by
  unfold RDs at h; obtain ⟨x, ys, rfl, h1, h2⟩ := h
  unfold RDs at h2; unfold RD RA at h1
  rw [h2, h1.1]
theorem RDs.cv {ok : Nat → Prop} {w : World} {v : Value} {ds : List D} {xs : List Value} (h : RDs ok w (.c (.v v) :: ds) xs) : ∃ ys, xs = v :: ys ∧ RDs ok w ds ys := by
  unfold RDs at h; obtain ⟨x, ys, rfl, h1, h2⟩ := h
  unfold RD RA at h1
  exact ⟨ys, by rw [h1.1], h2⟩
theorem RDs.v2 {ok : Nat → Prop} {w : World} {u v : Value} {xs : List Value} (h : RDs ok w [.c (.v u), .c (.v v)] xs) : xs = [u, v] := by
  obtain ⟨ys, e1, h1⟩ := h.cv; rw [e1, h1.v1]
theorem RDs.v3 {ok : Nat → Prop} {w : World} {t u v : Value} {xs : List Value} (h : RDs ok w [.c (.v t), .c (.v u), .c (.v v)] xs) : xs = [t, u, v] := by
  obtain ⟨ys, e1, h1⟩ := h.cv; rw [e1, h1.v2]
theorem RDs.v4 {ok : Nat → Prop} {w : World} {s t u v : Value} {xs : List Value} (h : RDs ok w [.c (.v s), .c (.v t), .c (.v u), .c (.v v)] xs) : xs = [s, t, u, v] := by
  obtain ⟨ys, e1, h1⟩ := h.cv; rw [e1, h1.v3]
theorem RDs.nil_ {ok : Nat → Prop} {w : World} {xs : List Value} (h : RDs ok w [] xs) : xs = [] := by unfold RDs at h; exact h
theorem RD.v {ok : Nat → Prop} {w : World} {v : Value} (h : v.oneCell' = true) : RD ok w (.c (.v v)) v := by unfold RD RA; exact ⟨rfl, h⟩
theorem RD.tup0 {ok : Nat → Prop} {w : World} : RD ok w (.tup []) (.tuple #[]) := by unfold RD; exact ⟨[], rfl, RDs.nil⟩
theorem RD.tup2 {ok : Nat → Prop} {w : World} {v u : Value} (h : v.oneCell' = true) (k : u.oneCell' = true) : RD ok w (.tup [.c (.v v), .c (.v u)]) (.tuple #[v, u]) := by unfold RD; exact ⟨[v, u], rfl, RDs.cons (RD.v h) (RDs.cons (RD.v k) RDs.nil)⟩
/-- numbers that are read -/
theorem RX.ints {ok : Nat → Prop} {w : World} : ∀ (l : List Int), RX ok w 1 (l.map fun n => [A.v (.int .i64 n)]) (l.map (Value.int .i64))
  | [] => rfl
  | n :: l => ⟨[.int .i64 n], l.map (Value.int .i64), rfl, rfl, RC.cons (by unfold RA; exact ⟨rfl, rfl⟩) RC.nil, RX.ints l⟩
theorem RA.ints {ok : Nat → Prop} {w : World} {v : Value} {l : List Int} {S : List Nat} (h : IV w v l S) (hs : ∀ x ∈ S, ok x) : RA ok w (.r 1 (l.map fun n => [A.v (.int .i64 n)])) v :=
  RA.of_view (ys := l.map (Value.int .i64)) (S := S) (by rw [List.length_map]; exact h) (RX.ints l) hs
theorem RX.ints_inv {ok : Nat → Prop} {w : World} : ∀ {l : List Int} {xs : List Value}, RX ok w 1 (l.map fun n => [A.v (.int .i64 n)]) xs → xs = l.map (Value.int .i64)
  | [], xs, h => h
  | n :: l, xs, h => by
    obtain ⟨vs, ys, rfl, h2, h3, h4⟩ := h
    have := RX.ints_inv h4
    unfold RC at h3
    obtain ⟨x, zs, rfl, h5, h6⟩ := h3
    unfold RC at h6
    unfold RA at h5
    rw [h6, h5.1, this]; rfl
theorem IV.of_RA {ok : Nat → Prop} {w : World} {v : Value} {l : List Int} (h : RA ok w (.r 1 (l.map fun n => [A.v (.int .i64 n)])) v) : ∃ S, IV w v l S ∧ ∀ x ∈ S, ok x := by
  obtain ⟨ys, S, h1, h2, h3⟩ := h.view
  refine ⟨S, ?_, h3⟩
  rw [RX.ints_inv h2, List.length_map] at h1
  exact h1
end Fl
end Go.Proofs.Ytofnbflkhgammaa
/- Fp2 -/
namespace Go.Proofs.Ytofnbflkhgammaa
open Go.RowKit
set_option linter.unusedVariables false
set_option linter.unusedSimpArgs false
set_option linter.unnecessarySimpa false
namespace Fl
/-! ### bench -/
def tB (p : Value) (l : List (Int × Bool)) (w : World) (S : List Nat) : Prop := Bn w p l S
theorem tB.ok {p : Value} {l : List (Int × Bool)} : Thing (tB p l) := ⟨fun h k hn => h.keep k hn, fun h => h.lt⟩
theorem b_status (p : Value) (l : List (Int × Bool)) (S : List Nat) (i : Int) : Con Try.prog 27 [.c (.v p), .c (nI i)] [thing (tB p l) S] (fun _ : Unit => (.c (nI (Bc.status l i)), [thing (tB p l) S])) :=
  Con.thing1 tB.ok tB.ok fun ok e xs hd h => by
    obtain rfl := hd.v2
    refine (bench_status e p l S i h).mono ?_
    rintro en w' ⟨rfl, rfl⟩
    exact ⟨_, rfl, Keeps.refl _ _, h, RD.v rfl⟩
theorem b_token (p : Value) (l : List (Int × Bool)) (S : List Nat) (i : Int) : Con Try.prog 28 [.c (.v p), .c (nI i)] [thing (tB p l) S] (fun _ : Unit => (.c (bI (Bc.token l i)), [thing (tB p l) S])) :=
  Con.thing1 tB.ok tB.ok fun ok e xs hd h => by
    obtain rfl := hd.v2
    refine (bench_token e p l S i h).mono ?_
    rintro en w' ⟨rfl, rfl⟩
    exact ⟨_, rfl, Keeps.refl _ _, h, RD.v rfl⟩
/-- a new bench -/
theorem b_new (n : Int) : Con Try.prog 12 [.c (nI n)] [] (fun x : Value × List Nat => (.c (.v x.1), [thing (tB x.1 (Bc.newL n)) x.2])) := ⟨fun ok e xs hd _ _ _ => by
  obtain rfl := hd.v1
  refine (bench_new e n).mono ?_
  rintro en w' ⟨p, S, rfl, h1, h2, h3⟩
  refine ⟨(p, S), p, rfl, by simpa [foots] using h1, fun y hy => .inr (h3 y (by simpa [foots, thing, Res.foot] using hy)), List.pairwise_singleton _ _, fun r hr => ?_, ?_⟩
  · rw [List.mem_singleton.1 hr]; exact (thing.holds tB.ok).2 h2
  · obtain ⟨b, rfl⟩ := h2.shape; exact RD.v rfl⟩
/-! ### latches -/
def tL (p : Value) (l : List Int) (w : World) (S : List Nat) : Prop := Lat w p l S
theorem tL.ok {p : Value} {l : List Int} : Thing (tL p l) := ⟨fun h k hn => h.keep k hn, fun h => h.lt⟩
theorem l_owner (p : Value) (l : List Int) (S : List Nat) (i : Int) : Con Try.prog 32 [.c (.v p), .c (nI i)] [thing (tL p l) S] (fun _ : Unit => (.c (nI (Lt.owner l i)), [thing (tL p l) S])) :=
  Con.thing1 tL.ok tL.ok fun ok e xs hd h => by
    obtain rfl := hd.v2
    refine (latch_owner e p l S i h).mono ?_
    rintro en w' ⟨rfl, rfl⟩
    exact ⟨_, rfl, Keeps.refl _ _, h, RD.v rfl⟩
theorem l_new (n : Int) : Con Try.prog 13 [.c (nI n)] [] (fun x : Value × List Nat => (.c (.v x.1), [thing (tL x.1 (Lt.newL n)) x.2])) := ⟨fun ok e xs hd _ _ _ => by
  obtain rfl := hd.v1
  refine (latch_new e n).mono ?_
  rintro en w' ⟨p, S, rfl, h1, h2, h3⟩
  refine ⟨(p, S), p, rfl, by simpa [foots] using h1, fun y hy => .inr (h3 y (by simpa [foots, thing, Res.foot] using hy)), List.pairwise_singleton _ _, fun r hr => ?_, ?_⟩
  · rw [List.mem_singleton.1 hr]; exact (thing.holds tL.ok).2 h2
  · obtain ⟨b, rfl⟩ := h2.shape; exact RD.v rfl⟩
end Fl
end Go.Proofs.Ytofnbflkhgammaa
/- Fp3 -/
namespace Go.Proofs.Ytofnbflkhgammaa
open Go.RowKit
set_option linter.unusedVariables false
set_option linter.unusedSimpArgs false
set_option linter.unnecessarySimpa false
namespace Fl
/-! ### queues -/
def tQ (p : Value) (n : Nat) (R : List (List Int)) (w : World) (S : List Nat) : Prop := Qq w p n R S
theorem tQ.ok {p : Value} {n : Nat} {R : List (List Int)} : Thing (tQ p n R) := ⟨fun h k hn => h.keep k hn, fun h => h.lt⟩
theorem q_list (p : Value) (n : Nat) (R : List (List Int)) (S : List Nat) (k : Int) : Con Try.prog 33 [.c (.v p), .c (nI k)] [thing (tQ p n R) S] (fun _ : Unit => (.c (ints (Qu.row R k)), [thing (tQ p n R) S])) :=
  Con.thing1 tQ.ok tQ.ok fun ok e xs hd h => by
    obtain rfl := hd.v2
    refine (queue_list e p n R S k h).mono ?_
    rintro en w' ⟨v, T, rfl, h1, h2, h3⟩
    refine ⟨_, rfl, h1.mono (by simp), h.then h1, ?_⟩
    unfold RD
    exact RA.ints h2 fun x hx => ⟨.inr (.inr (h3 x hx)), fun hs => by have := h.lt x hs; have := h3 x hx; omega⟩
theorem q_new (n m : Nat) (h1 : n ≤ 64) (h2 : m ≤ 64) : Con Try.prog 11 [.c (nI n), .c (nI m)] [] (fun x : Value × List Nat => (.tup [.c (.v x.1), .c (nI 0)], [thing (tQ x.1 n (List.replicate m [])) x.2])) := ⟨fun ok e xs hd _ _ _ => by
  obtain rfl := hd.v2
  refine (queue_new e n m h1 h2).mono ?_
  rintro en w' ⟨p, S, rfl, h1, h2⟩
  refine ⟨(p, S), _, rfl, by simpa [foots] using h1.1, fun y hy => .inr (h1.2 y (by simpa [foots, thing, Res.foot] using hy)), List.pairwise_singleton _ _, fun r hr => ?_, ?_⟩
  · rw [List.mem_singleton.1 hr]; exact (thing.holds tQ.ok).2 h2
  · obtain ⟨b, rfl⟩ := Qq.shape h2; exact RD.tup2 rfl rfl⟩
/-! ### the pool -/
def tP (p : Value) (size most : Nat) (s : Po.St) (w : World) (S : List Nat) : Prop := PS w p size most s S
theorem tP.ok {p : Value} {size most : Nat} {s : Po.St} : Thing (tP p size most s) := ⟨fun h k hn => Pl.keep h k hn, fun h => Pl.lt h⟩
theorem p_middle (p : Value) (size most : Nat) (s : Po.St) (S : List Nat) (hM : s.M.length ≤ 1000) : Con Try.prog 23 [.c (.v p)] [thing (tP p size most s) S] (fun _ : Unit => (.c (ints s.M), [thing (tP p size most s) S])) :=
  Con.thing1 tP.ok tP.ok fun ok e xs hd h => by
    obtain rfl := hd.v1
    refine (pool_middle e p _ _ _ _ _ _ _ h hM).mono ?_
    rintro en w' ⟨v, T, rfl, h1, h2, h3⟩
    refine ⟨_, rfl, h1.mono (by simp), Pl.then h h1, ?_⟩
    unfold RD
    exact RA.ints h2 fun x hx => ⟨.inr (.inr (h3 x hx)), fun hs => by have := Pl.lt h x hs; have := h3 x hx; omega⟩
theorem p_cache (p : Value) (size most : Nat) (s : Po.St) (S : List Nat) (g : Int) (hC : ∀ l ∈ s.C, l.length ≤ 1000) : Con Try.prog 29 [.c (.v p), .c (nI g)] [thing (tP p size most s) S] (fun _ : Unit => (.c (ints (Po.cache s.C g)), [thing (tP p size most s) S])) :=
  Con.thing1 tP.ok tP.ok fun ok e xs hd h => by
    obtain rfl := hd.v2
    refine (pool_cache e p _ _ _ _ _ _ _ g h hC).mono ?_
    rintro en w' ⟨v, T, rfl, h1, h2, h3⟩
    refine ⟨_, rfl, h1.mono (by simp), Pl.then h h1, ?_⟩
    unfold RD
    exact RA.ints h2 fun x hx => ⟨.inr (.inr (h3 x hx)), fun hs => by have := Pl.lt h x hs; have := h3 x hx; omega⟩
theorem p_fresh (p : Value) (size most : Nat) (s : Po.St) (S : List Nat) : Con Try.prog 24 [.c (.v p)] [thing (tP p size most s) S] (fun _ : Unit => (.c (nI s.f), [thing (tP p size most s) S])) :=
  Con.thing1 tP.ok tP.ok fun ok e xs hd h => by
    obtain rfl := hd.v1
    refine (pool_fresh e p _ _ _ _ _ _ _ h).mono ?_
    rintro en w' ⟨rfl, rfl⟩
    exact ⟨_, rfl, Keeps.refl _ _, h, RD.v rfl⟩
theorem p_new (size takers most : Nat) (h1 : size ≤ 64) (h2 : takers ≤ 8) (h3 : 1 ≤ most) (h4 : most ≤ 16) : Con Try.prog 10 [.c (nI size), .c (nI takers), .c (nI most)] [] (fun x : Value × List Nat => (.tup [.c (.v x.1), .c (nI 0)], [thing (tP x.1 size most (Po.new size takers)) x.2])) := ⟨fun ok e xs hd _ _ _ => by
  obtain rfl := hd.v3
  refine (pool_new e size takers most h1 h2 h3 h4).mono ?_
  rintro en w' ⟨p, S, rfl, h1, h2, h3⟩
  refine ⟨(p, S), _, rfl, by simpa [foots] using h1, fun y hy => .inr (h3 y (by simpa [foots, thing, Res.foot] using hy)), List.pairwise_singleton _ _, fun r hr => ?_, ?_⟩
  · rw [List.mem_singleton.1 hr]; exact (thing.holds tP.ok).2 h2
  · obtain ⟨b, rfl⟩ := Pl.shape h2; exact RD.tup2 rfl rfl⟩
theorem p_newNo (size takers most : Int) (h : Po.fits size takers most = false) : Pure Try.prog 10 [.c (nI size), .c (nI takers), .c (nI most)] (.tup [.c (.v (.pointer none)), .c (nI 1)]) :=
  Con.plain fun ok e xs hd => by
    obtain rfl := hd.v3
    refine (pool_new_no e size takers most h).mono ?_
    rintro en w' ⟨rfl, rfl⟩
    exact ⟨_, rfl, Keeps.refl _ _, RD.tup2 rfl rfl⟩
/-! ### rings -/
def tR (l : List (Value × Nat × List Int)) (w : World) (S : List Nat) : Prop :=
  ∃ Ss : List (List Nat), Ss.length = l.length ∧ S = Ss.flatten ∧ Ss.Pairwise (fun A B => ∀ x ∈ A, x ∉ B) ∧ ∀ (i : Nat) x Si, l[i]? = some x → Ss[i]? = some Si → Rg w x.1 x.2.1 x.2.2 Si
theorem mem_flat {Ss : List (List Nat)} {i : Nat} {Si : List Nat} (h : Ss[i]? = some Si) {x : Nat} (hx : x ∈ Si) : x ∈ Ss.flatten := List.mem_flatten.2 ⟨Si, List.mem_of_getElem? h, hx⟩
theorem tR.ok {l : List (Value × Nat × List Int)} : Thing (tR l) := by
  refine ⟨?_, ?_⟩
  · rintro w w' S T ⟨Ss, h1, rfl, h3, h4⟩ k hn
    exact ⟨Ss, h1, rfl, h3, fun i x Si hi hs => (h4 i x Si hi hs).keep k fun y hy => hn y (mem_flat hs hy)⟩
  · rintro w S ⟨Ss, h1, rfl, h3, h4⟩ x hx
    obtain ⟨Si, hs, hx⟩ := List.mem_flatten.1 hx
    obtain ⟨i, hi⟩ := List.getElem?_of_mem hs
    have hl : i < l.length := by rw [← h1]; exact (List.getElem?_eq_some_iff.1 hi).1
    exact (h4 i _ Si (List.getElem?_eq_getElem hl) hi).lt x hx
theorem pw_ne {Ss : List (List Nat)} (h : Ss.Pairwise (fun A B => ∀ x ∈ A, x ∉ B)) {i j : Nat} {A B : List Nat} (hi : Ss[i]? = some A) (hj : Ss[j]? = some B) (hne : i ≠ j) : ∀ x ∈ B, x ∉ A := by
  intro x hx hy
  obtain ⟨hi1, hi2⟩ := List.getElem?_eq_some_iff.1 hi
  obtain ⟨hj1, hj2⟩ := List.getElem?_eq_some_iff.1 hj
  rcases Nat.lt_or_gt_of_ne hne with c | c
  · have := List.pairwise_iff_getElem.1 h i j hi1 hj1 c x (hi2 ▸ hy); exact this (hj2 ▸ hx)
  · have := List.pairwise_iff_getElem.1 h j i hj1 hi1 c x (hj2 ▸ hx); exact this (hi2 ▸ hy)
theorem tR.at_ {l : List (Value × Nat × List Int)} {w : World} {S : List Nat} (h : tR l w S) {i : Nat} {p : Value} {N : Nat} {b : List Int} (hi : l[i]? = some (p, N, b)) :
    ∃ Si, Rg w p N b Si ∧ (∀ x ∈ Si, x ∈ S) ∧ ∀ w' b', Keeps Si w w' → Rg w' p N b' Si → tR (l.set i (p, N, b')) w' S := by
  obtain ⟨Ss, h1, rfl, h3, h4⟩ := h
  have hl := (List.getElem?_eq_some_iff.1 hi).1
  have hs := List.getElem?_eq_getElem (show i < Ss.length by omega)
  refine ⟨Ss[i]'(by omega), h4 i _ _ hi hs, fun x hx => mem_flat hs hx, fun w' b' k hr => ⟨Ss, by simp [h1], rfl, h3, fun j x Sj hj hsj => ?_⟩⟩
  by_cases e : i = j
  · subst e
    rw [List.getElem?_set_self hl] at hj
    cases hj
    rw [hs] at hsj; cases hsj
    exact hr
  · rw [List.getElem?_set_ne e] at hj
    exact (h4 j x Sj hj hsj).keep k (pw_ne h3 hs hsj e)
theorem r_room (l : List (Value × Nat × List Int)) (S : List Nat) {i : Nat} {p : Value} {N : Nat} {b : List Int} (hi : l[i]? = some (p, N, b)) : Con Try.prog 30 [.c (.v p)] [thing (tR l) S] (fun _ : Unit => (.c (nI N), [thing (tR l) S])) :=
  Con.thing1 tR.ok tR.ok fun ok e xs hd h => by
    obtain rfl := hd.v1
    obtain ⟨Si, h1, h2, h3⟩ := h.at_ hi
    refine (ring_room e p N b Si h1).mono ?_
    rintro en w' ⟨rfl, rfl⟩
    exact ⟨_, rfl, Keeps.refl _ _, h, RD.v rfl⟩
theorem r_all (l : List (Value × Nat × List Int)) (S : List Nat) {i : Nat} {p : Value} {N : Nat} {b : List Int} (hi : l[i]? = some (p, N, b)) : Con Try.prog 31 [.c (.v p)] [thing (tR l) S] (fun _ : Unit => (.c (ints b), [thing (tR l) S])) :=
  Con.thing1 tR.ok tR.ok fun ok e xs hd h => by
    obtain rfl := hd.v1
    obtain ⟨Si, h1, h2, h3⟩ := h.at_ hi
    refine (ring_all e p N b Si h1).mono ?_
    rintro en w' ⟨v, T, rfl, k1, k2, k3⟩
    refine ⟨_, rfl, k1.mono (by simp), tR.ok.keep h k1 (by simp), ?_⟩
    unfold RD
    exact RA.ints k2 fun x hx => ⟨.inr (.inr (k3 x hx)), fun hs => by have := tR.ok.lt h x hs; have := k3 x hx; omega⟩
end Fl
end Go.Proofs.Ytofnbflkhgammaa
/- Fp4 -/
namespace Go.Proofs.Ytofnbflkhgammaa
open Go.RowKit
set_option linter.unusedVariables false
set_option linter.unusedSimpArgs false
set_option linter.unnecessarySimpa false
namespace Fl
/-- where a world's parts lie -/
structure U where
  vG : Value
  pB : Value
  vR : Value
  vC : Value
  pL : Value
  pQ : Value
  vS : Value
  pP : Value
  bD : Nat
  vM : Value
  TB : List Nat
  TL : List Nat
  TQ : List Nat
  TP : List Nat
  TR : List Nat
  H : List Bool
  rs : Nat → Value
  sg : Nat → Value
  wk : Nat → Value
def pt (b : Nat) : Value := .pointer (some ⟨b, 0, none⟩)
/-- a goroutine in the world: the bench has its state, it owns two rows -/
def gW (x : Sx.Gr) (v u : Value) : List A :=
  [.r 6 (x.ops.map eOp), nI x.at_, nI x.place, nI 0, bI false, nI x.call, bI x.picked, nI x.param, nI x.mine, nI x.hold, nI x.t, nI x.arrive, nI x.point, nI x.wi, nI x.fire,
   nI x.res.code, nI x.res.cs, nI x.res.v, bI x.res.ok, nI x.res.n, ints x.order, ints x.locks, .v v, .v u, nI x.k]
def gsW (u : U) (s : Sx.St) : List (List A) := (List.range s.gs.length).map fun g => gW (Sx.gr s g) (u.sg g) (u.wk g)
def dW (s : Sx.St) : A := .r 1 (s.draws.map fun n => [.v (.int .u16 n)])
def wW (u : U) (s : Sx.St) : List A :=
  [nI s.sudogN, nI s.cacheN, nI s.step, .v u.vG, .v u.pB, .v u.vR, .v u.vC, .v u.pL, .v u.pQ, .v u.vS, .v u.pP, .v (pt u.bD), dW s, .v u.vM]
/-- the queues of all channels that there may be -/
def qW (s : Sx.St) : List (List Int) := (List.range 16).map fun k => if k % 2 = 0 then (Sx.cn s ((k / 2 : Nat) + 1)).recv else (Sx.cn s ((k / 2 : Nat) + 1)).send
def poW (u : U) (s : Sx.St) : Po.St := ⟨s.cache, s.middle, s.fresh.toNat, u.H⟩
def rsW (u : U) (s : Sx.St) : List (Value × Nat × List Int) := (List.range s.chans.length).map fun i => (u.rs i, (Sx.cn s (i + 1)).cap.toNat, (Sx.cn s (i + 1)).buf)
def nums (l : List Int) : List (List A) := l.map fun n => [nI n]
def rowsW (u : U) (s : Sx.St) : List Res := ((List.range s.gs.length).map fun g => .row (u.sg g) 3 1 (nums (Sx.gr s g).sgs)) ++ ((List.range s.gs.length).map fun g => .row (u.wk g) 3 1 (nums (Sx.gr s g).wakes))
@[reducible] def wd (b : Nat) (u : U) (s : Sx.St) : List Res :=
  .box b 67 (wW u s) ::
  .row u.vG 50 25 (gsW u s) ::
  .row u.vR 89 1 ((List.range s.chans.length).map fun i => [.v (u.rs i)]) ::
  .row u.vC 4 1 (s.chans.map fun c => [bI c.closed]) ::
  .row u.vS 73 7 (s.sudogs.map eS) ::
  .row u.vM 82 13 (s.done.map eM) ::
  .box u.bD 111 [dW s, nI s.drawn] ::
  thing (tB u.pB (s.gs.map fun x => (x.status, x.token))) u.TB ::
  thing (tL u.pL (s.chans.map (·.lock))) u.TL ::
  thing (tQ u.pQ s.sudogs.length (qW s)) u.TQ ::
  thing (tP u.pP s.sudogN.toNat s.cacheN.toNat (poW u s)) u.TP ::
  thing (tR (rsW u s)) u.TR :: rowsW u s
section
variable {P : Program} {c : Cx} {k : List Item} {f : Fm} {L L2 : List Res}
theorem J.perm (hp : L2.Perm L) (h : J P c k f L2) : J P c k f L := ⟨fun a w s => h.go a w (s.perm hp)⟩
/-- a row of the rest comes first -/
theorem J.pullR (A : List Res) {R : List Res} {j : Nat} {r : Res} (hj : R[j]? = some r) (h : J P c k f (r :: (A ++ R.eraseIdx j))) : J P c k f (A ++ R) :=
  J.perm (List.perm_middle.symm.trans ((pull_perm R j hj).append_left A)) h
/-- the first one goes back -/
theorem J.pushR (A : List Res) {R R' : List Res} {j : Nat} {r q : Res} (hj : R[j]? = some q) (e : R.set j r = R') (h : J P c k f (A ++ R')) : J P c k f (r :: (A ++ R.eraseIdx j)) := by
  subst e
  exact J.perm (((set_perm hj).append_left A).trans List.perm_middle) h
end
section
variable {P : Program} {c : Cx} {k : List Item} {f : Fm} {L L2 : List Res}
theorem St.nilR {e sz : Nat} {a : Act} {w : World} (s : St c f L a w) : St c f (.row (.slice none 0 0) e sz [] :: L) a w := by
  have hf : foots (.row (.slice none 0 0) e sz [] :: L) = foots L := by simp [foots, Res.foot, vfoot]
  have ho : okk c (.row (.slice none 0 0) e sz [] :: L) = okk c L := by funext x; unfold okk; rw [hf]
  refine ⟨s.kp, s.size, s.dfr, fun q hq => ?_, fun x hx => s.frm x (hf ▸ hx), List.pairwise_cons.2 ⟨fun q _ x hx => by simp [Res.foot, vfoot] at hx, s.ap⟩, fun t d ht => by rw [ho]; exact s.fr t d ht⟩
  rw [ho]
  rcases List.mem_cons.1 hq with rfl | hq
  · exact ⟨[], Row.nil w e sz, rfl⟩
  · exact s.res q hq
theorem Since.tres {T : List Nat} {L0 L : List Res} {r : Res} {i : Nat} [bx : ResAt L0 r i] (ht : T.contains i = true) : Since T L0 L r.foot := .there bx.h ht
theorem Qt.le {U : List Nat} {o : Oper} {d : D} (d' : D) (q : Qt P c U o f L d) (h : LeD d d') : Qt P c U o f L d' := ⟨fun a w s => by
  obtain ⟨v, h1, h2⟩ := q.go a w s
  exact ⟨v, h.rep h1, h2⟩⟩
/-- a slice that is nil is owned -/
theorem J.nilR (e sz : Nat) (h : J P c k f (.row (.slice none 0 0) e sz [] :: L)) : J P c k f L := ⟨fun a w s => h.go a w s.nilR⟩
/-- number j is given up, and a slice that is nil stands there -/
theorem J.nilAt {j : Nat} (e sz : Nat) {q : Res} (hj : L[j]? = some q) (h : J P c k f (L.set j (.row (.slice none 0 0) e sz []))) : J P c k f L :=
  J.drop j (J.nilR e sz (J.perm (set_perm hj) h))
end
/-! ### how parts change -/
theorem len_gsW (u : U) (s : Sx.St) : (gsW u s).length = s.gs.length := by simp [gsW]
theorem gsW_at {u : U} {s : Sx.St} {g : Nat} (hg : g < s.gs.length) : (gsW u s)[g]? = some (gW (Sx.gr s g) (u.sg g) (u.wk g)) := by
  unfold gsW; rw [List.getElem?_map, List.getElem?_range hg]; rfl
theorem range_set {α : Type} {n g : Nat} {h h' : Nat → α} {a : α} (hg : g < n) (e1 : h' g = a) (e2 : ∀ k, k ≠ g → k < n → h' k = h k) : ((List.range n).map h).set g a = (List.range n).map h' := by
  apply List.ext_getElem?
  intro k
  rw [List.getElem?_set, List.getElem?_map, List.getElem?_map]
  by_cases hk : k < n
  · rw [List.getElem?_range hk]
    by_cases c : g = k
    · subst c; simp [e1, hg]
    · rw [if_neg c]; simp [e2 k (Ne.symm c) hk]
  · rw [List.getElem?_eq_none (by simpa using hk)]
    split
    · rw [if_neg (by simp; omega)]; simp
    · simp
theorem gsW_set {u u' : U} {s : Sx.St} {g : Nat} {x : Sx.Gr} {v w : Value} (hg : g < s.gs.length) (e1 : u'.sg g = v ∧ u'.wk g = w) (e2 : ∀ k, k ≠ g → u'.sg k = u.sg k ∧ u'.wk k = u.wk k) : (gsW u s).set g (gW x v w) = gsW u' (Sx.withG s g x) := by
  unfold gsW
  have hl : (Sx.withG s g x).gs.length = s.gs.length := by simp [Sx.withG]
  rw [hl]
  refine range_set hg ?_ fun k hk _ => ?_
  · rw [gr_wG s g g x hg, if_pos rfl, e1.1, e1.2]
  · rw [gr_wG s g k x hg, if_neg hk, (e2 k hk).1, (e2 k hk).2]
theorem gsW_set0 {u : U} {s : Sx.St} {g : Nat} {x : Sx.Gr} (hg : g < s.gs.length) : (gsW u s).set g (gW x (u.sg g) (u.wk g)) = gsW u (Sx.withG s g x) := gsW_set hg ⟨rfl, rfl⟩ fun _ _ => ⟨rfl, rfl⟩
theorem benchW {s : Sx.St} {g : Nat} {x : Sx.Gr} (hg : g < s.gs.length) : ((Sx.withG s g x).gs.map fun x => (x.status, x.token)) = (s.gs.map fun x => (x.status, x.token)).set g (x.status, x.token) := by
  simp [Sx.withG, List.map_set]
theorem benchW_same {s : Sx.St} {g : Nat} {x : Sx.Gr} (hg : g < s.gs.length) (e : x.status = (Sx.gr s g).status ∧ x.token = (Sx.gr s g).token) : ((Sx.withG s g x).gs.map fun x => (x.status, x.token)) = (s.gs.map fun x => (x.status, x.token)) := by
  rw [benchW hg, e.1, e.2]
  have : (s.gs.map fun x => (x.status, x.token))[g]? = some ((Sx.gr s g).status, (Sx.gr s g).token) := by
    rw [List.getElem?_map]; unfold Sx.gr; rw [List.getD_eq_getElem?_getD, List.getElem?_eq_getElem hg]; rfl
  exact List.ext_getElem? fun k => by
    rw [List.getElem?_set]
    split
    · rename_i c; subst c; rw [this]; simp [hg]
    · rfl
theorem rowsW_sg {u : U} {s : Sx.St} {g : Nat} (hg : g < s.gs.length) : (rowsW u s)[g]? = some (.row (u.sg g) 3 1 (nums (Sx.gr s g).sgs)) := by
  unfold rowsW
  rw [List.getElem?_append_left (by simpa using hg), List.getElem?_map, List.getElem?_range hg]; rfl
theorem rowsW_wk {u : U} {s : Sx.St} {g : Nat} (hg : g < s.gs.length) : (rowsW u s)[s.gs.length + g]? = some (.row (u.wk g) 3 1 (nums (Sx.gr s g).wakes)) := by
  unfold rowsW
  rw [List.getElem?_append_right (by simp), List.length_map, List.length_range, show s.gs.length + g - s.gs.length = g by omega, List.getElem?_map, List.getElem?_range hg]; rfl
theorem rowsW_same {u : U} {s : Sx.St} {g : Nat} {x : Sx.Gr} (hg : g < s.gs.length) (e1 : x.sgs = (Sx.gr s g).sgs) (e2 : x.wakes = (Sx.gr s g).wakes) : rowsW u (Sx.withG s g x) = rowsW u s := by
  unfold rowsW
  have hl : (Sx.withG s g x).gs.length = s.gs.length := by simp [Sx.withG]
  rw [hl]
  congr 1
  · refine List.map_congr_left fun k hk => ?_
    rw [gr_wG s g k x hg]; split
    · rename_i c; subst c; rw [e1]
    · rfl
  · refine List.map_congr_left fun k hk => ?_
    rw [gr_wG s g k x hg]; split
    · rename_i c; subst c; rw [e2]
    · rfl
/-- another row of those that it wakes -/
theorem rowsW_setWk {u : U} {s : Sx.St} {g : Nat} {x : Sx.Gr} {v : Value} (hg : g < s.gs.length) (e1 : x.sgs = (Sx.gr s g).sgs) : (rowsW u s).set (s.gs.length + g) (.row v 3 1 (nums x.wakes)) = rowsW { u with wk := fun k => if k = g then v else u.wk k } (Sx.withG s g x) := by
  unfold rowsW
  have hl : (Sx.withG s g x).gs.length = s.gs.length := by simp [Sx.withG]
  rw [hl, List.set_append_right _ _ (by simp), List.length_map, List.length_range, show s.gs.length + g - s.gs.length = g by omega]
  congr 1
  · refine List.map_congr_left fun k hk => ?_
    rw [gr_wG s g k x hg]; split
    · rename_i c; subst c; rw [e1]
    · rfl
  · refine range_set hg ?_ fun k hk _ => ?_
    · simp only [if_true]; rw [gr_wG s g g x hg, if_pos rfl]
    · simp only [if_neg hk]; rw [gr_wG s g k x hg, if_neg hk]
/-- another row of sudogs -/
theorem rowsW_setSg {u : U} {s : Sx.St} {g : Nat} {x : Sx.Gr} {v : Value} (hg : g < s.gs.length) (e1 : x.wakes = (Sx.gr s g).wakes) : (rowsW u s).set g (.row v 3 1 (nums x.sgs)) = rowsW { u with sg := fun k => if k = g then v else u.sg k } (Sx.withG s g x) := by
  unfold rowsW
  have hl : (Sx.withG s g x).gs.length = s.gs.length := by simp [Sx.withG]
  rw [hl, List.set_append_left _ _ (by simpa using hg)]
  congr 1
  · refine range_set hg ?_ fun k hk _ => ?_
    · simp only [if_true]; rw [gr_wG s g g x hg, if_pos rfl]
    · simp only [if_neg hk]; rw [gr_wG s g k x hg, if_neg hk]
  · refine List.map_congr_left fun k hk => ?_
    rw [gr_wG s g k x hg]; split
    · rename_i c; subst c; rw [e1]
    · rfl
end Fl
end Go.Proofs.Ytofnbflkhgammaa
/- Fp5 -/
namespace Go.Proofs.Ytofnbflkhgammaa
open Go.RowKit
set_option linter.unusedVariables false
set_option linter.unusedSimpArgs false
set_option linter.unnecessarySimpa false
namespace Fl
set_option maxRecDepth 100000
theorem gW_at {u : U} {s : Sx.St} {g : Nat} (hg : g < s.gs.length) : (gsW u s)[((g : Int)).toNat]? = some (gW (Sx.gr s g) (u.sg g) (u.wk g)) := by rw [Int.toNat_natCast]; exact gsW_at hg
theorem set_at {α : Type} {l : List α} {g : Nat} {a : α} (hg : g < l.length) : (l.set ((g : Int)).toNat a)[((g : Int)).toNat]? = some a := by rw [Int.toNat_natCast]; exact List.getElem?_set_self hg
section
variable {P : Program} {c : Cx} {f : Fm} {L : List Res} {T : TypeId} {ps : String} {af : Array Edge} {gd : Option (Nat × Bool)} {t : Nat}
theorem Qt.lenI (i : Nat) {x : Operand} {X sz : Nat} {v : Value} {l : List (List A)} {e e' sz' : Nat} [ie : TyS P X e' sz'] (h : evD f x = some (.c (.v v))) (hi : L[i]? = some (.row v e sz l)) {n : Nat} (hn : l.length = n) : Qt P c [] ⟨t, .call ⟨.builtin .len, #[x], #[X]⟩, T, ps, af, gd⟩ f L (.c (nI n)) := by
  subst hn
  haveI : RowAt L v e sz l i := ⟨hi⟩
  exact Qt.lenO h
end
/-- the parts of a world, one by one -/
@[reducible] def wl (b : Nat) (u : U) (s : Sx.St) (G : List (List A)) (B : List (Int × Bool)) (R : List Res) : List Res :=
  .box b 67 (wW u s) ::
  .row u.vG 50 25 G ::
  .row u.vR 89 1 ((List.range s.chans.length).map fun i => [.v (u.rs i)]) ::
  .row u.vC 4 1 (s.chans.map fun c => [bI c.closed]) ::
  .row u.vS 73 7 (s.sudogs.map eS) ::
  .row u.vM 82 13 (s.done.map eM) ::
  .box u.bD 111 [dW s, nI s.drawn] ::
  thing (tB u.pB B) u.TB ::
  thing (tL u.pL (s.chans.map (·.lock))) u.TL ::
  thing (tQ u.pQ s.sudogs.length (qW s)) u.TQ ::
  thing (tP u.pP s.sudogN.toNat s.cacheN.toNat (poW u s)) u.TP ::
  thing (tR (rsW u s)) u.TR :: R
/-- one goroutine is another one, with the rows and the state that it had -/
theorem wd_G {b : Nat} {u : U} {s : Sx.St} {g : Nat} (x : Sx.Gr) {G : List (List A)} (hg : g < s.gs.length) (hG : G = (gsW u s).set g (gW x (u.sg g) (u.wk g))) (e : x.status = (Sx.gr s g).status ∧ x.token = (Sx.gr s g).token := by exact ⟨rfl, rfl⟩) (e1 : x.sgs = (Sx.gr s g).sgs := by rfl) (e2 : x.wakes = (Sx.gr s g).wakes := by rfl) :
    wd b u (Sx.withG s g x) = wl b u s G (s.gs.map fun x => (x.status, x.token)) (rowsW u s) := by
  have h1 := gsW_set0 (u := u) (x := x) hg
  have h2 := benchW_same hg e
  have h3 := rowsW_same (u := u) hg e1 e2
  show wl b u s (gsW u (Sx.withG s g x)) ((Sx.withG s g x).gs.map fun x => (x.status, x.token)) (rowsW u (Sx.withG s g x)) = _
  rw [h2, h3, ← h1, hG]
theorem nums_len (l : List Int) : (nums l).length = l.length := by simp [nums]
end Fl
end Go.Proofs.Ytofnbflkhgammaa
/- Fp7 -/
namespace Go.Proofs.Ytofnbflkhgammaa
open Go.RowKit
set_option linter.unusedVariables false
set_option linter.unusedSimpArgs false
set_option linter.unnecessarySimpa false
namespace Fl
set_option maxRecDepth 100000
def uClr (u : U) (g : Nat) : U := { u with sg := fun k => if k = g then .slice none 0 0 else u.sg k, wk := fun k => if k = g then .slice none 0 0 else u.wk k }
theorem clear_G {u : U} {s : Sx.St} {g : Nat} (hg : g < s.gs.length) : gsW (uClr u g) (Sx.clear s g) = (gsW u s).set g (gW (Sx.cleared (Sx.gr s g)) (.slice none 0 0) (.slice none 0 0)) :=
  (gsW_set hg ⟨by simp [uClr], by simp [uClr]⟩ fun k hk => ⟨by simp [uClr, hk], by simp [uClr, hk]⟩).symm
theorem clear_R {u : U} {s : Sx.St} {g : Nat} (hg : g < s.gs.length) : rowsW (uClr u g) (Sx.clear s g) = ((rowsW u s).set g (.row (.slice none 0 0) 3 1 [])).set (s.gs.length + g) (.row (.slice none 0 0) 3 1 []) := by
  have hl : (Sx.clear s g).gs.length = s.gs.length := by simp [Sx.clear, Sx.withG]
  unfold rowsW
  rw [hl, List.set_append_left _ _ (by simpa using hg), List.set_append_right _ _ (by simp), List.length_set, List.length_map, List.length_range, show s.gs.length + g - s.gs.length = g by omega]
  congr 1
  · refine (range_set hg ?_ fun k hk _ => ?_).symm
    · unfold Sx.clear; rw [gr_wG s g g _ hg, if_pos rfl]; simp [uClr, Sx.cleared, Sx.clean, nums]
    · unfold Sx.clear; rw [gr_wG s g k _ hg, if_neg hk]; simp [uClr, hk]
  · refine (range_set hg ?_ fun k hk _ => ?_).symm
    · unfold Sx.clear; rw [gr_wG s g g _ hg, if_pos rfl]; simp [uClr, Sx.cleared, Sx.clean, nums]
    · unfold Sx.clear; rw [gr_wG s g k _ hg, if_neg hk]; simp [uClr, hk]
theorem wd_clear {b : Nat} {u : U} {s : Sx.St} {g : Nat} (hg : g < s.gs.length) : wd b (uClr u g) (Sx.clear s g) = wl b u s ((gsW u s).set g (gW (Sx.cleared (Sx.gr s g)) (.slice none 0 0) (.slice none 0 0))) (s.gs.map fun x => (x.status, x.token)) (((rowsW u s).set g (.row (.slice none 0 0) 3 1 [])).set (s.gs.length + g) (.row (.slice none 0 0) 3 1 [])) := by
  show wl b u s (gsW (uClr u g) (Sx.clear s g)) ((Sx.clear s g).gs.map fun x => (x.status, x.token)) (rowsW (uClr u g) (Sx.clear s g)) = _
  rw [clear_G hg, clear_R hg]
  unfold Sx.clear
  rw [benchW_same (x := Sx.cleared (Sx.gr s g)) hg ⟨rfl, rfl⟩]
set_option maxHeartbeats 2000000 in
theorem c_wClear (b : Nat) (u : U) (s : Sx.St) (g : Nat) (hg : g < s.gs.length) :
    Con Try.prog 16 [.c (.v (pt b)), .c (nI g)] (wd b u s) (fun _ : Unit => (.tup [], wd b (uClr u g) (Sx.clear s g))) := by
  refine Con.intro Try.func16 rfl rfl rfl (fun ok e => ?_)
  have OW : ∀ x : Int, x = g → 0 ≤ x ∧ x < (gsW u s).length := fun x hx => by rw [len_gsW]; omega
  have A := gW_at (u := u) hg
  have HQ : ((g : Int)).toNat < (gsW u s).length := by rw [len_gsW]; omega
  repeat (first
      | (refine K.fieldAddr ?_; refine JO.q rfl rfl (Nat.le_of_ble_eq_true rfl) (Qt.fieldAddr rfl rfl) ?_)
      | (refine K.load ?_; first | refine JO.q rfl rfl (Nat.le_of_ble_eq_true rfl) (Qt.load1 rfl .el rfl) ?_ | refine JO.q rfl rfl (Nat.le_of_ble_eq_true rfl) (Qt.loadW rfl .el rfl) ?_ | refine JO.q rfl rfl (Nat.le_of_ble_eq_true rfl) (Qt.loadN rfl .el rfl rfl) ?_ | refine JO.q rfl rfl (Nat.le_of_ble_eq_true rfl) (Qt.load1b rfl (by exact rfl)) ?_ | refine JO.q rfl rfl (Nat.le_of_ble_eq_true rfl) (Qt.loadWb rfl (by exact rfl)) ?_ | refine JO.q rfl rfl (Nat.le_of_ble_eq_true rfl) (Qt.loadNb rfl (by exact rfl) (by exact rfl)) ?_)
      | (refine K.move ?_; refine JO.q rfl rfl (Nat.le_of_ble_eq_true rfl) (Qt.move rfl) ?_)
      | (refine K.store ?_; first | refine JO.ld (Ld.storeW rfl rfl rfl (by exact rfl) (by exact rfl)) rfl (fun _ => ?_) | refine JO.ld (Ld.store1 rfl rfl (by exact rfl)) rfl (fun _ => ?_) | refine JO.ld (Ld.storeN rfl rfl rfl (by exact rfl) (by exact rfl)) rfl (fun _ => ?_))
      | (refine K.assign ?_; refine JO.q rfl rfl (Nat.le_of_ble_eq_true rfl) (Qt.assign rfl) ?_)
      | (refine K.indexAddr ?_; refine JO.q rfl rfl (Nat.le_of_ble_eq_true rfl) (Qt.indexO rfl rfl (OW _ rfl).1 (OW _ rfl).2) ?_)
      | (refine K.binOp ?_; first | refine JO.q rfl rfl (Nat.le_of_ble_eq_true rfl) (Qt.cmp rfl rfl rfl) ?_ | refine JO.q rfl rfl (Nat.le_of_ble_eq_true rfl) (Qt.eqB rfl rfl) ?_ | refine JO.q rfl rfl (Nat.le_of_ble_eq_true rfl) (Qt.neB rfl rfl) ?_)
      | (refine K.unOp ?_; refine JO.q rfl rfl (Nat.le_of_ble_eq_true rfl) (Qt.not rfl) ?_)
      | (refine K.bi ?_; first | refine JO.q rfl rfl (Nat.le_of_ble_eq_true rfl) (Qt.lenM rfl) ?_ | refine JO.q rfl rfl (Nat.le_of_ble_eq_true rfl) (Qt.lenR rfl) ?_ | refine JO.q rfl rfl (Nat.le_of_ble_eq_true rfl) (Qt.lenV rfl) ?_ | refine JO.q rfl rfl (Nat.le_of_ble_eq_true rfl) (Qt.lenO rfl) ?_)
      | (refine K.extract ?_; refine JO.q rfl rfl (Nat.le_of_ble_eq_true rfl) (Qt.extract rfl rfl) ?_)
      | (refine JO.alloc rfl (Nat.le_of_ble_eq_true rfl) ?_; intro _)
      | (refine JO.box rfl (Nat.le_of_ble_eq_true rfl) rfl rfl ?_; intro _)
      | (refine K.pick ?_; refine JO.q rfl rfl (Nat.le_of_ble_eq_true rfl) (Qt.pick rfl rfl) ?_)
      | (refine K.build ?_; refine JO.q rfl rfl (Nat.le_of_ble_eq_true rfl) (Qt.build rfl (by kernel_rfl)) ?_)
      | (refine K.lit ?_; first | (refine JO.lit0 rfl (Nat.le_of_ble_eq_true rfl) ?_; intro _) | (refine JO.lit1 rfl (Nat.le_of_ble_eq_true rfl) rfl rfl rfl rfl rfl ?_; intro _))
      | (refine K.nilCheck ?_; refine JO.q rfl rfl (Nat.le_of_ble_eq_true rfl) (Qt.nilCheck rfl rfl) ?_)
      | (refine K.field ?_; refine JO.q rfl rfl (Nat.le_of_ble_eq_true rfl) (Qt.field rfl rfl (by kernel_rfl) rfl) ?_)
      | (refine K.convert ?_; refine JO.q rfl rfl (Nat.le_of_ble_eq_true rfl) (Qt.conv rfl rfl) ?_)
      | refine JO.nil ?_
      | refine J.seq ?_
      | refine J.region ?_
      | refine J.block ?_
      | refine J.inBlock ?_
      | refine J.skip ?_
      | refine J.exit rfl ?_
      | refine J.cond_t rfl ?_
      | refine J.cond_f rfl ?_
      | refine JO.no rfl rfl (Nat.le_of_ble_eq_true rfl) ?_)
  refine J.draw (by kernel_rfl) rfl ?_
  refine JW.base (some 24) ?_
  refine JD.take 0 rfl rfl (by kernel_rfl) rfl (Nat.le_of_ble_eq_true rfl) (Qt.move rfl) rfl ?_
  refine JD.take 1 rfl rfl (by kernel_rfl) rfl (Nat.le_of_ble_eq_true rfl) (Qt.move rfl) rfl ?_
  refine JD.take 2 rfl rfl (by kernel_rfl) rfl (Nat.le_of_ble_eq_true rfl) (Qt.nilCheck rfl rfl) rfl ?_
  refine JD.take 3 rfl rfl (by kernel_rfl) rfl (Nat.le_of_ble_eq_true rfl) (Qt.fieldAddr rfl rfl) rfl ?_
  refine JD.take 4 rfl rfl (by kernel_rfl) rfl (Nat.le_of_ble_eq_true rfl) (Qt.load1o rfl A rfl) rfl ?_
  refine JD.take 5 rfl rfl (by kernel_rfl) rfl (Nat.le_of_ble_eq_true rfl) (Qt.move rfl) rfl ?_
  refine JD.take 6 rfl rfl (by kernel_rfl) rfl (Nat.le_of_ble_eq_true rfl) (Qt.nilCheck rfl rfl) rfl ?_
  refine JD.take 7 rfl rfl (by kernel_rfl) rfl (Nat.le_of_ble_eq_true rfl) (Qt.fieldAddr rfl rfl) rfl ?_
  refine JD.take 8 rfl rfl (by kernel_rfl) rfl (Nat.le_of_ble_eq_true rfl) (Qt.load1o rfl A rfl) rfl ?_
  refine JD.take 9 rfl rfl (by kernel_rfl) rfl (Nat.le_of_ble_eq_true rfl) (Qt.move rfl) rfl ?_
  refine JD.take 10 rfl rfl (by kernel_rfl) rfl (Nat.le_of_ble_eq_true rfl) (Qt.nilCheck rfl rfl) rfl ?_
  refine JD.take 11 rfl rfl (by kernel_rfl) rfl (Nat.le_of_ble_eq_true rfl) (Qt.fieldAddr rfl rfl) rfl ?_
  refine JD.take 12 rfl rfl (by kernel_rfl) rfl (Nat.le_of_ble_eq_true rfl) (Qt.load1o rfl A rfl) rfl ?_
  refine JD.take 13 rfl rfl (by kernel_rfl) rfl (Nat.le_of_ble_eq_true rfl) (Qt.move rfl) rfl ?_
  refine JD.take 14 rfl rfl (by kernel_rfl) rfl (Nat.le_of_ble_eq_true rfl) (Qt.nilCheck rfl rfl) rfl ?_
  refine JD.take 15 rfl rfl (by kernel_rfl) rfl (Nat.le_of_ble_eq_true rfl) (Qt.fieldAddr rfl rfl) rfl ?_
  refine JD.take 16 rfl rfl (by kernel_rfl) rfl (Nat.le_of_ble_eq_true rfl) (Qt.load1o rfl A rfl) rfl ?_
  refine JD.take 17 rfl rfl (by kernel_rfl) rfl (Nat.le_of_ble_eq_true rfl) (Qt.move rfl) rfl ?_
  refine JD.take 18 rfl rfl (by kernel_rfl) rfl (Nat.le_of_ble_eq_true rfl) (Qt.nilCheck rfl rfl) rfl ?_
  refine JD.take 19 rfl rfl (by kernel_rfl) rfl (Nat.le_of_ble_eq_true rfl) (Qt.fieldAddr rfl rfl) rfl ?_
  refine JD.take 20 rfl rfl (by kernel_rfl) rfl (Nat.le_of_ble_eq_true rfl) (Qt.load1o rfl A rfl) rfl ?_
  refine JD.take 21 rfl rfl (by kernel_rfl) rfl (Nat.le_of_ble_eq_true rfl) (Qt.build rfl (by kernel_rfl)) rfl ?_
  refine JD.take 22 rfl rfl (by kernel_rfl) rfl (Nat.le_of_ble_eq_true rfl) (Qt.le (.agg (gW (Sx.cleared (Sx.gr s g)) (.slice none 0 0) (.slice none 0 0))) (Qt.build rfl (by kernel_rfl)) (.agg (by repeat (first | exact .nil | refine .cons .refl ?_ | refine .cons .nil ?_ | refine .cons .snoc ?_ | refine .cons .clone ?_)))) rfl ?_
  refine JD.take 23 rfl rfl (by kernel_rfl) rfl (Nat.le_of_ble_eq_true rfl) (Qt.nilCheck rfl rfl) rfl ?_
  refine JD.each1 (i := 24) (by kernel_rfl) ?_
  refine JS.last rfl rfl (Ld.storeOW rfl rfl rfl rfl HQ) (fun _ => ?_)
  refine JW.done (by kernel_rfl) ?_
  refine J.nilAt (j := g + 12) 3 1 (rowsW_sg hg) ?_
  refine J.nilAt (j := s.gs.length + g + 12) 3 1 (q := _) (List.getElem?_eq_getElem (by simp [rowsW]; omega)) ?_
  refine J.congL (wd_clear hg) ?_
  first
    | exact J.retA Try.func16 rfl .nil () (by first | exact .agg (by repeat (first | exact .nil | refine .cons .refl ?_ | refine .cons .nil ?_ | refine .cons .snoc ?_ | refine .cons .clone ?_)) | exact .refl | exact .c .nil | exact .tup (by repeat (first | exact .nil | refine .cons (.agg (by repeat (first | exact .nil | refine .cons .refl ?_ | refine .cons .nil ?_ | refine .cons .snoc ?_ | refine .cons .clone ?_))) ?_ | refine .cons .refl ?_ | refine .cons (.c .nil) ?_ | refine .cons (.c .snoc) ?_ | refine .cons (.c .clone) ?_))) rfl
    | exact J.finA Try.func16 rfl .nil () (by first | exact .agg (by repeat (first | exact .nil | refine .cons .refl ?_ | refine .cons .nil ?_ | refine .cons .snoc ?_ | refine .cons .clone ?_)) | exact .refl | exact .c .nil | exact .tup (by repeat (first | exact .nil | refine .cons (.agg (by repeat (first | exact .nil | refine .cons .refl ?_ | refine .cons .nil ?_ | refine .cons .snoc ?_ | refine .cons .clone ?_))) ?_ | refine .cons .refl ?_ | refine .cons (.c .nil) ?_ | refine .cons (.c .snoc) ?_ | refine .cons (.c .clone) ?_))) rfl
end Fl
end Go.Proofs.Ytofnbflkhgammaa
/- Fp8 -/
namespace Go.Proofs.Ytofnbflkhgammaa
open Go.RowKit
set_option linter.unusedVariables false
set_option linter.unusedSimpArgs false
set_option linter.unnecessarySimpa false
namespace Fl
set_option maxRecDepth 100000
theorem d_new (l : List Int) (hl : l.length ≤ 100000) :
    Con Try.prog 14 [.c (drs l)] [] (fun b : Nat => (.c (.v (pt b)), [.box b 111 [drs l, nI 0]])) := by
  refine Con.intro Try.func14 rfl rfl rfl (fun ok e => ?_)
  repeat (first
      | (refine K.fieldAddr ?_; refine JO.q rfl rfl (Nat.le_of_ble_eq_true rfl) (Qt.fieldAddr rfl rfl) ?_)
      | (refine K.load ?_; first | refine JO.q rfl rfl (Nat.le_of_ble_eq_true rfl) (Qt.load1 rfl .el rfl) ?_ | refine JO.q rfl rfl (Nat.le_of_ble_eq_true rfl) (Qt.loadW rfl .el rfl) ?_ | refine JO.q rfl rfl (Nat.le_of_ble_eq_true rfl) (Qt.loadN rfl .el rfl rfl) ?_ | refine JO.q rfl rfl (Nat.le_of_ble_eq_true rfl) (Qt.load1b rfl (by exact rfl)) ?_ | refine JO.q rfl rfl (Nat.le_of_ble_eq_true rfl) (Qt.loadWb rfl (by exact rfl)) ?_ | refine JO.q rfl rfl (Nat.le_of_ble_eq_true rfl) (Qt.loadNb rfl (by exact rfl) (by exact rfl)) ?_)
      | (refine K.move ?_; refine JO.q rfl rfl (Nat.le_of_ble_eq_true rfl) (Qt.move rfl) ?_)
      | (refine K.store ?_; first | refine JO.ld (Ld.storeW rfl rfl rfl (by exact rfl) (by exact rfl)) rfl (fun _ => ?_) | refine JO.ld (Ld.store1 rfl rfl (by exact rfl)) rfl (fun _ => ?_) | refine JO.ld (Ld.storeN rfl rfl rfl (by exact rfl) (by exact rfl)) rfl (fun _ => ?_))
      | (refine K.assign ?_; refine JO.q rfl rfl (Nat.le_of_ble_eq_true rfl) (Qt.assign rfl) ?_)
      | (refine K.binOp ?_; first | refine JO.q rfl rfl (Nat.le_of_ble_eq_true rfl) (Qt.cmp rfl rfl rfl) ?_ | refine JO.q rfl rfl (Nat.le_of_ble_eq_true rfl) (Qt.eqB rfl rfl) ?_ | refine JO.q rfl rfl (Nat.le_of_ble_eq_true rfl) (Qt.neB rfl rfl) ?_)
      | (refine K.unOp ?_; refine JO.q rfl rfl (Nat.le_of_ble_eq_true rfl) (Qt.not rfl) ?_)
      | (refine K.bi ?_; first | refine JO.q rfl rfl (Nat.le_of_ble_eq_true rfl) (Qt.lenM rfl) ?_ | refine JO.q rfl rfl (Nat.le_of_ble_eq_true rfl) (Qt.lenR rfl) ?_ | refine JO.q rfl rfl (Nat.le_of_ble_eq_true rfl) (Qt.lenV rfl) ?_ | refine JO.q rfl rfl (Nat.le_of_ble_eq_true rfl) (Qt.lenO rfl) ?_)
      | (refine K.extract ?_; refine JO.q rfl rfl (Nat.le_of_ble_eq_true rfl) (Qt.extract rfl rfl) ?_)
      | (refine JO.alloc rfl (Nat.le_of_ble_eq_true rfl) ?_; intro _)
      | (refine JO.box rfl (Nat.le_of_ble_eq_true rfl) rfl rfl ?_; intro _)
      | (refine K.pick ?_; refine JO.q rfl rfl (Nat.le_of_ble_eq_true rfl) (Qt.pick rfl rfl) ?_)
      | (refine K.build ?_; refine JO.q rfl rfl (Nat.le_of_ble_eq_true rfl) (Qt.build rfl (by kernel_rfl)) ?_)
      | (refine K.lit ?_; first | (refine JO.lit0 rfl (Nat.le_of_ble_eq_true rfl) ?_; intro _) | (refine JO.lit1 rfl (Nat.le_of_ble_eq_true rfl) rfl rfl rfl rfl rfl ?_; intro _))
      | (refine K.nilCheck ?_; refine JO.q rfl rfl (Nat.le_of_ble_eq_true rfl) (Qt.nilCheck rfl rfl) ?_)
      | (refine K.field ?_; refine JO.q rfl rfl (Nat.le_of_ble_eq_true rfl) (Qt.field rfl rfl (by kernel_rfl) rfl) ?_)
      | (refine K.convert ?_; refine JO.q rfl rfl (Nat.le_of_ble_eq_true rfl) (Qt.conv rfl rfl) ?_)
      | (refine K.bi ?_; first | refine JO.ld (Ld.copy (Nat.le_of_ble_eq_true rfl) rfl rfl ((by simp))) rfl (fun _ => ?_))
      | (refine K.make ?_; first | refine JO.ld (Ld.make (l.length) (Nat.le_of_ble_eq_true rfl) rfl rfl (by first | rfl | omega | simp) (by omega)) rfl (fun _ => ?_))
      | refine JO.nil ?_
      | refine J.seq ?_
      | refine J.region ?_
      | refine J.block ?_
      | refine J.inBlock ?_
      | refine J.skip ?_
      | refine J.exit rfl ?_
      | refine J.cond_t rfl ?_
      | refine J.cond_f rfl ?_
      | refine JO.no rfl rfl (Nat.le_of_ble_eq_true rfl) ?_)
  refine J.frzC 3 12 0 rfl rfl rfl ?_
  first
    | exact J.retA Try.func14 rfl (.cons (.tmp rfl) .nil) _ (by first | exact .agg (by repeat (first | exact .nil | refine .cons .refl ?_ | refine .cons .nil ?_ | refine .cons .snoc ?_ | refine .cons .clone ?_)) | exact .refl | exact .c .nil | exact .tup (by repeat (first | exact .nil | refine .cons (.agg (by repeat (first | exact .nil | refine .cons .refl ?_ | refine .cons .nil ?_ | refine .cons .snoc ?_ | refine .cons .clone ?_))) ?_ | refine .cons .refl ?_ | refine .cons (.c .nil) ?_ | refine .cons (.c .snoc) ?_ | refine .cons (.c .clone) ?_))) rfl
    | exact J.finA Try.func14 rfl (.cons (.tmp rfl) .nil) _ (by first | exact .agg (by repeat (first | exact .nil | refine .cons .refl ?_ | refine .cons .nil ?_ | refine .cons .snoc ?_ | refine .cons .clone ?_)) | exact .refl | exact .c .nil | exact .tup (by repeat (first | exact .nil | refine .cons (.agg (by repeat (first | exact .nil | refine .cons .refl ?_ | refine .cons .nil ?_ | refine .cons .snoc ?_ | refine .cons .clone ?_))) ?_ | refine .cons .refl ?_ | refine .cons (.c .nil) ?_ | refine .cons (.c .snoc) ?_ | refine .cons (.c .clone) ?_))) rfl
theorem d_drawn (b : Nat) (l : List Int) (a : Int) :
    Con Try.prog 25 [.c (.v (pt b))] [.box b 111 [drs l, nI a]] (fun _ : Unit => (.c (nI a), [.box b 111 [drs l, nI a]])) := by
  refine Con.intro Try.func25 rfl rfl rfl (fun ok e => ?_)
  repeat (first
      | (refine K.fieldAddr ?_; refine JO.q rfl rfl (Nat.le_of_ble_eq_true rfl) (Qt.fieldAddr rfl rfl) ?_)
      | (refine K.load ?_; first | refine JO.q rfl rfl (Nat.le_of_ble_eq_true rfl) (Qt.load1 rfl .el rfl) ?_ | refine JO.q rfl rfl (Nat.le_of_ble_eq_true rfl) (Qt.loadW rfl .el rfl) ?_ | refine JO.q rfl rfl (Nat.le_of_ble_eq_true rfl) (Qt.loadN rfl .el rfl rfl) ?_ | refine JO.q rfl rfl (Nat.le_of_ble_eq_true rfl) (Qt.load1b rfl (by exact rfl)) ?_ | refine JO.q rfl rfl (Nat.le_of_ble_eq_true rfl) (Qt.loadWb rfl (by exact rfl)) ?_ | refine JO.q rfl rfl (Nat.le_of_ble_eq_true rfl) (Qt.loadNb rfl (by exact rfl) (by exact rfl)) ?_)
      | (refine K.move ?_; refine JO.q rfl rfl (Nat.le_of_ble_eq_true rfl) (Qt.move rfl) ?_)
      | (refine K.store ?_; first | refine JO.ld (Ld.storeW rfl rfl rfl (by exact rfl) (by exact rfl)) rfl (fun _ => ?_) | refine JO.ld (Ld.store1 rfl rfl (by exact rfl)) rfl (fun _ => ?_) | refine JO.ld (Ld.storeN rfl rfl rfl (by exact rfl) (by exact rfl)) rfl (fun _ => ?_))
      | (refine K.assign ?_; refine JO.q rfl rfl (Nat.le_of_ble_eq_true rfl) (Qt.assign rfl) ?_)
      | (refine K.binOp ?_; first | refine JO.q rfl rfl (Nat.le_of_ble_eq_true rfl) (Qt.cmp rfl rfl rfl) ?_ | refine JO.q rfl rfl (Nat.le_of_ble_eq_true rfl) (Qt.eqB rfl rfl) ?_ | refine JO.q rfl rfl (Nat.le_of_ble_eq_true rfl) (Qt.neB rfl rfl) ?_)
      | (refine K.unOp ?_; refine JO.q rfl rfl (Nat.le_of_ble_eq_true rfl) (Qt.not rfl) ?_)
      | (refine K.bi ?_; first | refine JO.q rfl rfl (Nat.le_of_ble_eq_true rfl) (Qt.lenM rfl) ?_ | refine JO.q rfl rfl (Nat.le_of_ble_eq_true rfl) (Qt.lenR rfl) ?_ | refine JO.q rfl rfl (Nat.le_of_ble_eq_true rfl) (Qt.lenV rfl) ?_ | refine JO.q rfl rfl (Nat.le_of_ble_eq_true rfl) (Qt.lenO rfl) ?_)
      | (refine K.extract ?_; refine JO.q rfl rfl (Nat.le_of_ble_eq_true rfl) (Qt.extract rfl rfl) ?_)
      | (refine JO.alloc rfl (Nat.le_of_ble_eq_true rfl) ?_; intro _)
      | (refine JO.box rfl (Nat.le_of_ble_eq_true rfl) rfl rfl ?_; intro _)
      | (refine K.pick ?_; refine JO.q rfl rfl (Nat.le_of_ble_eq_true rfl) (Qt.pick rfl rfl) ?_)
      | (refine K.build ?_; refine JO.q rfl rfl (Nat.le_of_ble_eq_true rfl) (Qt.build rfl (by kernel_rfl)) ?_)
      | (refine K.lit ?_; first | (refine JO.lit0 rfl (Nat.le_of_ble_eq_true rfl) ?_; intro _) | (refine JO.lit1 rfl (Nat.le_of_ble_eq_true rfl) rfl rfl rfl rfl rfl ?_; intro _))
      | (refine K.nilCheck ?_; refine JO.q rfl rfl (Nat.le_of_ble_eq_true rfl) (Qt.nilCheck rfl rfl) ?_)
      | (refine K.field ?_; refine JO.q rfl rfl (Nat.le_of_ble_eq_true rfl) (Qt.field rfl rfl (by kernel_rfl) rfl) ?_)
      | (refine K.convert ?_; refine JO.q rfl rfl (Nat.le_of_ble_eq_true rfl) (Qt.conv rfl rfl) ?_)
      | refine JO.nil ?_
      | refine J.seq ?_
      | refine J.region ?_
      | refine J.block ?_
      | refine J.inBlock ?_
      | refine J.skip ?_
      | refine J.exit rfl ?_
      | refine J.cond_t rfl ?_
      | refine J.cond_f rfl ?_
      | refine JO.no rfl rfl (Nat.le_of_ble_eq_true rfl) ?_)
  first
    | exact J.retA Try.func25 rfl (.cons (.tmp rfl) .nil) () (by first | exact .agg (by repeat (first | exact .nil | refine .cons .refl ?_ | refine .cons .nil ?_ | refine .cons .snoc ?_ | refine .cons .clone ?_)) | exact .refl | exact .c .nil | exact .tup (by repeat (first | exact .nil | refine .cons (.agg (by repeat (first | exact .nil | refine .cons .refl ?_ | refine .cons .nil ?_ | refine .cons .snoc ?_ | refine .cons .clone ?_))) ?_ | refine .cons .refl ?_ | refine .cons (.c .nil) ?_ | refine .cons (.c .snoc) ?_ | refine .cons (.c .clone) ?_))) rfl
    | exact J.finA Try.func25 rfl (.cons (.tmp rfl) .nil) () (by first | exact .agg (by repeat (first | exact .nil | refine .cons .refl ?_ | refine .cons .nil ?_ | refine .cons .snoc ?_ | refine .cons .clone ?_)) | exact .refl | exact .c .nil | exact .tup (by repeat (first | exact .nil | refine .cons (.agg (by repeat (first | exact .nil | refine .cons .refl ?_ | refine .cons .nil ?_ | refine .cons .snoc ?_ | refine .cons .clone ?_))) ?_ | refine .cons .refl ?_ | refine .cons (.c .nil) ?_ | refine .cons (.c .snoc) ?_ | refine .cons (.c .clone) ?_))) rfl
end Fl
end Go.Proofs.Ytofnbflkhgammaa
/- Fp9 -/
namespace Go.Proofs.Ytofnbflkhgammaa
open Go.RowKit
set_option linter.unusedVariables false
set_option linter.unusedSimpArgs false
set_option linter.unnecessarySimpa false
namespace Fl
set_option maxRecDepth 100000
def opsA (p : List (List Pn.Op)) : A := .r 1 (p.map fun ops => [.r 6 (ops.map eOp)])
set_option maxHeartbeats 2000000 in
theorem c_wClone (p : List (List Pn.Op)) (h1 : p.length ≤ 1000) (h2 : ∀ ops ∈ p, ops.length ≤ 100000 ∧ ∀ o ∈ ops, o.cases.length ≤ 1000) :
    Pure Try.prog 15 [.c (opsA p)] (.c (opsA p)) := by
  refine Con.intro Try.func15 rfl rfl rfl (fun ok e => ?_)
  repeat (first
      | (refine K.fieldAddr ?_; refine JO.q rfl rfl (Nat.le_of_ble_eq_true rfl) (Qt.fieldAddr rfl rfl) ?_)
      | (refine K.load ?_; first | refine JO.q rfl rfl (Nat.le_of_ble_eq_true rfl) (Qt.load1 rfl .el rfl) ?_ | refine JO.q rfl rfl (Nat.le_of_ble_eq_true rfl) (Qt.loadW rfl .el rfl) ?_ | refine JO.q rfl rfl (Nat.le_of_ble_eq_true rfl) (Qt.loadN rfl .el rfl rfl) ?_ | refine JO.q rfl rfl (Nat.le_of_ble_eq_true rfl) (Qt.load1b rfl (by exact rfl)) ?_ | refine JO.q rfl rfl (Nat.le_of_ble_eq_true rfl) (Qt.loadWb rfl (by exact rfl)) ?_ | refine JO.q rfl rfl (Nat.le_of_ble_eq_true rfl) (Qt.loadNb rfl (by exact rfl) (by exact rfl)) ?_)
      | (refine K.move ?_; refine JO.q rfl rfl (Nat.le_of_ble_eq_true rfl) (Qt.move rfl) ?_)
      | (refine K.store ?_; first | refine JO.ld (Ld.storeW rfl rfl rfl (by exact rfl) (by exact rfl)) rfl (fun _ => ?_) | refine JO.ld (Ld.store1 rfl rfl (by exact rfl)) rfl (fun _ => ?_) | refine JO.ld (Ld.storeN rfl rfl rfl (by exact rfl) (by exact rfl)) rfl (fun _ => ?_))
      | (refine K.assign ?_; refine JO.q rfl rfl (Nat.le_of_ble_eq_true rfl) (Qt.assign rfl) ?_)
      | (refine K.binOp ?_; first | refine JO.q rfl rfl (Nat.le_of_ble_eq_true rfl) (Qt.cmp rfl rfl rfl) ?_ | refine JO.q rfl rfl (Nat.le_of_ble_eq_true rfl) (Qt.eqB rfl rfl) ?_ | refine JO.q rfl rfl (Nat.le_of_ble_eq_true rfl) (Qt.neB rfl rfl) ?_)
      | (refine K.unOp ?_; refine JO.q rfl rfl (Nat.le_of_ble_eq_true rfl) (Qt.not rfl) ?_)
      | (refine K.bi ?_; first | refine JO.q rfl rfl (Nat.le_of_ble_eq_true rfl) (Qt.lenM rfl) ?_ | refine JO.q rfl rfl (Nat.le_of_ble_eq_true rfl) (Qt.lenR rfl) ?_ | refine JO.q rfl rfl (Nat.le_of_ble_eq_true rfl) (Qt.lenV rfl) ?_ | refine JO.q rfl rfl (Nat.le_of_ble_eq_true rfl) (Qt.lenO rfl) ?_)
      | (refine K.extract ?_; refine JO.q rfl rfl (Nat.le_of_ble_eq_true rfl) (Qt.extract rfl rfl) ?_)
      | (refine JO.alloc rfl (Nat.le_of_ble_eq_true rfl) ?_; intro _)
      | (refine JO.box rfl (Nat.le_of_ble_eq_true rfl) rfl rfl ?_; intro _)
      | (refine K.pick ?_; refine JO.q rfl rfl (Nat.le_of_ble_eq_true rfl) (Qt.pick rfl rfl) ?_)
      | (refine K.build ?_; refine JO.q rfl rfl (Nat.le_of_ble_eq_true rfl) (Qt.build rfl (by kernel_rfl)) ?_)
      | (refine K.lit ?_; first | (refine JO.lit0 rfl (Nat.le_of_ble_eq_true rfl) ?_; intro _) | (refine JO.lit1 rfl (Nat.le_of_ble_eq_true rfl) rfl rfl rfl rfl rfl ?_; intro _))
      | (refine K.nilCheck ?_; refine JO.q rfl rfl (Nat.le_of_ble_eq_true rfl) (Qt.nilCheck rfl rfl) ?_)
      | (refine K.field ?_; refine JO.q rfl rfl (Nat.le_of_ble_eq_true rfl) (Qt.field rfl rfl (by kernel_rfl) rfl) ?_)
      | (refine K.convert ?_; refine JO.q rfl rfl (Nat.le_of_ble_eq_true rfl) (Qt.conv rfl rfl) ?_)
      | (refine K.make ?_; first | refine JO.ld (Ld.make0 (p.length) (Nat.le_of_ble_eq_true rfl) rfl rfl (by first | rfl | omega | simp) (by omega)) rfl (fun _ => ?_))
      | refine JO.nil ?_
      | refine J.seq ?_
      | refine J.region ?_
      | refine J.block ?_
      | refine J.inBlock ?_
      | refine J.skip ?_
      | refine J.exit rfl ?_
      | refine J.cond_t rfl ?_
      | refine J.cond_f rfl ?_
      | refine JO.no rfl rfl (Nat.le_of_ble_eq_true rfl) ?_)
  refine J.loop (ι := { q : Nat × Value // q.1 ≤ p.length }) (fun q => [(12, .c (opsA p)), (13, .c (nI p.length)), (14, .c (nI q.1.1)), (3, .c (.v q.1.2))]) (fun q => [.row q.1.2 29 1 ((p.take q.1.1).map fun ops => [.r 6 (ops.map eOp)])]) (fun q => p.length - q.1.1) ⟨(0, _), Nat.zero_le _⟩ (fun X h => h.weak ⟨rfl, rfl, rfl, rfl, trivial⟩) (fun q ih => ?_)
  obtain ⟨⟨k, v⟩, hk⟩ := q
  simp only at hk ih ⊢
  by_cases hk2 : k < p.length
  · have t1 : (decide ((k : Int) < (p.length : Int))) = true := by simpa using hk2
    obtain ⟨ops, ho⟩ : ∃ ops, p[k]? = some ops := ⟨_, List.getElem?_eq_getElem hk2⟩
    have J1 : (p.map fun ops => [A.r 6 (ops.map eOp)])[((k : Int)).toNat]? = some [A.r 6 (ops.map eOp)] := by rw [Int.toNat_natCast, List.getElem?_map, ho]; rfl
    obtain ⟨m1, m2⟩ := h2 ops (List.mem_of_getElem? ho)
    repeat (first
        | (refine K.fieldAddr ?_; refine JO.q rfl rfl (Nat.le_of_ble_eq_true rfl) (Qt.fieldAddr rfl rfl) ?_)
        | (refine K.load ?_; first | refine JO.q rfl rfl (Nat.le_of_ble_eq_true rfl) (Qt.load1 rfl .el rfl) ?_ | refine JO.q rfl rfl (Nat.le_of_ble_eq_true rfl) (Qt.loadW rfl .el rfl) ?_ | refine JO.q rfl rfl (Nat.le_of_ble_eq_true rfl) (Qt.loadN rfl .el rfl rfl) ?_ | refine JO.q rfl rfl (Nat.le_of_ble_eq_true rfl) (Qt.load1b rfl (by exact rfl)) ?_ | refine JO.q rfl rfl (Nat.le_of_ble_eq_true rfl) (Qt.loadWb rfl (by exact rfl)) ?_ | refine JO.q rfl rfl (Nat.le_of_ble_eq_true rfl) (Qt.loadNb rfl (by exact rfl) (by exact rfl)) ?_)
        | (refine K.move ?_; refine JO.q rfl rfl (Nat.le_of_ble_eq_true rfl) (Qt.move rfl) ?_)
        | (refine K.store ?_; first | refine JO.ld (Ld.storeW rfl rfl rfl (by exact rfl) (by exact rfl)) rfl (fun _ => ?_) | refine JO.ld (Ld.store1 rfl rfl (by exact rfl)) rfl (fun _ => ?_) | refine JO.ld (Ld.storeN rfl rfl rfl (by exact rfl) (by exact rfl)) rfl (fun _ => ?_))
        | (refine K.assign ?_; refine JO.q rfl rfl (Nat.le_of_ble_eq_true rfl) (Qt.assign rfl) ?_)
        | (refine K.indexAddr ?_; refine JO.q rfl rfl (Nat.le_of_ble_eq_true rfl) (Qt.indexR rfl rfl (by omega) (J1)) ?_)
        | (refine K.binOp ?_; first | refine JO.q rfl rfl (Nat.le_of_ble_eq_true rfl) (Qt.cmp rfl rfl (congrArg some t1)) ?_ | refine JO.q rfl rfl (Nat.le_of_ble_eq_true rfl) (Qt.cmp rfl rfl rfl) ?_ | refine JO.q rfl rfl (Nat.le_of_ble_eq_true rfl) (Qt.eqB rfl rfl) ?_ | refine JO.q rfl rfl (Nat.le_of_ble_eq_true rfl) (Qt.neB rfl rfl) ?_)
        | (refine K.unOp ?_; refine JO.q rfl rfl (Nat.le_of_ble_eq_true rfl) (Qt.not rfl) ?_)
        | (refine K.bi ?_; first | refine JO.q rfl rfl (Nat.le_of_ble_eq_true rfl) (Qt.lenM rfl) ?_ | refine JO.q rfl rfl (Nat.le_of_ble_eq_true rfl) (Qt.lenR rfl) ?_ | refine JO.q rfl rfl (Nat.le_of_ble_eq_true rfl) (Qt.lenV rfl) ?_ | refine JO.q rfl rfl (Nat.le_of_ble_eq_true rfl) (Qt.lenO rfl) ?_)
        | (refine K.extract ?_; refine JO.q rfl rfl (Nat.le_of_ble_eq_true rfl) (Qt.extract rfl rfl) ?_)
        | (refine JO.alloc rfl (Nat.le_of_ble_eq_true rfl) ?_; intro _)
        | (refine JO.box rfl (Nat.le_of_ble_eq_true rfl) rfl rfl ?_; intro _)
        | (refine K.pick ?_; refine JO.q rfl rfl (Nat.le_of_ble_eq_true rfl) (Qt.pick rfl rfl) ?_)
        | (refine K.build ?_; refine JO.q rfl rfl (Nat.le_of_ble_eq_true rfl) (Qt.build rfl (by kernel_rfl)) ?_)
        | (refine K.lit ?_; first | (refine JO.lit0 rfl (Nat.le_of_ble_eq_true rfl) ?_; intro _) | (refine JO.lit1 rfl (Nat.le_of_ble_eq_true rfl) rfl rfl rfl rfl rfl ?_; intro _))
        | (refine K.nilCheck ?_; refine JO.q rfl rfl (Nat.le_of_ble_eq_true rfl) (Qt.nilCheck rfl rfl) ?_)
        | (refine K.field ?_; refine JO.q rfl rfl (Nat.le_of_ble_eq_true rfl) (Qt.field rfl rfl (by kernel_rfl) rfl) ?_)
        | (refine K.convert ?_; refine JO.q rfl rfl (Nat.le_of_ble_eq_true rfl) (Qt.conv rfl rfl) ?_)
        | refine JO.nil ?_
        | refine J.seq ?_
        | refine J.region ?_
        | refine J.block ?_
        | refine J.inBlock ?_
        | refine J.skip ?_
        | refine J.exit rfl ?_
        | refine J.cond_t rfl ?_
        | refine J.cond_f rfl ?_
        | refine JO.no rfl rfl (Nat.le_of_ble_eq_true rfl) ?_)
    refine J.nilR 93 6 ?_
    refine J.loop (ι := { q : Nat × Value // q.1 ≤ ops.length }) (fun q => [(18, .c (.r 6 (ops.map eOp))), (19, .c (nI ops.length)), (20, .c (nI q.1.1)), (6, .c (.v q.1.2)), (12, .c (opsA p)), (13, .c (nI p.length)), (14, .c (nI k)), (3, .c (.v v))]) (fun q => [.row q.1.2 93 6 ((ops.take q.1.1).map eOp), .row v 29 1 ((p.take k).map fun ops => [.r 6 (ops.map eOp)])]) (fun q => ops.length - q.1.1) ⟨(0, .slice none 0 0), Nat.zero_le _⟩ (fun X h => h.weak ⟨rfl, rfl, rfl, rfl, rfl, rfl, rfl, rfl, trivial⟩) (fun q ih2 => ?_)
    obtain ⟨⟨j, u⟩, hj⟩ := q
    simp only at hj ih2 ⊢
    by_cases hj2 : j < ops.length
    · have t2 : (decide ((j : Int) < (ops.length : Int))) = true := by simpa using hj2
      obtain ⟨o, hoo⟩ : ∃ o, ops[j]? = some o := ⟨_, List.getElem?_eq_getElem hj2⟩
      have J2 : (ops.map eOp)[((j : Int)).toNat]? = some (eOp o) := by rw [Int.toNat_natCast, List.getElem?_map, hoo]; rfl
      have m3 := m2 o (List.mem_of_getElem? hoo)
      repeat (first
          | (refine K.fieldAddr ?_; refine JO.q rfl rfl (Nat.le_of_ble_eq_true rfl) (Qt.fieldAddr rfl rfl) ?_)
          | (refine K.load ?_; first | refine JO.q rfl rfl (Nat.le_of_ble_eq_true rfl) (Qt.load1 rfl .el rfl) ?_ | refine JO.q rfl rfl (Nat.le_of_ble_eq_true rfl) (Qt.loadW rfl .el rfl) ?_ | refine JO.q rfl rfl (Nat.le_of_ble_eq_true rfl) (Qt.loadN rfl .el rfl rfl) ?_ | refine JO.q rfl rfl (Nat.le_of_ble_eq_true rfl) (Qt.load1b rfl (by exact rfl)) ?_ | refine JO.q rfl rfl (Nat.le_of_ble_eq_true rfl) (Qt.loadWb rfl (by exact rfl)) ?_ | refine JO.q rfl rfl (Nat.le_of_ble_eq_true rfl) (Qt.loadNb rfl (by exact rfl) (by exact rfl)) ?_)
          | (refine K.move ?_; refine JO.q rfl rfl (Nat.le_of_ble_eq_true rfl) (Qt.move rfl) ?_)
          | (refine K.store ?_; first | refine JO.ld (Ld.storeW rfl rfl rfl (by exact rfl) (by exact rfl)) rfl (fun _ => ?_) | refine JO.ld (Ld.store1 rfl rfl (by exact rfl)) rfl (fun _ => ?_) | refine JO.ld (Ld.storeN rfl rfl rfl (by exact rfl) (by exact rfl)) rfl (fun _ => ?_))
          | (refine K.assign ?_; refine JO.q rfl rfl (Nat.le_of_ble_eq_true rfl) (Qt.assign rfl) ?_)
          | (refine K.indexAddr ?_; refine JO.q rfl rfl (Nat.le_of_ble_eq_true rfl) (Qt.indexR rfl rfl (by omega) (J2)) ?_)
          | (refine K.binOp ?_; first | refine JO.q rfl rfl (Nat.le_of_ble_eq_true rfl) (Qt.cmp rfl rfl (congrArg some t2)) ?_ | refine JO.q rfl rfl (Nat.le_of_ble_eq_true rfl) (Qt.ari rfl rfl rfl (w64 (by omega) (by omega))) ?_ | refine JO.q rfl rfl (Nat.le_of_ble_eq_true rfl) (Qt.cmp rfl rfl rfl) ?_ | refine JO.q rfl rfl (Nat.le_of_ble_eq_true rfl) (Qt.eqB rfl rfl) ?_ | refine JO.q rfl rfl (Nat.le_of_ble_eq_true rfl) (Qt.neB rfl rfl) ?_)
          | (refine K.unOp ?_; refine JO.q rfl rfl (Nat.le_of_ble_eq_true rfl) (Qt.not rfl) ?_)
          | (refine K.bi ?_; first | refine JO.q rfl rfl (Nat.le_of_ble_eq_true rfl) (Qt.lenM rfl) ?_ | refine JO.q rfl rfl (Nat.le_of_ble_eq_true rfl) (Qt.lenR rfl) ?_ | refine JO.q rfl rfl (Nat.le_of_ble_eq_true rfl) (Qt.lenV rfl) ?_ | refine JO.q rfl rfl (Nat.le_of_ble_eq_true rfl) (Qt.lenO rfl) ?_)
          | (refine K.extract ?_; refine JO.q rfl rfl (Nat.le_of_ble_eq_true rfl) (Qt.extract rfl rfl) ?_)
          | (refine JO.alloc rfl (Nat.le_of_ble_eq_true rfl) ?_; intro _)
          | (refine JO.box rfl (Nat.le_of_ble_eq_true rfl) rfl rfl ?_; intro _)
          | (refine K.pick ?_; refine JO.q rfl rfl (Nat.le_of_ble_eq_true rfl) (Qt.pick rfl rfl) ?_)
          | (refine K.build ?_; refine JO.q rfl rfl (Nat.le_of_ble_eq_true rfl) (Qt.build rfl (by kernel_rfl)) ?_)
          | (refine K.lit ?_; first | (refine JO.lit0 rfl (Nat.le_of_ble_eq_true rfl) ?_; intro _) | (refine JO.lit1 rfl (Nat.le_of_ble_eq_true rfl) rfl rfl rfl rfl rfl ?_; intro _))
          | (refine K.nilCheck ?_; refine JO.q rfl rfl (Nat.le_of_ble_eq_true rfl) (Qt.nilCheck rfl rfl) ?_)
          | (refine K.field ?_; refine JO.q rfl rfl (Nat.le_of_ble_eq_true rfl) (Qt.field rfl rfl (by kernel_rfl) rfl) ?_)
          | (refine K.convert ?_; refine JO.q rfl rfl (Nat.le_of_ble_eq_true rfl) (Qt.conv rfl rfl) ?_)
          | (refine K.bi ?_; first | refine JO.ld (Ld.appRn (Nat.le_of_ble_eq_true rfl) rfl rfl .read (by first | (simp; omega) | simp | omega)) rfl (fun _ => ?_) | first | refine JO.ld (Ld.appOw (Nat.le_of_ble_eq_true rfl) rfl rfl .read (by first | (simp; omega) | simp | omega)) rfl (fun _ => ?_) | refine JO.ld (Ld.appOw (Nat.le_of_ble_eq_true rfl) rfl rfl .ownC (by first | (simp; omega) | simp | omega)) rfl (fun _ => ?_) | refine JO.ld (Ld.appOw (Nat.le_of_ble_eq_true rfl) rfl rfl .nil (by first | (simp; omega) | simp | omega)) rfl (fun _ => ?_) | refine JO.ld (Ld.appOn (Nat.le_of_ble_eq_true rfl) rfl rfl .read (by first | (simp; omega) | simp | omega)) rfl (fun _ => ?_) | refine JO.ld (Ld.appOn (Nat.le_of_ble_eq_true rfl) rfl rfl .ownC (by first | (simp; omega) | simp | omega)) rfl (fun _ => ?_) | refine JO.ld (Ld.appOn (Nat.le_of_ble_eq_true rfl) rfl rfl .nil (by first | (simp; omega) | simp | omega)) rfl (fun _ => ?_))
          | refine JO.nil ?_
          | refine J.seq ?_
          | refine J.region ?_
          | refine J.block ?_
          | refine J.inBlock ?_
          | refine J.skip ?_
          | refine J.exit rfl ?_
          | refine J.cond_t rfl ?_
          | refine J.cond_f rfl ?_
          | refine JO.no rfl rfl (Nat.le_of_ble_eq_true rfl) ?_)
      refine J.dropN 1 ?_
      refine J.dropN 1 ?_
      refine J.congL ?_ ((ih2 ⟨(j + 1, _), by simp only; omega⟩ (by simp only; omega)).weak ⟨rfl, rfl, rfl, rfl, rfl, rfl, rfl, rfl, trivial⟩)
      rw [List.take_add_one, hoo, List.map_append]
      rfl
    · have t2 : (decide ((j : Int) < (ops.length : Int))) = false := by simpa using hj2
      obtain rfl : j = ops.length := by omega
      refine J.frzS 6 rfl ?_
      repeat (first
          | (refine K.fieldAddr ?_; refine JO.q rfl rfl (Nat.le_of_ble_eq_true rfl) (Qt.fieldAddr rfl rfl) ?_)
          | (refine K.load ?_; first | refine JO.q rfl rfl (Nat.le_of_ble_eq_true rfl) (Qt.load1 rfl .el rfl) ?_ | refine JO.q rfl rfl (Nat.le_of_ble_eq_true rfl) (Qt.loadW rfl .el rfl) ?_ | refine JO.q rfl rfl (Nat.le_of_ble_eq_true rfl) (Qt.loadN rfl .el rfl rfl) ?_ | refine JO.q rfl rfl (Nat.le_of_ble_eq_true rfl) (Qt.load1b rfl (by exact rfl)) ?_ | refine JO.q rfl rfl (Nat.le_of_ble_eq_true rfl) (Qt.loadWb rfl (by exact rfl)) ?_ | refine JO.q rfl rfl (Nat.le_of_ble_eq_true rfl) (Qt.loadNb rfl (by exact rfl) (by exact rfl)) ?_)
          | (refine K.move ?_; refine JO.q rfl rfl (Nat.le_of_ble_eq_true rfl) (Qt.move rfl) ?_)
          | (refine K.store ?_; first | refine JO.ld (Ld.storeW rfl rfl rfl (by exact rfl) (by exact rfl)) rfl (fun _ => ?_) | refine JO.ld (Ld.store1 rfl rfl (by exact rfl)) rfl (fun _ => ?_) | refine JO.ld (Ld.storeN rfl rfl rfl (by exact rfl) (by exact rfl)) rfl (fun _ => ?_))
          | (refine K.assign ?_; refine JO.q rfl rfl (Nat.le_of_ble_eq_true rfl) (Qt.assign rfl) ?_)
          | (refine K.binOp ?_; first | refine JO.q rfl rfl (Nat.le_of_ble_eq_true rfl) (Qt.cmp rfl rfl (congrArg some t2)) ?_ | refine JO.q rfl rfl (Nat.le_of_ble_eq_true rfl) (Qt.ari rfl rfl rfl (w64 (by omega) (by omega))) ?_ | refine JO.q rfl rfl (Nat.le_of_ble_eq_true rfl) (Qt.cmp rfl rfl rfl) ?_ | refine JO.q rfl rfl (Nat.le_of_ble_eq_true rfl) (Qt.eqB rfl rfl) ?_ | refine JO.q rfl rfl (Nat.le_of_ble_eq_true rfl) (Qt.neB rfl rfl) ?_)
          | (refine K.unOp ?_; refine JO.q rfl rfl (Nat.le_of_ble_eq_true rfl) (Qt.not rfl) ?_)
          | (refine K.bi ?_; first | refine JO.q rfl rfl (Nat.le_of_ble_eq_true rfl) (Qt.lenM rfl) ?_ | refine JO.q rfl rfl (Nat.le_of_ble_eq_true rfl) (Qt.lenR rfl) ?_ | refine JO.q rfl rfl (Nat.le_of_ble_eq_true rfl) (Qt.lenV rfl) ?_ | refine JO.q rfl rfl (Nat.le_of_ble_eq_true rfl) (Qt.lenO rfl) ?_)
          | (refine K.extract ?_; refine JO.q rfl rfl (Nat.le_of_ble_eq_true rfl) (Qt.extract rfl rfl) ?_)
          | (refine JO.alloc rfl (Nat.le_of_ble_eq_true rfl) ?_; intro _)
          | (refine JO.box rfl (Nat.le_of_ble_eq_true rfl) rfl rfl ?_; intro _)
          | (refine K.pick ?_; refine JO.q rfl rfl (Nat.le_of_ble_eq_true rfl) (Qt.pick rfl rfl) ?_)
          | (refine K.build ?_; refine JO.q rfl rfl (Nat.le_of_ble_eq_true rfl) (Qt.build rfl (by kernel_rfl)) ?_)
          | (refine K.lit ?_; first | (refine JO.lit0 rfl (Nat.le_of_ble_eq_true rfl) ?_; intro _) | (refine JO.lit1 rfl (Nat.le_of_ble_eq_true rfl) rfl rfl rfl rfl rfl ?_; intro _))
          | (refine K.nilCheck ?_; refine JO.q rfl rfl (Nat.le_of_ble_eq_true rfl) (Qt.nilCheck rfl rfl) ?_)
          | (refine K.field ?_; refine JO.q rfl rfl (Nat.le_of_ble_eq_true rfl) (Qt.field rfl rfl (by kernel_rfl) rfl) ?_)
          | (refine K.convert ?_; refine JO.q rfl rfl (Nat.le_of_ble_eq_true rfl) (Qt.conv rfl rfl) ?_)
          | (refine K.bi ?_; first | first | refine JO.ld (Ld.appOw (Nat.le_of_ble_eq_true rfl) rfl rfl .read (by first | (simp; omega) | simp | omega)) rfl (fun _ => ?_) | refine JO.ld (Ld.appOw (Nat.le_of_ble_eq_true rfl) rfl rfl .ownC (by first | (simp; omega) | simp | omega)) rfl (fun _ => ?_) | refine JO.ld (Ld.appOw (Nat.le_of_ble_eq_true rfl) rfl rfl .nil (by first | (simp; omega) | simp | omega)) rfl (fun _ => ?_) | refine JO.ld (Ld.appOn (Nat.le_of_ble_eq_true rfl) rfl rfl .read (by first | (simp; omega) | simp | omega)) rfl (fun _ => ?_) | refine JO.ld (Ld.appOn (Nat.le_of_ble_eq_true rfl) rfl rfl .ownC (by first | (simp; omega) | simp | omega)) rfl (fun _ => ?_) | refine JO.ld (Ld.appOn (Nat.le_of_ble_eq_true rfl) rfl rfl .nil (by first | (simp; omega) | simp | omega)) rfl (fun _ => ?_))
          | refine JO.nil ?_
          | refine J.seq ?_
          | refine J.region ?_
          | refine J.block ?_
          | refine J.inBlock ?_
          | refine J.skip ?_
          | refine J.exit rfl ?_
          | refine J.cond_t rfl ?_
          | refine J.cond_f rfl ?_
          | refine JO.no rfl rfl (Nat.le_of_ble_eq_true rfl) ?_)
      refine J.dropN 1 ?_
      refine J.congL ?_ ((ih ⟨(k + 1, _), by simp only; omega⟩ (by simp only; omega)).weak ⟨rfl, rfl, rfl, rfl, trivial⟩)
      rw [List.take_add_one, ho, List.map_append, List.take_of_length_le (Nat.le_refl _)]
      rfl
  · have t1 : (decide ((k : Int) < (p.length : Int))) = false := by simpa using hk2
    obtain rfl : k = p.length := by omega
    rw [List.take_of_length_le (Nat.le_refl _)]
    repeat (first
        | (refine K.fieldAddr ?_; refine JO.q rfl rfl (Nat.le_of_ble_eq_true rfl) (Qt.fieldAddr rfl rfl) ?_)
        | (refine K.load ?_; first | refine JO.q rfl rfl (Nat.le_of_ble_eq_true rfl) (Qt.load1 rfl .el rfl) ?_ | refine JO.q rfl rfl (Nat.le_of_ble_eq_true rfl) (Qt.loadW rfl .el rfl) ?_ | refine JO.q rfl rfl (Nat.le_of_ble_eq_true rfl) (Qt.loadN rfl .el rfl rfl) ?_ | refine JO.q rfl rfl (Nat.le_of_ble_eq_true rfl) (Qt.load1b rfl (by exact rfl)) ?_ | refine JO.q rfl rfl (Nat.le_of_ble_eq_true rfl) (Qt.loadWb rfl (by exact rfl)) ?_ | refine JO.q rfl rfl (Nat.le_of_ble_eq_true rfl) (Qt.loadNb rfl (by exact rfl) (by exact rfl)) ?_)
        | (refine K.move ?_; refine JO.q rfl rfl (Nat.le_of_ble_eq_true rfl) (Qt.move rfl) ?_)
        | (refine K.store ?_; first | refine JO.ld (Ld.storeW rfl rfl rfl (by exact rfl) (by exact rfl)) rfl (fun _ => ?_) | refine JO.ld (Ld.store1 rfl rfl (by exact rfl)) rfl (fun _ => ?_) | refine JO.ld (Ld.storeN rfl rfl rfl (by exact rfl) (by exact rfl)) rfl (fun _ => ?_))
        | (refine K.assign ?_; refine JO.q rfl rfl (Nat.le_of_ble_eq_true rfl) (Qt.assign rfl) ?_)
        | (refine K.binOp ?_; first | refine JO.q rfl rfl (Nat.le_of_ble_eq_true rfl) (Qt.cmp rfl rfl (congrArg some t1)) ?_ | refine JO.q rfl rfl (Nat.le_of_ble_eq_true rfl) (Qt.cmp rfl rfl rfl) ?_ | refine JO.q rfl rfl (Nat.le_of_ble_eq_true rfl) (Qt.eqB rfl rfl) ?_ | refine JO.q rfl rfl (Nat.le_of_ble_eq_true rfl) (Qt.neB rfl rfl) ?_)
        | (refine K.unOp ?_; refine JO.q rfl rfl (Nat.le_of_ble_eq_true rfl) (Qt.not rfl) ?_)
        | (refine K.bi ?_; first | refine JO.q rfl rfl (Nat.le_of_ble_eq_true rfl) (Qt.lenM rfl) ?_ | refine JO.q rfl rfl (Nat.le_of_ble_eq_true rfl) (Qt.lenR rfl) ?_ | refine JO.q rfl rfl (Nat.le_of_ble_eq_true rfl) (Qt.lenV rfl) ?_ | refine JO.q rfl rfl (Nat.le_of_ble_eq_true rfl) (Qt.lenO rfl) ?_)
        | (refine K.extract ?_; refine JO.q rfl rfl (Nat.le_of_ble_eq_true rfl) (Qt.extract rfl rfl) ?_)
        | (refine JO.alloc rfl (Nat.le_of_ble_eq_true rfl) ?_; intro _)
        | (refine JO.box rfl (Nat.le_of_ble_eq_true rfl) rfl rfl ?_; intro _)
        | (refine K.pick ?_; refine JO.q rfl rfl (Nat.le_of_ble_eq_true rfl) (Qt.pick rfl rfl) ?_)
        | (refine K.build ?_; refine JO.q rfl rfl (Nat.le_of_ble_eq_true rfl) (Qt.build rfl (by kernel_rfl)) ?_)
        | (refine K.lit ?_; first | (refine JO.lit0 rfl (Nat.le_of_ble_eq_true rfl) ?_; intro _) | (refine JO.lit1 rfl (Nat.le_of_ble_eq_true rfl) rfl rfl rfl rfl rfl ?_; intro _))
        | (refine K.nilCheck ?_; refine JO.q rfl rfl (Nat.le_of_ble_eq_true rfl) (Qt.nilCheck rfl rfl) ?_)
        | (refine K.field ?_; refine JO.q rfl rfl (Nat.le_of_ble_eq_true rfl) (Qt.field rfl rfl (by kernel_rfl) rfl) ?_)
        | (refine K.convert ?_; refine JO.q rfl rfl (Nat.le_of_ble_eq_true rfl) (Qt.conv rfl rfl) ?_)
        | refine JO.nil ?_
        | refine J.seq ?_
        | refine J.region ?_
        | refine J.block ?_
        | refine J.inBlock ?_
        | refine J.skip ?_
        | refine J.exit rfl ?_
        | refine J.cond_t rfl ?_
        | refine J.cond_f rfl ?_
        | refine JO.no rfl rfl (Nat.le_of_ble_eq_true rfl) ?_)
    refine J.frzS 2 rfl ?_
    exact J.ret Try.func15 rfl (.cons (.tmp rfl) .nil) () (by first | exact .agg (by repeat (first | exact .nil | refine .cons .refl ?_ | refine .cons .nil ?_ | refine .cons .snoc ?_ | refine .cons .clone ?_)) | exact .refl | exact .c .nil | exact .tup (by repeat (first | exact .nil | refine .cons (.agg (by repeat (first | exact .nil | refine .cons .refl ?_ | refine .cons .nil ?_ | refine .cons .snoc ?_ | refine .cons .clone ?_))) ?_ | refine .cons .refl ?_ | refine .cons (.c .nil) ?_ | refine .cons (.c .snoc) ?_ | refine .cons (.c .clone) ?_))) [] .nil rfl rfl
set_option maxHeartbeats 2000000 in
/-- a goroutine as the state tells it, but for what the bench has -/
theorem c_cloneG (L : List Res) (x : Sx.Gr) (v w : Value) {i j : Nat} (hi : L[i]? = some (.row v 3 1 (nums x.sgs))) (hj : L[j]? = some (.row w 3 1 (nums x.wakes)))
    (b1 : x.ops.length ≤ 100000) (b2 : ∀ o ∈ x.ops, o.cases.length ≤ 1000) (b3 : x.order.length ≤ 1000) (b4 : x.locks.length ≤ 1000) (b5 : x.sgs.length ≤ 1000) (b6 : x.wakes.length ≤ 1000) :
    Con Try.prog 26 [.agg (gW x v w)] L (fun _ : Unit => (.agg (eG { x with status := 0, token := false }), L)) := by
  have C1 := c_wClone [x.ops] (by simp) (by intro ops ho; obtain rfl := List.mem_singleton.1 ho; exact ⟨b1, b2⟩)
  haveI hi' : RowAt L v 3 1 (nums x.sgs) i := ⟨hi⟩
  haveI hj' : RowAt L w 3 1 (nums x.wakes) j := ⟨hj⟩
  refine Con.intro Try.func26 rfl rfl rfl (fun ok e => ?_)
  have l5 : (nums x.sgs).length = x.sgs.length := nums_len _
  have l6 : (nums x.wakes).length = x.wakes.length := nums_len _
  repeat (first
      | (refine K.fieldAddr ?_; refine JO.q rfl rfl (Nat.le_of_ble_eq_true rfl) (Qt.fieldAddr rfl rfl) ?_)
      | (refine K.load ?_; first | refine JO.q rfl rfl (Nat.le_of_ble_eq_true rfl) (Qt.load1 rfl .el rfl) ?_ | refine JO.q rfl rfl (Nat.le_of_ble_eq_true rfl) (Qt.loadW rfl .el rfl) ?_ | refine JO.q rfl rfl (Nat.le_of_ble_eq_true rfl) (Qt.loadN rfl .el rfl rfl) ?_ | refine JO.q rfl rfl (Nat.le_of_ble_eq_true rfl) (Qt.load1b rfl (by exact rfl)) ?_ | refine JO.q rfl rfl (Nat.le_of_ble_eq_true rfl) (Qt.loadWb rfl (by exact rfl)) ?_ | refine JO.q rfl rfl (Nat.le_of_ble_eq_true rfl) (Qt.loadNb rfl (by exact rfl) (by exact rfl)) ?_)
      | (refine K.move ?_; refine JO.q rfl rfl (Nat.le_of_ble_eq_true rfl) (Qt.move rfl) ?_)
      | (refine K.store ?_; first | refine JO.ld (Ld.storeW rfl rfl rfl (by exact rfl) (by exact rfl)) rfl (fun _ => ?_) | refine JO.ld (Ld.store1 rfl rfl (by exact rfl)) rfl (fun _ => ?_) | refine JO.ld (Ld.storeN rfl rfl rfl (by exact rfl) (by exact rfl)) rfl (fun _ => ?_))
      | (refine K.assign ?_; refine JO.q rfl rfl (Nat.le_of_ble_eq_true rfl) (Qt.assign rfl) ?_)
      | (refine K.indexAddr ?_; refine JO.q rfl rfl (Nat.le_of_ble_eq_true rfl) (Qt.indexR rfl rfl (by omega) (rfl)) ?_)
      | (refine K.binOp ?_; first | refine JO.q rfl rfl (Nat.le_of_ble_eq_true rfl) (Qt.cmp rfl rfl rfl) ?_ | refine JO.q rfl rfl (Nat.le_of_ble_eq_true rfl) (Qt.eqB rfl rfl) ?_ | refine JO.q rfl rfl (Nat.le_of_ble_eq_true rfl) (Qt.neB rfl rfl) ?_)
      | (refine K.call ?_; first | (refine JO.pure (C1) rfl (Nat.le_of_ble_eq_true rfl) rfl ?_ ?_; focus ((repeat (first | exact LeDs.nil | refine LeDs.cons (LeD.agg (by repeat (first | exact .nil | refine .cons .refl ?_ | refine .cons .nil ?_ | refine .cons .snoc ?_ | refine .cons .clone ?_))) ?_ | refine LeDs.cons LeD.refl ?_ | refine LeDs.cons (LeD.c LeA.nil) ?_ | refine LeDs.cons (LeD.c LeA.snoc) ?_ | refine LeDs.cons (LeD.c LeA.clone) ?_)); done)))
      | (refine K.unOp ?_; refine JO.q rfl rfl (Nat.le_of_ble_eq_true rfl) (Qt.not rfl) ?_)
      | (refine K.bi ?_; first | refine JO.q rfl rfl (Nat.le_of_ble_eq_true rfl) (Qt.lenM rfl) ?_ | refine JO.q rfl rfl (Nat.le_of_ble_eq_true rfl) (Qt.lenR rfl) ?_ | refine JO.q rfl rfl (Nat.le_of_ble_eq_true rfl) (Qt.lenV rfl) ?_ | refine JO.q rfl rfl (Nat.le_of_ble_eq_true rfl) (Qt.lenO rfl) ?_)
      | (refine K.extract ?_; refine JO.q rfl rfl (Nat.le_of_ble_eq_true rfl) (Qt.extract rfl rfl) ?_)
      | (refine JO.alloc rfl (Nat.le_of_ble_eq_true rfl) ?_; intro _)
      | (refine JO.box rfl (Nat.le_of_ble_eq_true rfl) rfl rfl ?_; intro _)
      | (refine K.pick ?_; refine JO.q rfl rfl (Nat.le_of_ble_eq_true rfl) (Qt.pick rfl rfl) ?_)
      | (refine K.build ?_; refine JO.q rfl rfl (Nat.le_of_ble_eq_true rfl) (Qt.build rfl (by kernel_rfl)) ?_)
      | (refine K.lit ?_; first | first | (refine JO.ld (Ld.lit0R (Nat.le_of_ble_eq_true rfl)) rfl (fun _ => ?_)) | (refine JO.ld (Ld.lit1R (Nat.le_of_ble_eq_true rfl) rfl rfl rfl rfl rfl) rfl (fun _ => ?_)) | (refine JO.lit0 rfl (Nat.le_of_ble_eq_true rfl) ?_; intro _) | (refine JO.lit1 rfl (Nat.le_of_ble_eq_true rfl) rfl rfl rfl rfl rfl ?_; intro _))
      | (refine K.nilCheck ?_; refine JO.q rfl rfl (Nat.le_of_ble_eq_true rfl) (Qt.nilCheck rfl rfl) ?_)
      | (refine K.field ?_; refine JO.q rfl rfl (Nat.le_of_ble_eq_true rfl) (Qt.field rfl rfl (by kernel_rfl) rfl) ?_)
      | (refine K.convert ?_; refine JO.q rfl rfl (Nat.le_of_ble_eq_true rfl) (Qt.conv rfl rfl) ?_)
      | (refine K.bi ?_; first | first | refine JO.ld (Ld.appRw (Nat.le_of_ble_eq_true rfl) rfl rfl .read (by first | (simp; omega) | simp | omega)) rfl (fun _ => ?_) | refine JO.ld (Ld.appRw (Nat.le_of_ble_eq_true rfl) rfl rfl .ownC (by first | (simp; omega) | simp | omega)) rfl (fun _ => ?_) | refine JO.ld (Ld.appRw (Nat.le_of_ble_eq_true rfl) rfl rfl .nil (by first | (simp; omega) | simp | omega)) rfl (fun _ => ?_) | refine JO.ld (Ld.appRn (Nat.le_of_ble_eq_true rfl) rfl rfl .read (by first | (simp; omega) | simp | omega)) rfl (fun _ => ?_) | refine JO.ld (Ld.appRn (Nat.le_of_ble_eq_true rfl) rfl rfl .ownC (by first | (simp; omega) | simp | omega)) rfl (fun _ => ?_) | refine JO.ld (Ld.appRn (Nat.le_of_ble_eq_true rfl) rfl rfl .nil (by first | (simp; omega) | simp | omega)) rfl (fun _ => ?_))
      | refine JO.nil ?_
      | refine J.seq ?_
      | refine J.region ?_
      | refine J.block ?_
      | refine J.inBlock ?_
      | refine J.skip ?_
      | refine J.exit rfl ?_
      | refine J.cond_t rfl ?_
      | refine J.cond_f rfl ?_
      | refine JO.no rfl rfl (Nat.le_of_ble_eq_true rfl) ?_)
  first
    | exact J.retE [_, _] rfl Try.func26 rfl (.cons (.cell 0 rfl rfl rfl) .nil) () (by first | exact .agg (by repeat (first | exact .nil | refine .cons .refl ?_ | refine .cons .nil ?_ | refine .cons .snoc ?_ | refine .cons .clone ?_)) | exact .refl | exact .c .nil | exact .tup (by repeat (first | exact .nil | refine .cons (.agg (by repeat (first | exact .nil | refine .cons .refl ?_ | refine .cons .nil ?_ | refine .cons .snoc ?_ | refine .cons .clone ?_))) ?_ | refine .cons .refl ?_ | refine .cons (.c .nil) ?_ | refine .cons (.c .snoc) ?_ | refine .cons (.c .clone) ?_))) rfl
    | exact J.retE [_, _] rfl Try.func26 rfl (.cons (.cell 1 rfl rfl rfl) .nil) () (by first | exact .agg (by repeat (first | exact .nil | refine .cons .refl ?_ | refine .cons .nil ?_ | refine .cons .snoc ?_ | refine .cons .clone ?_)) | exact .refl | exact .c .nil | exact .tup (by repeat (first | exact .nil | refine .cons (.agg (by repeat (first | exact .nil | refine .cons .refl ?_ | refine .cons .nil ?_ | refine .cons .snoc ?_ | refine .cons .clone ?_))) ?_ | refine .cons .refl ?_ | refine .cons (.c .nil) ?_ | refine .cons (.c .snoc) ?_ | refine .cons (.c .clone) ?_))) rfl
    | exact J.retE [_, _] rfl Try.func26 rfl (.cons (.cell 2 rfl rfl rfl) .nil) () (by first | exact .agg (by repeat (first | exact .nil | refine .cons .refl ?_ | refine .cons .nil ?_ | refine .cons .snoc ?_ | refine .cons .clone ?_)) | exact .refl | exact .c .nil | exact .tup (by repeat (first | exact .nil | refine .cons (.agg (by repeat (first | exact .nil | refine .cons .refl ?_ | refine .cons .nil ?_ | refine .cons .snoc ?_ | refine .cons .clone ?_))) ?_ | refine .cons .refl ?_ | refine .cons (.c .nil) ?_ | refine .cons (.c .snoc) ?_ | refine .cons (.c .clone) ?_))) rfl
    | exact J.retE [_, _] rfl Try.func26 rfl (.cons (.cell 3 rfl rfl rfl) .nil) () (by first | exact .agg (by repeat (first | exact .nil | refine .cons .refl ?_ | refine .cons .nil ?_ | refine .cons .snoc ?_ | refine .cons .clone ?_)) | exact .refl | exact .c .nil | exact .tup (by repeat (first | exact .nil | refine .cons (.agg (by repeat (first | exact .nil | refine .cons .refl ?_ | refine .cons .nil ?_ | refine .cons .snoc ?_ | refine .cons .clone ?_))) ?_ | refine .cons .refl ?_ | refine .cons (.c .nil) ?_ | refine .cons (.c .snoc) ?_ | refine .cons (.c .clone) ?_))) rfl
    | exact J.retE [_, _] rfl Try.func26 rfl (.cons (.cell 4 rfl rfl rfl) .nil) () (by first | exact .agg (by repeat (first | exact .nil | refine .cons .refl ?_ | refine .cons .nil ?_ | refine .cons .snoc ?_ | refine .cons .clone ?_)) | exact .refl | exact .c .nil | exact .tup (by repeat (first | exact .nil | refine .cons (.agg (by repeat (first | exact .nil | refine .cons .refl ?_ | refine .cons .nil ?_ | refine .cons .snoc ?_ | refine .cons .clone ?_))) ?_ | refine .cons .refl ?_ | refine .cons (.c .nil) ?_ | refine .cons (.c .snoc) ?_ | refine .cons (.c .clone) ?_))) rfl
    | exact J.retE [_, _] rfl Try.func26 rfl (.cons (.cell 5 rfl rfl rfl) .nil) () (by first | exact .agg (by repeat (first | exact .nil | refine .cons .refl ?_ | refine .cons .nil ?_ | refine .cons .snoc ?_ | refine .cons .clone ?_)) | exact .refl | exact .c .nil | exact .tup (by repeat (first | exact .nil | refine .cons (.agg (by repeat (first | exact .nil | refine .cons .refl ?_ | refine .cons .nil ?_ | refine .cons .snoc ?_ | refine .cons .clone ?_))) ?_ | refine .cons .refl ?_ | refine .cons (.c .nil) ?_ | refine .cons (.c .snoc) ?_ | refine .cons (.c .clone) ?_))) rfl
    | exact J.retE [_, _] rfl Try.func26 rfl (.cons (.cell 6 rfl rfl rfl) .nil) () (by first | exact .agg (by repeat (first | exact .nil | refine .cons .refl ?_ | refine .cons .nil ?_ | refine .cons .snoc ?_ | refine .cons .clone ?_)) | exact .refl | exact .c .nil | exact .tup (by repeat (first | exact .nil | refine .cons (.agg (by repeat (first | exact .nil | refine .cons .refl ?_ | refine .cons .nil ?_ | refine .cons .snoc ?_ | refine .cons .clone ?_))) ?_ | refine .cons .refl ?_ | refine .cons (.c .nil) ?_ | refine .cons (.c .snoc) ?_ | refine .cons (.c .clone) ?_))) rfl
    | exact J.retE [_, _] rfl Try.func26 rfl (.cons (.cell 7 rfl rfl rfl) .nil) () (by first | exact .agg (by repeat (first | exact .nil | refine .cons .refl ?_ | refine .cons .nil ?_ | refine .cons .snoc ?_ | refine .cons .clone ?_)) | exact .refl | exact .c .nil | exact .tup (by repeat (first | exact .nil | refine .cons (.agg (by repeat (first | exact .nil | refine .cons .refl ?_ | refine .cons .nil ?_ | refine .cons .snoc ?_ | refine .cons .clone ?_))) ?_ | refine .cons .refl ?_ | refine .cons (.c .nil) ?_ | refine .cons (.c .snoc) ?_ | refine .cons (.c .clone) ?_))) rfl
    | exact J.retE [_, _] rfl Try.func26 rfl (.cons (.cell 8 rfl rfl rfl) .nil) () (by first | exact .agg (by repeat (first | exact .nil | refine .cons .refl ?_ | refine .cons .nil ?_ | refine .cons .snoc ?_ | refine .cons .clone ?_)) | exact .refl | exact .c .nil | exact .tup (by repeat (first | exact .nil | refine .cons (.agg (by repeat (first | exact .nil | refine .cons .refl ?_ | refine .cons .nil ?_ | refine .cons .snoc ?_ | refine .cons .clone ?_))) ?_ | refine .cons .refl ?_ | refine .cons (.c .nil) ?_ | refine .cons (.c .snoc) ?_ | refine .cons (.c .clone) ?_))) rfl
    | exact J.finE [_, _] rfl Try.func26 rfl (.cons (.cell 0 rfl rfl rfl) .nil) () (by first | exact .agg (by repeat (first | exact .nil | refine .cons .refl ?_ | refine .cons .nil ?_ | refine .cons .snoc ?_ | refine .cons .clone ?_)) | exact .refl | exact .c .nil | exact .tup (by repeat (first | exact .nil | refine .cons (.agg (by repeat (first | exact .nil | refine .cons .refl ?_ | refine .cons .nil ?_ | refine .cons .snoc ?_ | refine .cons .clone ?_))) ?_ | refine .cons .refl ?_ | refine .cons (.c .nil) ?_ | refine .cons (.c .snoc) ?_ | refine .cons (.c .clone) ?_))) rfl
    | exact J.finE [_, _] rfl Try.func26 rfl (.cons (.cell 1 rfl rfl rfl) .nil) () (by first | exact .agg (by repeat (first | exact .nil | refine .cons .refl ?_ | refine .cons .nil ?_ | refine .cons .snoc ?_ | refine .cons .clone ?_)) | exact .refl | exact .c .nil | exact .tup (by repeat (first | exact .nil | refine .cons (.agg (by repeat (first | exact .nil | refine .cons .refl ?_ | refine .cons .nil ?_ | refine .cons .snoc ?_ | refine .cons .clone ?_))) ?_ | refine .cons .refl ?_ | refine .cons (.c .nil) ?_ | refine .cons (.c .snoc) ?_ | refine .cons (.c .clone) ?_))) rfl
    | exact J.finE [_, _] rfl Try.func26 rfl (.cons (.cell 2 rfl rfl rfl) .nil) () (by first | exact .agg (by repeat (first | exact .nil | refine .cons .refl ?_ | refine .cons .nil ?_ | refine .cons .snoc ?_ | refine .cons .clone ?_)) | exact .refl | exact .c .nil | exact .tup (by repeat (first | exact .nil | refine .cons (.agg (by repeat (first | exact .nil | refine .cons .refl ?_ | refine .cons .nil ?_ | refine .cons .snoc ?_ | refine .cons .clone ?_))) ?_ | refine .cons .refl ?_ | refine .cons (.c .nil) ?_ | refine .cons (.c .snoc) ?_ | refine .cons (.c .clone) ?_))) rfl
    | exact J.finE [_, _] rfl Try.func26 rfl (.cons (.cell 3 rfl rfl rfl) .nil) () (by first | exact .agg (by repeat (first | exact .nil | refine .cons .refl ?_ | refine .cons .nil ?_ | refine .cons .snoc ?_ | refine .cons .clone ?_)) | exact .refl | exact .c .nil | exact .tup (by repeat (first | exact .nil | refine .cons (.agg (by repeat (first | exact .nil | refine .cons .refl ?_ | refine .cons .nil ?_ | refine .cons .snoc ?_ | refine .cons .clone ?_))) ?_ | refine .cons .refl ?_ | refine .cons (.c .nil) ?_ | refine .cons (.c .snoc) ?_ | refine .cons (.c .clone) ?_))) rfl
    | exact J.finE [_, _] rfl Try.func26 rfl (.cons (.cell 4 rfl rfl rfl) .nil) () (by first | exact .agg (by repeat (first | exact .nil | refine .cons .refl ?_ | refine .cons .nil ?_ | refine .cons .snoc ?_ | refine .cons .clone ?_)) | exact .refl | exact .c .nil | exact .tup (by repeat (first | exact .nil | refine .cons (.agg (by repeat (first | exact .nil | refine .cons .refl ?_ | refine .cons .nil ?_ | refine .cons .snoc ?_ | refine .cons .clone ?_))) ?_ | refine .cons .refl ?_ | refine .cons (.c .nil) ?_ | refine .cons (.c .snoc) ?_ | refine .cons (.c .clone) ?_))) rfl
    | exact J.finE [_, _] rfl Try.func26 rfl (.cons (.cell 5 rfl rfl rfl) .nil) () (by first | exact .agg (by repeat (first | exact .nil | refine .cons .refl ?_ | refine .cons .nil ?_ | refine .cons .snoc ?_ | refine .cons .clone ?_)) | exact .refl | exact .c .nil | exact .tup (by repeat (first | exact .nil | refine .cons (.agg (by repeat (first | exact .nil | refine .cons .refl ?_ | refine .cons .nil ?_ | refine .cons .snoc ?_ | refine .cons .clone ?_))) ?_ | refine .cons .refl ?_ | refine .cons (.c .nil) ?_ | refine .cons (.c .snoc) ?_ | refine .cons (.c .clone) ?_))) rfl
    | exact J.finE [_, _] rfl Try.func26 rfl (.cons (.cell 6 rfl rfl rfl) .nil) () (by first | exact .agg (by repeat (first | exact .nil | refine .cons .refl ?_ | refine .cons .nil ?_ | refine .cons .snoc ?_ | refine .cons .clone ?_)) | exact .refl | exact .c .nil | exact .tup (by repeat (first | exact .nil | refine .cons (.agg (by repeat (first | exact .nil | refine .cons .refl ?_ | refine .cons .nil ?_ | refine .cons .snoc ?_ | refine .cons .clone ?_))) ?_ | refine .cons .refl ?_ | refine .cons (.c .nil) ?_ | refine .cons (.c .snoc) ?_ | refine .cons (.c .clone) ?_))) rfl
    | exact J.finE [_, _] rfl Try.func26 rfl (.cons (.cell 7 rfl rfl rfl) .nil) () (by first | exact .agg (by repeat (first | exact .nil | refine .cons .refl ?_ | refine .cons .nil ?_ | refine .cons .snoc ?_ | refine .cons .clone ?_)) | exact .refl | exact .c .nil | exact .tup (by repeat (first | exact .nil | refine .cons (.agg (by repeat (first | exact .nil | refine .cons .refl ?_ | refine .cons .nil ?_ | refine .cons .snoc ?_ | refine .cons .clone ?_))) ?_ | refine .cons .refl ?_ | refine .cons (.c .nil) ?_ | refine .cons (.c .snoc) ?_ | refine .cons (.c .clone) ?_))) rfl
    | exact J.finE [_, _] rfl Try.func26 rfl (.cons (.cell 8 rfl rfl rfl) .nil) () (by first | exact .agg (by repeat (first | exact .nil | refine .cons .refl ?_ | refine .cons .nil ?_ | refine .cons .snoc ?_ | refine .cons .clone ?_)) | exact .refl | exact .c .nil | exact .tup (by repeat (first | exact .nil | refine .cons (.agg (by repeat (first | exact .nil | refine .cons .refl ?_ | refine .cons .nil ?_ | refine .cons .snoc ?_ | refine .cons .clone ?_))) ?_ | refine .cons .refl ?_ | refine .cons (.c .nil) ?_ | refine .cons (.c .snoc) ?_ | refine .cons (.c .clone) ?_))) rfl
end Fl
end Go.Proofs.Ytofnbflkhgammaa
/- FpA -/
namespace Go.Proofs.Ytofnbflkhgammaa
open Go.RowKit
set_option linter.unusedVariables false
set_option linter.unusedSimpArgs false
set_option linter.unnecessarySimpa false
namespace Fl
set_option maxRecDepth 100000
/-- what a world's state must keep to, so that its parts can be told -/
structure Fw (s : Sx.St) : Prop where
  gs : s.gs.length ≤ 8
  ch : s.chans.length ≤ 8
  su : s.sudogs.length ≤ 64
  dn : s.done.length ≤ 100000
  dr : s.draws.length ≤ 100000
  cl : s.cache.length = s.gs.length
  cb : ∀ l ∈ s.cache, l.length ≤ 1000
  mb : s.middle.length ≤ 1000
  fr : 0 ≤ s.fresh
  cp : ∀ c ∈ s.chans, 0 ≤ c.cap
  op : ∀ x ∈ s.gs, x.ops.length ≤ 100000 ∧ ∀ o ∈ x.ops, o.cases.length ≤ 1000
  or_ : ∀ x ∈ s.gs, x.order.length ≤ 1000 ∧ x.locks.length ≤ 1000 ∧ x.sgs.length ≤ 1000 ∧ x.wakes.length ≤ 1000
set_option maxHeartbeats 2000000 in
theorem c_receivers (ch : Int) (h0 : 0 ≤ ch) (h1 : ch ≤ 100000) : Pure Try.prog 34 [.c (nI ch)] (.c (nI (2 * ch - 2))) := by
  refine Con.intro Try.func34 rfl rfl rfl (fun ok e => ?_)
  repeat (first
      | (refine K.fieldAddr ?_; refine JO.q rfl rfl (Nat.le_of_ble_eq_true rfl) (Qt.fieldAddr rfl rfl) ?_)
      | (refine K.load ?_; first | refine JO.q rfl rfl (Nat.le_of_ble_eq_true rfl) (Qt.load1 rfl .el rfl) ?_ | refine JO.q rfl rfl (Nat.le_of_ble_eq_true rfl) (Qt.loadW rfl .el rfl) ?_ | refine JO.q rfl rfl (Nat.le_of_ble_eq_true rfl) (Qt.loadN rfl .el rfl rfl) ?_ | refine JO.q rfl rfl (Nat.le_of_ble_eq_true rfl) (Qt.load1b rfl (by exact rfl)) ?_ | refine JO.q rfl rfl (Nat.le_of_ble_eq_true rfl) (Qt.loadWb rfl (by exact rfl)) ?_ | refine JO.q rfl rfl (Nat.le_of_ble_eq_true rfl) (Qt.loadNb rfl (by exact rfl) (by exact rfl)) ?_)
      | (refine K.move ?_; refine JO.q rfl rfl (Nat.le_of_ble_eq_true rfl) (Qt.move rfl) ?_)
      | (refine K.store ?_; first | refine JO.ld (Ld.storeW rfl rfl rfl (by exact rfl) (by exact rfl)) rfl (fun _ => ?_) | refine JO.ld (Ld.store1 rfl rfl (by exact rfl)) rfl (fun _ => ?_) | refine JO.ld (Ld.storeN rfl rfl rfl (by exact rfl) (by exact rfl)) rfl (fun _ => ?_))
      | (refine K.assign ?_; refine JO.q rfl rfl (Nat.le_of_ble_eq_true rfl) (Qt.assign rfl) ?_)
      | (refine K.binOp ?_; first | refine JO.q rfl rfl (Nat.le_of_ble_eq_true rfl) (Qt.ari rfl rfl rfl (w64 (by omega) (by omega))) ?_ | refine JO.q rfl rfl (Nat.le_of_ble_eq_true rfl) (Qt.cmp rfl rfl rfl) ?_ | refine JO.q rfl rfl (Nat.le_of_ble_eq_true rfl) (Qt.eqB rfl rfl) ?_ | refine JO.q rfl rfl (Nat.le_of_ble_eq_true rfl) (Qt.neB rfl rfl) ?_)
      | (refine K.unOp ?_; refine JO.q rfl rfl (Nat.le_of_ble_eq_true rfl) (Qt.not rfl) ?_)
      | (refine K.bi ?_; first | refine JO.q rfl rfl (Nat.le_of_ble_eq_true rfl) (Qt.lenM rfl) ?_ | refine JO.q rfl rfl (Nat.le_of_ble_eq_true rfl) (Qt.lenR rfl) ?_ | refine JO.q rfl rfl (Nat.le_of_ble_eq_true rfl) (Qt.lenV rfl) ?_ | refine JO.q rfl rfl (Nat.le_of_ble_eq_true rfl) (Qt.lenO rfl) ?_)
      | (refine K.extract ?_; refine JO.q rfl rfl (Nat.le_of_ble_eq_true rfl) (Qt.extract rfl rfl) ?_)
      | (refine JO.alloc rfl (Nat.le_of_ble_eq_true rfl) ?_; intro _)
      | (refine JO.box rfl (Nat.le_of_ble_eq_true rfl) rfl rfl ?_; intro _)
      | (refine K.pick ?_; refine JO.q rfl rfl (Nat.le_of_ble_eq_true rfl) (Qt.pick rfl rfl) ?_)
      | (refine K.build ?_; refine JO.q rfl rfl (Nat.le_of_ble_eq_true rfl) (Qt.build rfl (by kernel_rfl)) ?_)
      | (refine K.lit ?_; first | (refine JO.lit0 rfl (Nat.le_of_ble_eq_true rfl) ?_; intro _) | (refine JO.lit1 rfl (Nat.le_of_ble_eq_true rfl) rfl rfl rfl rfl rfl ?_; intro _))
      | (refine K.nilCheck ?_; refine JO.q rfl rfl (Nat.le_of_ble_eq_true rfl) (Qt.nilCheck rfl rfl) ?_)
      | (refine K.field ?_; refine JO.q rfl rfl (Nat.le_of_ble_eq_true rfl) (Qt.field rfl rfl (by kernel_rfl) rfl) ?_)
      | (refine K.convert ?_; refine JO.q rfl rfl (Nat.le_of_ble_eq_true rfl) (Qt.conv rfl rfl) ?_)
      | refine JO.nil ?_
      | refine J.seq ?_
      | refine J.region ?_
      | refine J.block ?_
      | refine J.inBlock ?_
      | refine J.skip ?_
      | refine J.exit rfl ?_
      | refine J.cond_t rfl ?_
      | refine J.cond_f rfl ?_
      | refine JO.no rfl rfl (Nat.le_of_ble_eq_true rfl) ?_)
  exact J.ret Try.func34 rfl (.cons (.tmp rfl) .nil) () (by first | exact .agg (by repeat (first | exact .nil | refine .cons .refl ?_ | refine .cons .nil ?_ | refine .cons .snoc ?_ | refine .cons .clone ?_)) | exact .refl | exact .c .nil | exact .tup (by repeat (first | exact .nil | refine .cons (.agg (by repeat (first | exact .nil | refine .cons .refl ?_ | refine .cons .nil ?_ | refine .cons .snoc ?_ | refine .cons .clone ?_))) ?_ | refine .cons .refl ?_ | refine .cons (.c .nil) ?_ | refine .cons (.c .snoc) ?_ | refine .cons (.c .clone) ?_))) [] .nil rfl rfl
set_option maxHeartbeats 2000000 in
theorem c_senders (ch : Int) (h0 : 0 ≤ ch) (h1 : ch ≤ 100000) : Pure Try.prog 35 [.c (nI ch)] (.c (nI (2 * ch - 1))) := by
  refine Con.intro Try.func35 rfl rfl rfl (fun ok e => ?_)
  repeat (first
      | (refine K.fieldAddr ?_; refine JO.q rfl rfl (Nat.le_of_ble_eq_true rfl) (Qt.fieldAddr rfl rfl) ?_)
      | (refine K.load ?_; first | refine JO.q rfl rfl (Nat.le_of_ble_eq_true rfl) (Qt.load1 rfl .el rfl) ?_ | refine JO.q rfl rfl (Nat.le_of_ble_eq_true rfl) (Qt.loadW rfl .el rfl) ?_ | refine JO.q rfl rfl (Nat.le_of_ble_eq_true rfl) (Qt.loadN rfl .el rfl rfl) ?_ | refine JO.q rfl rfl (Nat.le_of_ble_eq_true rfl) (Qt.load1b rfl (by exact rfl)) ?_ | refine JO.q rfl rfl (Nat.le_of_ble_eq_true rfl) (Qt.loadWb rfl (by exact rfl)) ?_ | refine JO.q rfl rfl (Nat.le_of_ble_eq_true rfl) (Qt.loadNb rfl (by exact rfl) (by exact rfl)) ?_)
      | (refine K.move ?_; refine JO.q rfl rfl (Nat.le_of_ble_eq_true rfl) (Qt.move rfl) ?_)
      | (refine K.store ?_; first | refine JO.ld (Ld.storeW rfl rfl rfl (by exact rfl) (by exact rfl)) rfl (fun _ => ?_) | refine JO.ld (Ld.store1 rfl rfl (by exact rfl)) rfl (fun _ => ?_) | refine JO.ld (Ld.storeN rfl rfl rfl (by exact rfl) (by exact rfl)) rfl (fun _ => ?_))
      | (refine K.assign ?_; refine JO.q rfl rfl (Nat.le_of_ble_eq_true rfl) (Qt.assign rfl) ?_)
      | (refine K.binOp ?_; first | refine JO.q rfl rfl (Nat.le_of_ble_eq_true rfl) (Qt.ari rfl rfl rfl (w64 (by omega) (by omega))) ?_ | refine JO.q rfl rfl (Nat.le_of_ble_eq_true rfl) (Qt.cmp rfl rfl rfl) ?_ | refine JO.q rfl rfl (Nat.le_of_ble_eq_true rfl) (Qt.eqB rfl rfl) ?_ | refine JO.q rfl rfl (Nat.le_of_ble_eq_true rfl) (Qt.neB rfl rfl) ?_)
      | (refine K.unOp ?_; refine JO.q rfl rfl (Nat.le_of_ble_eq_true rfl) (Qt.not rfl) ?_)
      | (refine K.bi ?_; first | refine JO.q rfl rfl (Nat.le_of_ble_eq_true rfl) (Qt.lenM rfl) ?_ | refine JO.q rfl rfl (Nat.le_of_ble_eq_true rfl) (Qt.lenR rfl) ?_ | refine JO.q rfl rfl (Nat.le_of_ble_eq_true rfl) (Qt.lenV rfl) ?_ | refine JO.q rfl rfl (Nat.le_of_ble_eq_true rfl) (Qt.lenO rfl) ?_)
      | (refine K.extract ?_; refine JO.q rfl rfl (Nat.le_of_ble_eq_true rfl) (Qt.extract rfl rfl) ?_)
      | (refine JO.alloc rfl (Nat.le_of_ble_eq_true rfl) ?_; intro _)
      | (refine JO.box rfl (Nat.le_of_ble_eq_true rfl) rfl rfl ?_; intro _)
      | (refine K.pick ?_; refine JO.q rfl rfl (Nat.le_of_ble_eq_true rfl) (Qt.pick rfl rfl) ?_)
      | (refine K.build ?_; refine JO.q rfl rfl (Nat.le_of_ble_eq_true rfl) (Qt.build rfl (by kernel_rfl)) ?_)
      | (refine K.lit ?_; first | (refine JO.lit0 rfl (Nat.le_of_ble_eq_true rfl) ?_; intro _) | (refine JO.lit1 rfl (Nat.le_of_ble_eq_true rfl) rfl rfl rfl rfl rfl ?_; intro _))
      | (refine K.nilCheck ?_; refine JO.q rfl rfl (Nat.le_of_ble_eq_true rfl) (Qt.nilCheck rfl rfl) ?_)
      | (refine K.field ?_; refine JO.q rfl rfl (Nat.le_of_ble_eq_true rfl) (Qt.field rfl rfl (by kernel_rfl) rfl) ?_)
      | (refine K.convert ?_; refine JO.q rfl rfl (Nat.le_of_ble_eq_true rfl) (Qt.conv rfl rfl) ?_)
      | refine JO.nil ?_
      | refine J.seq ?_
      | refine J.region ?_
      | refine J.block ?_
      | refine J.inBlock ?_
      | refine J.skip ?_
      | refine J.exit rfl ?_
      | refine J.cond_t rfl ?_
      | refine J.cond_f rfl ?_
      | refine JO.no rfl rfl (Nat.le_of_ble_eq_true rfl) ?_)
  exact J.ret Try.func35 rfl (.cons (.tmp rfl) .nil) () (by first | exact .agg (by repeat (first | exact .nil | refine .cons .refl ?_ | refine .cons .nil ?_ | refine .cons .snoc ?_ | refine .cons .clone ?_)) | exact .refl | exact .c .nil | exact .tup (by repeat (first | exact .nil | refine .cons (.agg (by repeat (first | exact .nil | refine .cons .refl ?_ | refine .cons .nil ?_ | refine .cons .snoc ?_ | refine .cons .clone ?_))) ?_ | refine .cons .refl ?_ | refine .cons (.c .nil) ?_ | refine .cons (.c .snoc) ?_ | refine .cons (.c .clone) ?_))) [] .nil rfl rfl
theorem st_at {s : Sx.St} {k : Nat} (hk : k < s.gs.length) : Bc.status (s.gs.map fun x => (x.status, x.token)) (k : Int) = (Sx.gr s k).status := by
  have h : (Sx.gr s k) = s.gs[k] := by unfold Sx.gr; rw [List.getD_eq_getElem?_getD, List.getElem?_eq_getElem hk]; rfl
  unfold Bc.status Bc.has Bc.mem
  simp [hk, h]
theorem tk_at {s : Sx.St} {k : Nat} (hk : k < s.gs.length) : Bc.token (s.gs.map fun x => (x.status, x.token)) (k : Int) = (Sx.gr s k).token := by
  have h : (Sx.gr s k) = s.gs[k] := by unfold Sx.gr; rw [List.getD_eq_getElem?_getD, List.getElem?_eq_getElem hk]; rfl
  unfold Bc.token Bc.has Bc.mem
  simp [hk, h]
theorem cn_nat {s : Sx.St} {k : Nat} (hk : k < s.chans.length) : s.chans[k]? = some (Sx.cn s ((k : Int) + 1)) := by
  unfold Sx.cn
  rw [show ((k : Int) + 1 - 1).toNat = k by omega, List.getD_eq_getElem?_getD, List.getElem?_eq_getElem hk]; rfl
theorem ow_at {s : Sx.St} {k : Nat} (hk : k < s.chans.length) : Lt.owner (s.chans.map (·.lock)) (k : Int) = (Sx.cn s ((k : Int) + 1)).lock := by
  have h := cn_nat hk
  unfold Lt.owner Lt.has
  rw [List.getElem?_eq_getElem hk] at h
  simp at h
  simp [hk, h]
theorem rs_at {u : U} {s : Sx.St} {k : Nat} (hk : k < s.chans.length) : (rsW u s)[k]? = some (u.rs k, (Sx.cn s ((k : Int) + 1)).cap.toNat, (Sx.cn s ((k : Int) + 1)).buf) := by
  unfold rsW; rw [List.getElem?_map, List.getElem?_range hk]; rfl
theorem qr_at {s : Sx.St} {k : Nat} (hk : k < 8) : Qu.row (qW s) (2 * ((k : Int) + 1) - 2) = (Sx.cn s ((k : Int) + 1)).recv := by
  have e : 2 * ((k : Int) + 1) - 2 = ((2 * k : Nat) : Int) := by omega
  have l : (qW s).length = 16 := by simp [qW]
  unfold Qu.row Qu.line
  rw [e, l, if_pos (by simp; omega), Int.toNat_natCast]
  unfold qW
  rw [List.getD_eq_getElem?_getD, List.getElem?_map, List.getElem?_range (by omega)]
  simp
theorem qs_at {s : Sx.St} {k : Nat} (hk : k < 8) : Qu.row (qW s) (2 * ((k : Int) + 1) - 1) = (Sx.cn s ((k : Int) + 1)).send := by
  have e : 2 * ((k : Int) + 1) - 1 = ((2 * k + 1 : Nat) : Int) := by omega
  have l : (qW s).length = 16 := by simp [qW]
  unfold Qu.row Qu.line
  rw [e, l, if_pos (by simp; omega), Int.toNat_natCast]
  unfold qW
  rw [List.getD_eq_getElem?_getD, List.getElem?_map, List.getElem?_range (by omega)]
  have h1 : (2 * (k : Int) + 1) / 2 = k := by omega
  simp [h1]
theorem ca_at {s : Sx.St} {k : Nat} (hk : k < s.cache.length) : s.cache[k]? = some (Po.cache s.cache (k : Int)) := by
  unfold Po.cache Po.taker
  simp [hk]
/-- the state's cells, as the walk makes them -/
def mkS (s : Sx.St) (g c k : A) : List A := [nI s.sudogN, nI s.cacheN, nI s.step, g, c, .r 7 (s.sudogs.map eS), k, ints s.middle, nI s.fresh, drs s.draws, nI s.drawn, .r 13 (s.done.map eM)]
set_option maxHeartbeats 2000000 in
theorem c_wState (b : Nat) (u : U) (s : Sx.St) (F : Fw s) :
    Con Try.prog 8 [.c (.v (pt b))] (wd b u s) (fun _ : Unit => (.agg (eSt s), wd b u s)) := by
  have f1 := F.su
  have f2 := F.dn
  have f3 := F.dr
  have f4 := F.fr
  have z : ((s.fresh.toNat : Nat) : Int) = s.fresh := by omega
  have CM := p_middle u.pP s.sudogN.toNat s.cacheN.toNat (poW u s) u.TP F.mb
  have CF := p_fresh u.pP s.sudogN.toNat s.cacheN.toNat (poW u s) u.TP
  rw [show (((poW u s).f : Nat) : Int) = s.fresh from z] at CF
  have CD : Con Try.prog 25 [.c (.v (pt u.bD))] [.box u.bD 111 [dW s, nI s.drawn]] (fun _ : Unit => (.c (nI s.drawn), [.box u.bD 111 [dW s, nI s.drawn]])) := d_drawn u.bD s.draws s.drawn
  refine Con.intro Try.func8 rfl rfl rfl (fun ok e => ?_)
  repeat (first | refine J.seq ?_ | (refine J.region ?_; refine JO.alloc rfl (Nat.le_of_ble_eq_true rfl) ?_; intro b2; refine JO.nil ?_))
  refine J.join (ι := Nat) (fun b3 => [(3, .c (.v (pt b3))), (2, .c (.v (pt b2))), (0, .c (.v (pt b)))]) (fun b3 => .box b3 41 (mkS s (.v (.slice none 0 0)) (.v (.slice none 0 0)) (.v (.slice none 0 0))) :: .box b2 41 zSt :: wd b u s) (fun b3 => ?rest) (fun rest => ?_)
  case rest =>
    repeat (first
        | (refine K.fieldAddr ?_; refine JO.q rfl rfl (Nat.le_of_ble_eq_true rfl) (Qt.fieldAddr rfl rfl) ?_)
        | (refine K.load ?_; first | refine JO.q rfl rfl (Nat.le_of_ble_eq_true rfl) (Qt.load1 rfl .el rfl) ?_ | refine JO.q rfl rfl (Nat.le_of_ble_eq_true rfl) (Qt.loadW rfl .el rfl) ?_ | refine JO.q rfl rfl (Nat.le_of_ble_eq_true rfl) (Qt.loadN rfl .el rfl rfl) ?_ | refine JO.q rfl rfl (Nat.le_of_ble_eq_true rfl) (Qt.load1b rfl (by exact rfl)) ?_ | refine JO.q rfl rfl (Nat.le_of_ble_eq_true rfl) (Qt.loadWb rfl (by exact rfl)) ?_ | refine JO.q rfl rfl (Nat.le_of_ble_eq_true rfl) (Qt.loadNb rfl (by exact rfl) (by exact rfl)) ?_)
        | (refine K.move ?_; refine JO.q rfl rfl (Nat.le_of_ble_eq_true rfl) (Qt.move rfl) ?_)
        | (refine K.store ?_; first | refine JO.ld (Ld.storeW rfl rfl rfl (by exact rfl) (by exact rfl)) rfl (fun _ => ?_) | refine JO.ld (Ld.store1 rfl rfl (by exact rfl)) rfl (fun _ => ?_) | refine JO.ld (Ld.storeN rfl rfl rfl (by exact rfl) (by exact rfl)) rfl (fun _ => ?_))
        | (refine K.assign ?_; refine JO.q rfl rfl (Nat.le_of_ble_eq_true rfl) (Qt.assign rfl) ?_)
        | (refine K.binOp ?_; first | refine JO.q rfl rfl (Nat.le_of_ble_eq_true rfl) (Qt.cmp rfl rfl rfl) ?_ | refine JO.q rfl rfl (Nat.le_of_ble_eq_true rfl) (Qt.eqB rfl rfl) ?_ | refine JO.q rfl rfl (Nat.le_of_ble_eq_true rfl) (Qt.neB rfl rfl) ?_)
        | (refine K.unOp ?_; refine JO.q rfl rfl (Nat.le_of_ble_eq_true rfl) (Qt.not rfl) ?_)
        | (refine K.bi ?_; first | refine JO.q rfl rfl (Nat.le_of_ble_eq_true rfl) (Qt.lenI 3 rfl rfl (len_gsW u s)) ?_ | refine JO.q rfl rfl (Nat.le_of_ble_eq_true rfl) (Qt.lenM rfl) ?_ | refine JO.q rfl rfl (Nat.le_of_ble_eq_true rfl) (Qt.lenR rfl) ?_ | refine JO.q rfl rfl (Nat.le_of_ble_eq_true rfl) (Qt.lenV rfl) ?_ | refine JO.q rfl rfl (Nat.le_of_ble_eq_true rfl) (Qt.lenO rfl) ?_)
        | (refine K.extract ?_; refine JO.q rfl rfl (Nat.le_of_ble_eq_true rfl) (Qt.extract rfl rfl) ?_)
        | (refine JO.alloc rfl (Nat.le_of_ble_eq_true rfl) ?_; intro _)
        | (refine JO.box rfl (Nat.le_of_ble_eq_true rfl) rfl rfl ?_; intro _)
        | (refine K.pick ?_; refine JO.q rfl rfl (Nat.le_of_ble_eq_true rfl) (Qt.pick rfl rfl) ?_)
        | (refine K.build ?_; refine JO.q rfl rfl (Nat.le_of_ble_eq_true rfl) (Qt.build rfl (by kernel_rfl)) ?_)
        | (refine K.lit ?_; first | (refine JO.lit0 rfl (Nat.le_of_ble_eq_true rfl) ?_; intro _) | (refine JO.lit1 rfl (Nat.le_of_ble_eq_true rfl) rfl rfl rfl rfl rfl ?_; intro _))
        | (refine K.nilCheck ?_; refine JO.q rfl rfl (Nat.le_of_ble_eq_true rfl) (Qt.nilCheck rfl rfl) ?_)
        | (refine K.field ?_; refine JO.q rfl rfl (Nat.le_of_ble_eq_true rfl) (Qt.field rfl rfl (by kernel_rfl) rfl) ?_)
        | (refine K.convert ?_; refine JO.q rfl rfl (Nat.le_of_ble_eq_true rfl) (Qt.conv rfl rfl) ?_)
        | refine JO.nil ?_
        | refine J.seq ?_
        | refine J.region ?_
        | refine J.block ?_
        | refine J.inBlock ?_
        | refine J.skip ?_
        | refine J.exit rfl ?_
        | refine J.cond_t rfl ?_
        | refine J.cond_f rfl ?_
        | refine JO.no rfl rfl (Nat.le_of_ble_eq_true rfl) ?_)
    refine J.nilR 50 25 ?_
    refine J.nilR 38 1 ?_
    refine J.loop (ι := { q : Nat × Value × Value // q.1 ≤ s.gs.length }) (fun q => [(52, .c (nI q.1.1)), (51, .c (nI s.gs.length)), (50, .c (.v u.vG)), (3, .c (.v (pt b3))), (2, .c (.v (pt b2))), (0, .c (.v (pt b)))]) (fun q => .row q.1.2.1 38 1 ((s.cache.take q.1.1).map fun l => [ints l]) :: .row q.1.2.2 50 25 ((s.gs.take q.1.1).map eG) :: .box b3 41 (mkS s (.v q.1.2.2) (.v (.slice none 0 0)) (.v q.1.2.1)) :: .box b2 41 zSt :: wd b u s) (fun q => s.gs.length - q.1.1) ⟨(0, .slice none 0 0, .slice none 0 0), Nat.zero_le _⟩ (fun X h => h.weak ⟨rfl, rfl, rfl, rfl, rfl, rfl, trivial⟩) (fun q ih => ?_)
    obtain ⟨⟨k, vc, vg⟩, hk⟩ := q
    simp only at hk ih ⊢
    by_cases hk2 : k < s.gs.length
    · have t1 : (decide ((k : Int) < (s.gs.length : Int))) = true := by simpa using hk2
      have OW : ∀ x : Int, x = k → 0 ≤ x ∧ x < (gsW u s).length := fun x hx => by rw [len_gsW]; omega
      have hx : s.gs[k]? = some (Sx.gr s k) := by unfold Sx.gr; rw [List.getD_eq_getElem?_getD, List.getElem?_eq_getElem hk2]; rfl
      have hm := List.mem_of_getElem? hx
      have BS := b_status u.pB (s.gs.map fun x => (x.status, x.token)) u.TB (k : Int)
      have BT := b_token u.pB (s.gs.map fun x => (x.status, x.token)) u.TB (k : Int)
      rw [st_at hk2] at BS
      rw [tk_at hk2] at BT
      have CC := p_cache u.pP s.sudogN.toNat s.cacheN.toNat (poW u s) u.TP (k : Int) F.cb
      obtain ⟨o1, o2⟩ := F.op _ hm
      obtain ⟨o3, o4, o5, o6⟩ := F.or_ _ hm
      have hcl : (s.cache.take k).length = k := by rw [List.length_take, F.cl]; omega
      have hgl : (s.gs.take k).length = k := by rw [List.length_take]; omega
      have g8 := F.gs
      repeat (first
          | (refine K.fieldAddr ?_; refine JO.q rfl rfl (Nat.le_of_ble_eq_true rfl) (Qt.fieldAddr rfl rfl) ?_)
          | (refine K.load ?_; first | first | refine JO.q rfl rfl (Nat.le_of_ble_eq_true rfl) (Qt.load1o rfl ((gW_at hk2)) (by exact rfl)) ?_ | refine JO.q rfl rfl (Nat.le_of_ble_eq_true rfl) (Qt.loadWo rfl ((gW_at hk2)) (by exact rfl)) ?_ | refine JO.q rfl rfl (Nat.le_of_ble_eq_true rfl) (Qt.loadNo rfl ((gW_at hk2)) (by exact rfl) (by exact rfl)) ?_ | refine JO.q rfl rfl (Nat.le_of_ble_eq_true rfl) (Qt.load1 rfl .el rfl) ?_ | refine JO.q rfl rfl (Nat.le_of_ble_eq_true rfl) (Qt.loadW rfl .el rfl) ?_ | refine JO.q rfl rfl (Nat.le_of_ble_eq_true rfl) (Qt.loadN rfl .el rfl rfl) ?_ | refine JO.q rfl rfl (Nat.le_of_ble_eq_true rfl) (Qt.load1b rfl (by exact rfl)) ?_ | refine JO.q rfl rfl (Nat.le_of_ble_eq_true rfl) (Qt.loadWb rfl (by exact rfl)) ?_ | refine JO.q rfl rfl (Nat.le_of_ble_eq_true rfl) (Qt.loadNb rfl (by exact rfl) (by exact rfl)) ?_)
          | (refine K.move ?_; refine JO.q rfl rfl (Nat.le_of_ble_eq_true rfl) (Qt.move rfl) ?_)
          | (refine K.store ?_; first | refine JO.ld (Ld.storeW rfl rfl rfl (by exact rfl) (by exact rfl)) rfl (fun _ => ?_) | refine JO.ld (Ld.store1 rfl rfl (by exact rfl)) rfl (fun _ => ?_) | refine JO.ld (Ld.storeN rfl rfl rfl (by exact rfl) (by exact rfl)) rfl (fun _ => ?_))
          | (refine K.assign ?_; refine JO.q rfl rfl (Nat.le_of_ble_eq_true rfl) (Qt.assign rfl) ?_)
          | (refine K.indexAddr ?_; refine JO.q rfl rfl (Nat.le_of_ble_eq_true rfl) (Qt.indexO rfl rfl (OW _ rfl).1 (OW _ rfl).2) ?_)
          | (refine K.binOp ?_; first | refine JO.q rfl rfl (Nat.le_of_ble_eq_true rfl) (Qt.cmp rfl rfl (congrArg some t1)) ?_ | refine JO.q rfl rfl (Nat.le_of_ble_eq_true rfl) (Qt.cmp rfl rfl rfl) ?_ | refine JO.q rfl rfl (Nat.le_of_ble_eq_true rfl) (Qt.eqB rfl rfl) ?_ | refine JO.q rfl rfl (Nat.le_of_ble_eq_true rfl) (Qt.neB rfl rfl) ?_)
          | (refine K.call ?_; first | (refine JO.ld (Ld.callA (c_cloneG _ (Sx.gr s k) (u.sg k) (u.wk k) (i := k + 17) (j := s.gs.length + k + 17) (rowsW_sg hk2) (rowsW_wk hk2) o1 o2 o3 o4 o5 o6) (Nat.le_of_ble_eq_true rfl) rfl (by first | exact LeDs.nil | exact LeDs.cons .refl .nil | exact LeDs.cons .refl (.cons .refl .nil) | exact LeDs.cons .refl (.cons .refl (.cons .refl .nil)) | exact LeDs.cons .refl (.cons .refl (.cons .refl (.cons .refl .nil))) | (repeat (first | exact LeDs.nil | refine LeDs.cons (LeD.agg (by repeat (first | exact .nil | refine .cons .refl ?_ | refine .cons .nil ?_ | refine .cons .snoc ?_ | refine .cons .clone ?_))) ?_ | refine LeDs.cons LeD.refl ?_ | refine LeDs.cons (LeD.c LeA.nil) ?_ | refine LeDs.cons (LeD.c LeA.snoc) ?_ | refine LeDs.cons (LeD.c LeA.clone) ?_); done))) rfl ?_; intro _))
          | (refine K.unOp ?_; refine JO.q rfl rfl (Nat.le_of_ble_eq_true rfl) (Qt.not rfl) ?_)
          | (refine K.bi ?_; first | refine JO.q rfl rfl (Nat.le_of_ble_eq_true rfl) (Qt.lenM rfl) ?_ | refine JO.q rfl rfl (Nat.le_of_ble_eq_true rfl) (Qt.lenR rfl) ?_ | refine JO.q rfl rfl (Nat.le_of_ble_eq_true rfl) (Qt.lenV rfl) ?_ | refine JO.q rfl rfl (Nat.le_of_ble_eq_true rfl) (Qt.lenO rfl) ?_)
          | (refine K.extract ?_; refine JO.q rfl rfl (Nat.le_of_ble_eq_true rfl) (Qt.extract rfl rfl) ?_)
          | (refine JO.alloc rfl (Nat.le_of_ble_eq_true rfl) ?_; intro _)
          | (refine JO.box rfl (Nat.le_of_ble_eq_true rfl) rfl rfl ?_; intro _)
          | (refine K.pick ?_; refine JO.q rfl rfl (Nat.le_of_ble_eq_true rfl) (Qt.pick rfl rfl) ?_)
          | (refine K.build ?_; refine JO.q rfl rfl (Nat.le_of_ble_eq_true rfl) (Qt.build rfl (by kernel_rfl)) ?_)
          | (refine K.lit ?_; first | (refine JO.lit0 rfl (Nat.le_of_ble_eq_true rfl) ?_; intro _) | (refine JO.lit1 rfl (Nat.le_of_ble_eq_true rfl) rfl rfl rfl rfl rfl ?_; intro _))
          | (refine K.nilCheck ?_; refine JO.q rfl rfl (Nat.le_of_ble_eq_true rfl) (Qt.nilCheck rfl rfl) ?_)
          | (refine K.field ?_; refine JO.q rfl rfl (Nat.le_of_ble_eq_true rfl) (Qt.field rfl rfl (by kernel_rfl) rfl) ?_)
          | (refine K.convert ?_; refine JO.q rfl rfl (Nat.le_of_ble_eq_true rfl) (Qt.conv rfl rfl) ?_)
          | refine JO.nil ?_
          | refine J.seq ?_
          | refine J.region ?_
          | refine J.block ?_
          | refine J.inBlock ?_
          | refine J.skip ?_
          | refine J.exit rfl ?_
          | refine J.cond_t rfl ?_
          | refine J.cond_f rfl ?_
          | refine JO.no rfl rfl (Nat.le_of_ble_eq_true rfl) ?_)
      refine J.draw (by kernel_rfl) rfl ?_
      refine JW.baseT [12] (some 13) ?_
      refine JD.take 0 rfl rfl (by kernel_rfl) rfl (Nat.le_of_ble_eq_true rfl) (Qt.move rfl) rfl ?_
      refine JD.take 1 rfl rfl (by kernel_rfl) rfl (Nat.le_of_ble_eq_true rfl) (Qt.nilCheck rfl rfl) rfl ?_
      refine JD.take 2 rfl rfl (by kernel_rfl) rfl (Nat.le_of_ble_eq_true rfl) (Qt.fieldAddr rfl rfl) rfl ?_
      first
        | refine JD.take 3 rfl rfl (by kernel_rfl) rfl (Nat.le_of_ble_eq_true rfl) (Qt.load1 rfl .el rfl) rfl ?_
        | refine JD.take 3 rfl rfl (by kernel_rfl) rfl (Nat.le_of_ble_eq_true rfl) (Qt.loadW rfl .el rfl) rfl ?_
        | refine JD.take 3 rfl rfl (by kernel_rfl) rfl (Nat.le_of_ble_eq_true rfl) (Qt.loadN rfl .el rfl rfl) rfl ?_
        | refine JD.take 3 rfl rfl (by kernel_rfl) rfl (Nat.le_of_ble_eq_true rfl) (Qt.load1b rfl (by exact rfl)) rfl ?_
        | refine JD.take 3 rfl rfl (by kernel_rfl) rfl (Nat.le_of_ble_eq_true rfl) (Qt.loadWb rfl (by exact rfl)) rfl ?_
        | refine JD.take 3 rfl rfl (by kernel_rfl) rfl (Nat.le_of_ble_eq_true rfl) (Qt.loadNb rfl (by exact rfl) (by exact rfl)) rfl ?_
      refine JD.take 4 rfl rfl (by kernel_rfl) rfl (Nat.le_of_ble_eq_true rfl) (Qt.move rfl) rfl ?_
      refine JD.takeT 6 rfl rfl (by kernel_rfl) rfl (Nat.le_of_ble_eq_true rfl) (Qt.move rfl) rfl ?_
      refine JD.takeT 7 rfl rfl (by kernel_rfl) rfl (Nat.le_of_ble_eq_true rfl) (Qt.nilCheck rfl rfl) rfl ?_
      refine JD.takeT 8 rfl rfl (by kernel_rfl) rfl (Nat.le_of_ble_eq_true rfl) (Qt.fieldAddr rfl rfl) rfl ?_
      first
        | refine JD.takeT 9 rfl rfl (by kernel_rfl) rfl (Nat.le_of_ble_eq_true rfl) (Qt.load1 rfl .el rfl) rfl ?_
        | refine JD.takeT 9 rfl rfl (by kernel_rfl) rfl (Nat.le_of_ble_eq_true rfl) (Qt.loadW rfl .el rfl) rfl ?_
        | refine JD.takeT 9 rfl rfl (by kernel_rfl) rfl (Nat.le_of_ble_eq_true rfl) (Qt.loadN rfl .el rfl rfl) rfl ?_
        | refine JD.takeT 9 rfl rfl (by kernel_rfl) rfl (Nat.le_of_ble_eq_true rfl) (Qt.load1b rfl (by exact rfl)) rfl ?_
        | refine JD.takeT 9 rfl rfl (by kernel_rfl) rfl (Nat.le_of_ble_eq_true rfl) (Qt.loadWb rfl (by exact rfl)) rfl ?_
        | refine JD.takeT 9 rfl rfl (by kernel_rfl) rfl (Nat.le_of_ble_eq_true rfl) (Qt.loadNb rfl (by exact rfl) (by exact rfl)) rfl ?_
      refine JD.takeT 10 rfl rfl (by kernel_rfl) rfl (Nat.le_of_ble_eq_true rfl) (Qt.move rfl) rfl ?_
      refine JD.each1 (i := 5) (by kernel_rfl) ?_
      refine JS.loud rfl rfl rfl (Nat.le_of_ble_eq_true rfl) (Ld.callT BS (Nat.le_of_ble_eq_true rfl) rfl (.cons .refl (.cons .refl .nil))) (by first | exact .none | exact .nil | exact .tbox rfl | exact .trow rfl | exact .tres rfl | exact .row (by repeat (first | exact .refl | refine .cons ?_)) | exact .box (by repeat (first | exact .refl | refine .cons ?_))) (fun _ => ?_)
      refine JD.take 12 rfl rfl (by kernel_rfl) rfl (Nat.le_of_ble_eq_true rfl) (Qt.fieldAddr rfl rfl) rfl ?_
      refine JD.each1 (i := 11) (by kernel_rfl) ?_
      refine JS.loud rfl rfl rfl (Nat.le_of_ble_eq_true rfl) (Ld.callT BT (Nat.le_of_ble_eq_true rfl) rfl (.cons .refl (.cons .refl .nil))) (by first | exact .none | exact .nil | exact .tbox rfl | exact .trow rfl | exact .tres rfl | exact .row (by repeat (first | exact .refl | refine .cons ?_)) | exact .box (by repeat (first | exact .refl | refine .cons ?_))) (fun _ => ?_)
      refine JD.each1 (i := 13) (by kernel_rfl) ?_
      first
        | refine JS.last rfl rfl (Ld.storeW rfl rfl rfl (by exact rfl) (by exact rfl)) (fun _ => ?_)
        | refine JS.last rfl rfl (Ld.store1 rfl rfl (by exact rfl)) (fun _ => ?_)
        | refine JS.last rfl rfl (Ld.storeN rfl rfl rfl (by exact rfl) (by exact rfl)) (fun _ => ?_)
      refine JW.baseT [12] (some 15) ?_
      refine JD.each1 (i := 14) (by kernel_rfl) ?_
      refine JS.q rfl rfl rfl (Nat.le_of_ble_eq_true rfl) (Qt.fieldAddr rfl rfl) ?_
      refine JD.each1 (i := 15) (by kernel_rfl) ?_
      first
        | refine JS.last rfl rfl (Ld.storeW rfl rfl rfl (by exact rfl) (by exact rfl)) (fun _ => ?_)
        | refine JS.last rfl rfl (Ld.store1 rfl rfl (by exact rfl)) (fun _ => ?_)
        | refine JS.last rfl rfl (Ld.storeN rfl rfl rfl (by exact rfl) (by exact rfl)) (fun _ => ?_)
      refine JW.done (by kernel_rfl) ?_
      repeat (first
          | (refine K.fieldAddr ?_; refine JO.q rfl rfl (Nat.le_of_ble_eq_true rfl) (Qt.fieldAddr rfl rfl) ?_)
          | (refine K.load ?_; first | refine JO.q rfl rfl (Nat.le_of_ble_eq_true rfl) (Qt.load1 rfl .el rfl) ?_ | refine JO.q rfl rfl (Nat.le_of_ble_eq_true rfl) (Qt.loadW rfl .el rfl) ?_ | refine JO.q rfl rfl (Nat.le_of_ble_eq_true rfl) (Qt.loadN rfl .el rfl rfl) ?_ | refine JO.q rfl rfl (Nat.le_of_ble_eq_true rfl) (Qt.load1b rfl (by exact rfl)) ?_ | refine JO.q rfl rfl (Nat.le_of_ble_eq_true rfl) (Qt.loadWb rfl (by exact rfl)) ?_ | refine JO.q rfl rfl (Nat.le_of_ble_eq_true rfl) (Qt.loadNb rfl (by exact rfl) (by exact rfl)) ?_)
          | (refine K.move ?_; refine JO.q rfl rfl (Nat.le_of_ble_eq_true rfl) (Qt.move rfl) ?_)
          | (refine K.store ?_; first | refine JO.ld (Ld.storeW rfl rfl rfl (by exact rfl) (by exact rfl)) rfl (fun _ => ?_) | refine JO.ld (Ld.store1 rfl rfl (by exact rfl)) rfl (fun _ => ?_) | refine JO.ld (Ld.storeN rfl rfl rfl (by exact rfl) (by exact rfl)) rfl (fun _ => ?_))
          | (refine K.assign ?_; refine JO.q rfl rfl (Nat.le_of_ble_eq_true rfl) (Qt.assign rfl) ?_)
          | (refine K.binOp ?_; first | refine JO.q rfl rfl (Nat.le_of_ble_eq_true rfl) (Qt.cmp rfl rfl rfl) ?_ | refine JO.q rfl rfl (Nat.le_of_ble_eq_true rfl) (Qt.eqB rfl rfl) ?_ | refine JO.q rfl rfl (Nat.le_of_ble_eq_true rfl) (Qt.neB rfl rfl) ?_)
          | (refine K.unOp ?_; refine JO.q rfl rfl (Nat.le_of_ble_eq_true rfl) (Qt.not rfl) ?_)
          | (refine K.bi ?_; first | refine JO.q rfl rfl (Nat.le_of_ble_eq_true rfl) (Qt.lenM rfl) ?_ | refine JO.q rfl rfl (Nat.le_of_ble_eq_true rfl) (Qt.lenR rfl) ?_ | refine JO.q rfl rfl (Nat.le_of_ble_eq_true rfl) (Qt.lenV rfl) ?_ | refine JO.q rfl rfl (Nat.le_of_ble_eq_true rfl) (Qt.lenO rfl) ?_)
          | (refine K.extract ?_; refine JO.q rfl rfl (Nat.le_of_ble_eq_true rfl) (Qt.extract rfl rfl) ?_)
          | (refine JO.alloc rfl (Nat.le_of_ble_eq_true rfl) ?_; intro _)
          | (refine JO.box rfl (Nat.le_of_ble_eq_true rfl) rfl rfl ?_; intro _)
          | (refine K.pick ?_; refine JO.q rfl rfl (Nat.le_of_ble_eq_true rfl) (Qt.pick rfl rfl) ?_)
          | (refine K.build ?_; refine JO.q rfl rfl (Nat.le_of_ble_eq_true rfl) (Qt.build rfl (by kernel_rfl)) ?_)
          | (refine K.lit ?_; first | (refine JO.lit0 rfl (Nat.le_of_ble_eq_true rfl) ?_; intro _) | (refine JO.lit1 rfl (Nat.le_of_ble_eq_true rfl) rfl rfl rfl rfl rfl ?_; intro _))
          | (refine K.nilCheck ?_; refine JO.q rfl rfl (Nat.le_of_ble_eq_true rfl) (Qt.nilCheck rfl rfl) ?_)
          | (refine K.field ?_; refine JO.q rfl rfl (Nat.le_of_ble_eq_true rfl) (Qt.field rfl rfl (by kernel_rfl) rfl) ?_)
          | (refine K.convert ?_; refine JO.q rfl rfl (Nat.le_of_ble_eq_true rfl) (Qt.conv rfl rfl) ?_)
          | (refine K.bi ?_; first | first | refine JO.ld (Ld.appOw (Nat.le_of_ble_eq_true rfl) rfl rfl .read (by first | (simp; omega) | simp | omega)) rfl (fun _ => ?_) | refine JO.ld (Ld.appOw (Nat.le_of_ble_eq_true rfl) rfl rfl .ownC (by first | (simp; omega) | simp | omega)) rfl (fun _ => ?_) | refine JO.ld (Ld.appOw (Nat.le_of_ble_eq_true rfl) rfl rfl .nil (by first | (simp; omega) | simp | omega)) rfl (fun _ => ?_) | refine JO.ld (Ld.appOn (Nat.le_of_ble_eq_true rfl) rfl rfl .read (by first | (simp; omega) | simp | omega)) rfl (fun _ => ?_) | refine JO.ld (Ld.appOn (Nat.le_of_ble_eq_true rfl) rfl rfl .ownC (by first | (simp; omega) | simp | omega)) rfl (fun _ => ?_) | refine JO.ld (Ld.appOn (Nat.le_of_ble_eq_true rfl) rfl rfl .nil (by first | (simp; omega) | simp | omega)) rfl (fun _ => ?_))
          | refine JO.nil ?_
          | refine J.seq ?_
          | refine J.region ?_
          | refine J.block ?_
          | refine J.inBlock ?_
          | refine J.skip ?_
          | refine J.exit rfl ?_
          | refine J.cond_t rfl ?_
          | refine J.cond_f rfl ?_
          | refine JO.no rfl rfl (Nat.le_of_ble_eq_true rfl) ?_)
      refine J.dropN 1 ?_
      refine J.dropN 1 ?_
      refine J.draw (by kernel_rfl) rfl ?_
      refine JW.baseT [14,1] (some 11) ?_
      refine JD.take 0 rfl rfl (by kernel_rfl) rfl (Nat.le_of_ble_eq_true rfl) (Qt.fieldAddr rfl rfl) rfl ?_
      first
        | refine JD.take 1 rfl rfl (by kernel_rfl) rfl (Nat.le_of_ble_eq_true rfl) (Qt.load1 rfl .el rfl) rfl ?_
        | refine JD.take 1 rfl rfl (by kernel_rfl) rfl (Nat.le_of_ble_eq_true rfl) (Qt.loadW rfl .el rfl) rfl ?_
        | refine JD.take 1 rfl rfl (by kernel_rfl) rfl (Nat.le_of_ble_eq_true rfl) (Qt.loadN rfl .el rfl rfl) rfl ?_
        | refine JD.take 1 rfl rfl (by kernel_rfl) rfl (Nat.le_of_ble_eq_true rfl) (Qt.load1b rfl (by exact rfl)) rfl ?_
        | refine JD.take 1 rfl rfl (by kernel_rfl) rfl (Nat.le_of_ble_eq_true rfl) (Qt.loadWb rfl (by exact rfl)) rfl ?_
        | refine JD.take 1 rfl rfl (by kernel_rfl) rfl (Nat.le_of_ble_eq_true rfl) (Qt.loadNb rfl (by exact rfl) (by exact rfl)) rfl ?_
      refine JD.take 2 rfl rfl (by kernel_rfl) rfl (Nat.le_of_ble_eq_true rfl) (Qt.move rfl) rfl ?_
      refine JD.take 3 rfl rfl (by kernel_rfl) rfl (Nat.le_of_ble_eq_true rfl) (Qt.nilCheck rfl rfl) rfl ?_
      refine JD.take 4 rfl rfl (by kernel_rfl) rfl (Nat.le_of_ble_eq_true rfl) (Qt.fieldAddr rfl rfl) rfl ?_
      first
        | refine JD.take 5 rfl rfl (by kernel_rfl) rfl (Nat.le_of_ble_eq_true rfl) (Qt.load1 rfl .el rfl) rfl ?_
        | refine JD.take 5 rfl rfl (by kernel_rfl) rfl (Nat.le_of_ble_eq_true rfl) (Qt.loadW rfl .el rfl) rfl ?_
        | refine JD.take 5 rfl rfl (by kernel_rfl) rfl (Nat.le_of_ble_eq_true rfl) (Qt.loadN rfl .el rfl rfl) rfl ?_
        | refine JD.take 5 rfl rfl (by kernel_rfl) rfl (Nat.le_of_ble_eq_true rfl) (Qt.load1b rfl (by exact rfl)) rfl ?_
        | refine JD.take 5 rfl rfl (by kernel_rfl) rfl (Nat.le_of_ble_eq_true rfl) (Qt.loadWb rfl (by exact rfl)) rfl ?_
        | refine JD.take 5 rfl rfl (by kernel_rfl) rfl (Nat.le_of_ble_eq_true rfl) (Qt.loadNb rfl (by exact rfl) (by exact rfl)) rfl ?_
      refine JD.take 6 rfl rfl (by kernel_rfl) rfl (Nat.le_of_ble_eq_true rfl) (Qt.move rfl) rfl ?_
      refine JD.each1 (i := 7) (by kernel_rfl) ?_
      refine JS.loud rfl rfl rfl (Nat.le_of_ble_eq_true rfl) (Ld.callT CC (Nat.le_of_ble_eq_true rfl) rfl (.cons .refl (.cons .refl .nil))) (by first | exact .none | exact .nil | exact .tbox rfl | exact .trow rfl | exact .tres rfl | exact .row (by repeat (first | exact .refl | refine .cons ?_)) | exact .box (by repeat (first | exact .refl | refine .cons ?_))) (fun _ => ?_)
      refine JD.each1 (i := 8) (by kernel_rfl) ?_
      refine JS.loud rfl rfl rfl (Nat.le_of_ble_eq_true rfl) (Ld.lit1R (Nat.le_of_ble_eq_true rfl) rfl rfl rfl rfl rfl) (by first | exact .none | exact .nil | exact .tbox rfl | exact .trow rfl | exact .tres rfl | exact .row (by repeat (first | exact .refl | refine .cons ?_)) | exact .box (by repeat (first | exact .refl | refine .cons ?_))) (fun _ => ?_)
      refine JD.each1 (i := 9) (by kernel_rfl) ?_
      refine JS.loud rfl rfl rfl (Nat.le_of_ble_eq_true rfl) (Ld.appOw (Nat.le_of_ble_eq_true rfl) rfl rfl .read (by first | (simp; omega) | simp | omega)) (by first | exact .none | exact .nil | exact .tbox rfl | exact .trow rfl | exact .tres rfl | exact .row (by repeat (first | exact .refl | refine .cons ?_)) | exact .box (by repeat (first | exact .refl | refine .cons ?_))) (fun _ => ?_)
      refine JD.each1 (i := 10) (by kernel_rfl) ?_
      refine JS.q rfl rfl rfl (Nat.le_of_ble_eq_true rfl) (Qt.fieldAddr rfl rfl) ?_
      refine JD.each1 (i := 11) (by kernel_rfl) ?_
      first
        | refine JS.last rfl rfl (Ld.storeW rfl rfl rfl (by exact rfl) (by exact rfl)) (fun _ => ?_)
        | refine JS.last rfl rfl (Ld.store1 rfl rfl (by exact rfl)) (fun _ => ?_)
        | refine JS.last rfl rfl (Ld.storeN rfl rfl rfl (by exact rfl) (by exact rfl)) (fun _ => ?_)
      refine JW.done (by kernel_rfl) ?_
      repeat (first
          | (refine K.fieldAddr ?_; refine JO.q rfl rfl (Nat.le_of_ble_eq_true rfl) (Qt.fieldAddr rfl rfl) ?_)
          | (refine K.load ?_; first | refine JO.q rfl rfl (Nat.le_of_ble_eq_true rfl) (Qt.load1 rfl .el rfl) ?_ | refine JO.q rfl rfl (Nat.le_of_ble_eq_true rfl) (Qt.loadW rfl .el rfl) ?_ | refine JO.q rfl rfl (Nat.le_of_ble_eq_true rfl) (Qt.loadN rfl .el rfl rfl) ?_ | refine JO.q rfl rfl (Nat.le_of_ble_eq_true rfl) (Qt.load1b rfl (by exact rfl)) ?_ | refine JO.q rfl rfl (Nat.le_of_ble_eq_true rfl) (Qt.loadWb rfl (by exact rfl)) ?_ | refine JO.q rfl rfl (Nat.le_of_ble_eq_true rfl) (Qt.loadNb rfl (by exact rfl) (by exact rfl)) ?_)
          | (refine K.move ?_; refine JO.q rfl rfl (Nat.le_of_ble_eq_true rfl) (Qt.move rfl) ?_)
          | (refine K.store ?_; first | refine JO.ld (Ld.storeW rfl rfl rfl (by exact rfl) (by exact rfl)) rfl (fun _ => ?_) | refine JO.ld (Ld.store1 rfl rfl (by exact rfl)) rfl (fun _ => ?_) | refine JO.ld (Ld.storeN rfl rfl rfl (by exact rfl) (by exact rfl)) rfl (fun _ => ?_))
          | (refine K.assign ?_; refine JO.q rfl rfl (Nat.le_of_ble_eq_true rfl) (Qt.assign rfl) ?_)
          | (refine K.binOp ?_; first | refine JO.q rfl rfl (Nat.le_of_ble_eq_true rfl) (Qt.ari rfl rfl rfl (w64 (by omega) (by omega))) ?_ | refine JO.q rfl rfl (Nat.le_of_ble_eq_true rfl) (Qt.cmp rfl rfl rfl) ?_ | refine JO.q rfl rfl (Nat.le_of_ble_eq_true rfl) (Qt.eqB rfl rfl) ?_ | refine JO.q rfl rfl (Nat.le_of_ble_eq_true rfl) (Qt.neB rfl rfl) ?_)
          | (refine K.unOp ?_; refine JO.q rfl rfl (Nat.le_of_ble_eq_true rfl) (Qt.not rfl) ?_)
          | (refine K.bi ?_; first | refine JO.q rfl rfl (Nat.le_of_ble_eq_true rfl) (Qt.lenM rfl) ?_ | refine JO.q rfl rfl (Nat.le_of_ble_eq_true rfl) (Qt.lenR rfl) ?_ | refine JO.q rfl rfl (Nat.le_of_ble_eq_true rfl) (Qt.lenV rfl) ?_ | refine JO.q rfl rfl (Nat.le_of_ble_eq_true rfl) (Qt.lenO rfl) ?_)
          | (refine K.extract ?_; refine JO.q rfl rfl (Nat.le_of_ble_eq_true rfl) (Qt.extract rfl rfl) ?_)
          | (refine JO.alloc rfl (Nat.le_of_ble_eq_true rfl) ?_; intro _)
          | (refine JO.box rfl (Nat.le_of_ble_eq_true rfl) rfl rfl ?_; intro _)
          | (refine K.pick ?_; refine JO.q rfl rfl (Nat.le_of_ble_eq_true rfl) (Qt.pick rfl rfl) ?_)
          | (refine K.build ?_; refine JO.q rfl rfl (Nat.le_of_ble_eq_true rfl) (Qt.build rfl (by kernel_rfl)) ?_)
          | (refine K.lit ?_; first | (refine JO.lit0 rfl (Nat.le_of_ble_eq_true rfl) ?_; intro _) | (refine JO.lit1 rfl (Nat.le_of_ble_eq_true rfl) rfl rfl rfl rfl rfl ?_; intro _))
          | (refine K.nilCheck ?_; refine JO.q rfl rfl (Nat.le_of_ble_eq_true rfl) (Qt.nilCheck rfl rfl) ?_)
          | (refine K.field ?_; refine JO.q rfl rfl (Nat.le_of_ble_eq_true rfl) (Qt.field rfl rfl (by kernel_rfl) rfl) ?_)
          | (refine K.convert ?_; refine JO.q rfl rfl (Nat.le_of_ble_eq_true rfl) (Qt.conv rfl rfl) ?_)
          | refine JO.nil ?_
          | refine J.seq ?_
          | refine J.region ?_
          | refine J.block ?_
          | refine J.inBlock ?_
          | refine J.skip ?_
          | refine J.exit rfl ?_
          | refine J.cond_t rfl ?_
          | refine J.cond_f rfl ?_
          | refine JO.no rfl rfl (Nat.le_of_ble_eq_true rfl) ?_)
      rename_i vg2 _ _ _ vc2 _
      refine J.congL ?_ ((ih ⟨(k + 1, vc2, vg2), by simp only; omega⟩ (by simp only; omega)).weak ⟨rfl, rfl, rfl, rfl, rfl, rfl, trivial⟩)
      have hc2 := ca_at (s := s) (k := k) (by rw [F.cl]; exact hk2)
      rw [List.take_add_one, List.take_add_one, hx, hc2, List.map_append, List.map_append]
      rfl
    · have t1 : (decide ((k : Int) < (s.gs.length : Int))) = false := by simpa using hk2
      obtain rfl : k = s.gs.length := by omega
      refine J.frzN 0 2 6 rfl rfl rfl ?_
      refine J.frzN 0 1 3 rfl rfl rfl ?_
      repeat (first
          | (refine K.fieldAddr ?_; refine JO.q rfl rfl (Nat.le_of_ble_eq_true rfl) (Qt.fieldAddr rfl rfl) ?_)
          | (refine K.load ?_; first | refine JO.q rfl rfl (Nat.le_of_ble_eq_true rfl) (Qt.load1 rfl .el rfl) ?_ | refine JO.q rfl rfl (Nat.le_of_ble_eq_true rfl) (Qt.loadW rfl .el rfl) ?_ | refine JO.q rfl rfl (Nat.le_of_ble_eq_true rfl) (Qt.loadN rfl .el rfl rfl) ?_ | refine JO.q rfl rfl (Nat.le_of_ble_eq_true rfl) (Qt.load1b rfl (by exact rfl)) ?_ | refine JO.q rfl rfl (Nat.le_of_ble_eq_true rfl) (Qt.loadWb rfl (by exact rfl)) ?_ | refine JO.q rfl rfl (Nat.le_of_ble_eq_true rfl) (Qt.loadNb rfl (by exact rfl) (by exact rfl)) ?_)
          | (refine K.move ?_; refine JO.q rfl rfl (Nat.le_of_ble_eq_true rfl) (Qt.move rfl) ?_)
          | (refine K.store ?_; first | refine JO.ld (Ld.storeW rfl rfl rfl (by exact rfl) (by exact rfl)) rfl (fun _ => ?_) | refine JO.ld (Ld.store1 rfl rfl (by exact rfl)) rfl (fun _ => ?_) | refine JO.ld (Ld.storeN rfl rfl rfl (by exact rfl) (by exact rfl)) rfl (fun _ => ?_))
          | (refine K.assign ?_; refine JO.q rfl rfl (Nat.le_of_ble_eq_true rfl) (Qt.assign rfl) ?_)
          | (refine K.binOp ?_; first | refine JO.q rfl rfl (Nat.le_of_ble_eq_true rfl) (Qt.cmp rfl rfl (congrArg some t1)) ?_ | refine JO.q rfl rfl (Nat.le_of_ble_eq_true rfl) (Qt.cmp rfl rfl rfl) ?_ | refine JO.q rfl rfl (Nat.le_of_ble_eq_true rfl) (Qt.eqB rfl rfl) ?_ | refine JO.q rfl rfl (Nat.le_of_ble_eq_true rfl) (Qt.neB rfl rfl) ?_)
          | (refine K.unOp ?_; refine JO.q rfl rfl (Nat.le_of_ble_eq_true rfl) (Qt.not rfl) ?_)
          | (refine K.bi ?_; first | refine JO.q rfl rfl (Nat.le_of_ble_eq_true rfl) (Qt.lenI 4 (n := s.chans.length) rfl rfl (by simp)) ?_ | refine JO.q rfl rfl (Nat.le_of_ble_eq_true rfl) (Qt.lenM rfl) ?_ | refine JO.q rfl rfl (Nat.le_of_ble_eq_true rfl) (Qt.lenR rfl) ?_ | refine JO.q rfl rfl (Nat.le_of_ble_eq_true rfl) (Qt.lenV rfl) ?_ | refine JO.q rfl rfl (Nat.le_of_ble_eq_true rfl) (Qt.lenO rfl) ?_)
          | (refine K.extract ?_; refine JO.q rfl rfl (Nat.le_of_ble_eq_true rfl) (Qt.extract rfl rfl) ?_)
          | (refine JO.alloc rfl (Nat.le_of_ble_eq_true rfl) ?_; intro _)
          | (refine JO.box rfl (Nat.le_of_ble_eq_true rfl) rfl rfl ?_; intro _)
          | (refine K.pick ?_; refine JO.q rfl rfl (Nat.le_of_ble_eq_true rfl) (Qt.pick rfl rfl) ?_)
          | (refine K.build ?_; refine JO.q rfl rfl (Nat.le_of_ble_eq_true rfl) (Qt.build rfl (by kernel_rfl)) ?_)
          | (refine K.lit ?_; first | (refine JO.lit0 rfl (Nat.le_of_ble_eq_true rfl) ?_; intro _) | (refine JO.lit1 rfl (Nat.le_of_ble_eq_true rfl) rfl rfl rfl rfl rfl ?_; intro _))
          | (refine K.nilCheck ?_; refine JO.q rfl rfl (Nat.le_of_ble_eq_true rfl) (Qt.nilCheck rfl rfl) ?_)
          | (refine K.field ?_; refine JO.q rfl rfl (Nat.le_of_ble_eq_true rfl) (Qt.field rfl rfl (by kernel_rfl) rfl) ?_)
          | (refine K.convert ?_; refine JO.q rfl rfl (Nat.le_of_ble_eq_true rfl) (Qt.conv rfl rfl) ?_)
          | refine JO.nil ?_
          | refine J.seq ?_
          | refine J.region ?_
          | refine J.block ?_
          | refine J.inBlock ?_
          | refine J.skip ?_
          | refine J.exit rfl ?_
          | refine J.cond_t rfl ?_
          | refine J.cond_f rfl ?_
          | refine JO.no rfl rfl (Nat.le_of_ble_eq_true rfl) ?_)
      refine J.nilR 79 6 ?_
      rw [List.take_of_length_le (by rw [F.cl]; exact Nat.le_refl _), List.take_of_length_le (Nat.le_refl _)]
      refine J.loop (ι := { q : Nat × Value // q.1 ≤ s.chans.length }) (fun q => [(96, .c (nI q.1.1)), (95, .c (nI s.chans.length)), (94, .c (.v u.vR)), (3, .c (.v (pt b3))), (2, .c (.v (pt b2))), (0, .c (.v (pt b)))]) (fun q => .row q.1.2 79 6 ((s.chans.take q.1.1).map eC) :: .box b3 41 (mkS s (.r 25 (s.gs.map eG)) (.v q.1.2) (.r 1 (s.cache.map fun l => [ints l]))) :: .box b2 41 zSt :: wd b u s) (fun q => s.chans.length - q.1.1) ⟨(0, .slice none 0 0), Nat.zero_le _⟩ (fun X h => h.weak ⟨rfl, rfl, rfl, rfl, rfl, rfl, trivial⟩) (fun q ih => ?_)
      obtain ⟨⟨k, vh⟩, hk⟩ := q
      simp only at hk ih ⊢
      by_cases hk2 : k < s.chans.length
      · have t1 : (decide ((k : Int) < (s.chans.length : Int))) = true := by simpa using hk2
        have hx := cn_nat hk2
        have hm := List.mem_of_getElem? hx
        have c8 := F.ch
        have hcp := F.cp _ hm
        have hcl : (s.chans.take k).length = k := by rw [List.length_take]; omega
        have RR := r_room (rsW u s) u.TR (rs_at (u := u) hk2)
        rw [show (((Sx.cn s ((k : Int) + 1)).cap.toNat : Nat) : Int) = (Sx.cn s ((k : Int) + 1)).cap by omega] at RR
        have RA := r_all (rsW u s) u.TR (rs_at (u := u) hk2)
        have LO := l_owner u.pL (s.chans.map (·.lock)) u.TL (k : Int)
        rw [ow_at hk2] at LO
        have QR := q_list u.pQ s.sudogs.length (qW s) u.TQ (2 * ((k : Int) + 1) - 2)
        rw [qr_at (by omega)] at QR
        have QS := q_list u.pQ s.sudogs.length (qW s) u.TQ (2 * ((k : Int) + 1) - 1)
        rw [qs_at (by omega)] at QS
        have w1 : IntKind.i64.wrap ((k : Int) + 1) = (k : Int) + 1 := w64 (by omega) (by omega)
        have OR : ∀ x : Int, x = k → 0 ≤ x ∧ x < ((List.range s.chans.length).map fun i => [A.v (u.rs i)]).length := fun x hx => by simp; omega
        have OC : ∀ x : Int, x = k → 0 ≤ x ∧ x < (s.chans.map fun c => [bI c.closed]).length := fun x hx => by simp; omega
        have AR : ((List.range s.chans.length).map fun i => [A.v (u.rs i)])[((k : Int)).toNat]? = some [A.v (u.rs k)] := by rw [Int.toNat_natCast, List.getElem?_map, List.getElem?_range hk2]; rfl
        have AC : (s.chans.map fun c => [bI c.closed])[((k : Int)).toNat]? = some [bI (Sx.cn s ((k : Int) + 1)).closed] := by rw [Int.toNat_natCast, List.getElem?_map, hx]; rfl
        repeat (first
            | (refine K.fieldAddr ?_; refine JO.q rfl rfl (Nat.le_of_ble_eq_true rfl) (Qt.fieldAddr rfl rfl) ?_)
            | (refine K.load ?_; first | first | refine JO.q rfl rfl (Nat.le_of_ble_eq_true rfl) (Qt.load1o rfl (AR) (by exact rfl)) ?_ | refine JO.q rfl rfl (Nat.le_of_ble_eq_true rfl) (Qt.loadWo rfl (AR) (by exact rfl)) ?_ | refine JO.q rfl rfl (Nat.le_of_ble_eq_true rfl) (Qt.loadNo rfl (AR) (by exact rfl) (by exact rfl)) ?_ | refine JO.q rfl rfl (Nat.le_of_ble_eq_true rfl) (Qt.load1 rfl .el rfl) ?_ | refine JO.q rfl rfl (Nat.le_of_ble_eq_true rfl) (Qt.loadW rfl .el rfl) ?_ | refine JO.q rfl rfl (Nat.le_of_ble_eq_true rfl) (Qt.loadN rfl .el rfl rfl) ?_ | refine JO.q rfl rfl (Nat.le_of_ble_eq_true rfl) (Qt.load1b rfl (by exact rfl)) ?_ | refine JO.q rfl rfl (Nat.le_of_ble_eq_true rfl) (Qt.loadWb rfl (by exact rfl)) ?_ | refine JO.q rfl rfl (Nat.le_of_ble_eq_true rfl) (Qt.loadNb rfl (by exact rfl) (by exact rfl)) ?_)
            | (refine K.move ?_; refine JO.q rfl rfl (Nat.le_of_ble_eq_true rfl) (Qt.move rfl) ?_)
            | (refine K.store ?_; first | refine JO.ld (Ld.storeW rfl rfl rfl (by exact rfl) (by exact rfl)) rfl (fun _ => ?_) | refine JO.ld (Ld.store1 rfl rfl (by exact rfl)) rfl (fun _ => ?_) | refine JO.ld (Ld.storeN rfl rfl rfl (by exact rfl) (by exact rfl)) rfl (fun _ => ?_))
            | (refine K.assign ?_; refine JO.q rfl rfl (Nat.le_of_ble_eq_true rfl) (Qt.assign rfl) ?_)
            | (refine K.indexAddr ?_; refine JO.q rfl rfl (Nat.le_of_ble_eq_true rfl) (Qt.indexO rfl rfl (OR _ rfl).1 (OR _ rfl).2) ?_)
            | (refine K.binOp ?_; first | refine JO.q rfl rfl (Nat.le_of_ble_eq_true rfl) (Qt.cmp rfl rfl (congrArg some t1)) ?_ | refine JO.q rfl rfl (Nat.le_of_ble_eq_true rfl) (Qt.cmp rfl rfl rfl) ?_ | refine JO.q rfl rfl (Nat.le_of_ble_eq_true rfl) (Qt.eqB rfl rfl) ?_ | refine JO.q rfl rfl (Nat.le_of_ble_eq_true rfl) (Qt.neB rfl rfl) ?_)
            | (refine K.unOp ?_; refine JO.q rfl rfl (Nat.le_of_ble_eq_true rfl) (Qt.not rfl) ?_)
            | (refine K.bi ?_; first | refine JO.q rfl rfl (Nat.le_of_ble_eq_true rfl) (Qt.lenM rfl) ?_ | refine JO.q rfl rfl (Nat.le_of_ble_eq_true rfl) (Qt.lenR rfl) ?_ | refine JO.q rfl rfl (Nat.le_of_ble_eq_true rfl) (Qt.lenV rfl) ?_ | refine JO.q rfl rfl (Nat.le_of_ble_eq_true rfl) (Qt.lenO rfl) ?_)
            | (refine K.extract ?_; refine JO.q rfl rfl (Nat.le_of_ble_eq_true rfl) (Qt.extract rfl rfl) ?_)
            | (refine JO.alloc rfl (Nat.le_of_ble_eq_true rfl) ?_; intro _)
            | (refine JO.box rfl (Nat.le_of_ble_eq_true rfl) rfl rfl ?_; intro _)
            | (refine K.pick ?_; refine JO.q rfl rfl (Nat.le_of_ble_eq_true rfl) (Qt.pick rfl rfl) ?_)
            | (refine K.build ?_; refine JO.q rfl rfl (Nat.le_of_ble_eq_true rfl) (Qt.build rfl (by kernel_rfl)) ?_)
            | (refine K.lit ?_; first | (refine JO.lit0 rfl (Nat.le_of_ble_eq_true rfl) ?_; intro _) | (refine JO.lit1 rfl (Nat.le_of_ble_eq_true rfl) rfl rfl rfl rfl rfl ?_; intro _))
            | (refine K.nilCheck ?_; refine JO.q rfl rfl (Nat.le_of_ble_eq_true rfl) (Qt.nilCheck rfl rfl) ?_)
            | (refine K.field ?_; refine JO.q rfl rfl (Nat.le_of_ble_eq_true rfl) (Qt.field rfl rfl (by kernel_rfl) rfl) ?_)
            | (refine K.convert ?_; refine JO.q rfl rfl (Nat.le_of_ble_eq_true rfl) (Qt.conv rfl rfl) ?_)
            | refine JO.nil ?_
            | refine J.seq ?_
            | refine J.region ?_
            | refine J.block ?_
            | refine J.inBlock ?_
            | refine J.skip ?_
            | refine J.exit rfl ?_
            | refine J.cond_t rfl ?_
            | refine J.cond_f rfl ?_
            | refine JO.no rfl rfl (Nat.le_of_ble_eq_true rfl) ?_)
        refine J.draw (by kernel_rfl) rfl ?_
        refine JW.baseT [0,11,12,14] (some 39) ?_
        refine JD.take 0 rfl rfl (by kernel_rfl) rfl (Nat.le_of_ble_eq_true rfl) (Qt.fieldAddr rfl rfl) rfl ?_
        first
          | refine JD.take 1 rfl rfl (by kernel_rfl) rfl (Nat.le_of_ble_eq_true rfl) (Qt.load1 rfl .el rfl) rfl ?_
          | refine JD.take 1 rfl rfl (by kernel_rfl) rfl (Nat.le_of_ble_eq_true rfl) (Qt.loadW rfl .el rfl) rfl ?_
          | refine JD.take 1 rfl rfl (by kernel_rfl) rfl (Nat.le_of_ble_eq_true rfl) (Qt.loadN rfl .el rfl rfl) rfl ?_
          | refine JD.take 1 rfl rfl (by kernel_rfl) rfl (Nat.le_of_ble_eq_true rfl) (Qt.load1b rfl (by exact rfl)) rfl ?_
          | refine JD.take 1 rfl rfl (by kernel_rfl) rfl (Nat.le_of_ble_eq_true rfl) (Qt.loadWb rfl (by exact rfl)) rfl ?_
          | refine JD.take 1 rfl rfl (by kernel_rfl) rfl (Nat.le_of_ble_eq_true rfl) (Qt.loadNb rfl (by exact rfl) (by exact rfl)) rfl ?_
        refine JD.take 2 rfl rfl (by kernel_rfl) rfl (Nat.le_of_ble_eq_true rfl) (Qt.move rfl) rfl ?_
        refine JD.take 4 rfl rfl (by kernel_rfl) rfl (Nat.le_of_ble_eq_true rfl) (Qt.move rfl) rfl ?_
        refine JD.take 6 rfl rfl (by kernel_rfl) rfl (Nat.le_of_ble_eq_true rfl) (Qt.move rfl) rfl ?_
        refine JD.take 7 rfl rfl (by kernel_rfl) rfl (Nat.le_of_ble_eq_true rfl) (Qt.nilCheck rfl rfl) rfl ?_
        refine JD.take 8 rfl rfl (by kernel_rfl) rfl (Nat.le_of_ble_eq_true rfl) (Qt.fieldAddr rfl rfl) rfl ?_
        first
          | refine JD.take 9 rfl rfl (by kernel_rfl) rfl (Nat.le_of_ble_eq_true rfl) (Qt.load1 rfl .el rfl) rfl ?_
          | refine JD.take 9 rfl rfl (by kernel_rfl) rfl (Nat.le_of_ble_eq_true rfl) (Qt.loadW rfl .el rfl) rfl ?_
          | refine JD.take 9 rfl rfl (by kernel_rfl) rfl (Nat.le_of_ble_eq_true rfl) (Qt.loadN rfl .el rfl rfl) rfl ?_
          | refine JD.take 9 rfl rfl (by kernel_rfl) rfl (Nat.le_of_ble_eq_true rfl) (Qt.load1b rfl (by exact rfl)) rfl ?_
          | refine JD.take 9 rfl rfl (by kernel_rfl) rfl (Nat.le_of_ble_eq_true rfl) (Qt.loadWb rfl (by exact rfl)) rfl ?_
          | refine JD.take 9 rfl rfl (by kernel_rfl) rfl (Nat.le_of_ble_eq_true rfl) (Qt.loadNb rfl (by exact rfl) (by exact rfl)) rfl ?_
        refine JD.take 10 rfl rfl (by kernel_rfl) rfl (Nat.le_of_ble_eq_true rfl) (Qt.move rfl) rfl ?_
        refine JD.take 11 rfl rfl (by kernel_rfl) rfl (Nat.le_of_ble_eq_true rfl) (Qt.indexO rfl rfl (OC _ rfl).1 (OC _ rfl).2) rfl ?_
        refine JD.take 12 rfl rfl (by kernel_rfl) rfl (Nat.le_of_ble_eq_true rfl) (Qt.load1o rfl AC rfl) rfl ?_
        refine JD.take 13 rfl rfl (by kernel_rfl) rfl (Nat.le_of_ble_eq_true rfl) (Qt.move rfl) rfl ?_
        refine JD.take 14 rfl rfl (by kernel_rfl) rfl (Nat.le_of_ble_eq_true rfl) (Qt.nilCheck rfl rfl) rfl ?_
        refine JD.take 15 rfl rfl (by kernel_rfl) rfl (Nat.le_of_ble_eq_true rfl) (Qt.fieldAddr rfl rfl) rfl ?_
        first
          | refine JD.take 16 rfl rfl (by kernel_rfl) rfl (Nat.le_of_ble_eq_true rfl) (Qt.load1 rfl .el rfl) rfl ?_
          | refine JD.take 16 rfl rfl (by kernel_rfl) rfl (Nat.le_of_ble_eq_true rfl) (Qt.loadW rfl .el rfl) rfl ?_
          | refine JD.take 16 rfl rfl (by kernel_rfl) rfl (Nat.le_of_ble_eq_true rfl) (Qt.loadN rfl .el rfl rfl) rfl ?_
          | refine JD.take 16 rfl rfl (by kernel_rfl) rfl (Nat.le_of_ble_eq_true rfl) (Qt.load1b rfl (by exact rfl)) rfl ?_
          | refine JD.take 16 rfl rfl (by kernel_rfl) rfl (Nat.le_of_ble_eq_true rfl) (Qt.loadWb rfl (by exact rfl)) rfl ?_
          | refine JD.take 16 rfl rfl (by kernel_rfl) rfl (Nat.le_of_ble_eq_true rfl) (Qt.loadNb rfl (by exact rfl) (by exact rfl)) rfl ?_
        refine JD.take 17 rfl rfl (by kernel_rfl) rfl (Nat.le_of_ble_eq_true rfl) (Qt.move rfl) rfl ?_
        refine JD.take 19 rfl rfl (by kernel_rfl) rfl (Nat.le_of_ble_eq_true rfl) (Qt.move rfl) rfl ?_
        refine JD.take 20 rfl rfl (by kernel_rfl) rfl (Nat.le_of_ble_eq_true rfl) (Qt.nilCheck rfl rfl) rfl ?_
        refine JD.take 21 rfl rfl (by kernel_rfl) rfl (Nat.le_of_ble_eq_true rfl) (Qt.fieldAddr rfl rfl) rfl ?_
        first
          | refine JD.take 22 rfl rfl (by kernel_rfl) rfl (Nat.le_of_ble_eq_true rfl) (Qt.load1 rfl .el rfl) rfl ?_
          | refine JD.take 22 rfl rfl (by kernel_rfl) rfl (Nat.le_of_ble_eq_true rfl) (Qt.loadW rfl .el rfl) rfl ?_
          | refine JD.take 22 rfl rfl (by kernel_rfl) rfl (Nat.le_of_ble_eq_true rfl) (Qt.loadN rfl .el rfl rfl) rfl ?_
          | refine JD.take 22 rfl rfl (by kernel_rfl) rfl (Nat.le_of_ble_eq_true rfl) (Qt.load1b rfl (by exact rfl)) rfl ?_
          | refine JD.take 22 rfl rfl (by kernel_rfl) rfl (Nat.le_of_ble_eq_true rfl) (Qt.loadWb rfl (by exact rfl)) rfl ?_
          | refine JD.take 22 rfl rfl (by kernel_rfl) rfl (Nat.le_of_ble_eq_true rfl) (Qt.loadNb rfl (by exact rfl) (by exact rfl)) rfl ?_
        refine JD.take 23 rfl rfl (by kernel_rfl) rfl (Nat.le_of_ble_eq_true rfl) (Qt.move rfl) rfl ?_
        refine JD.take 24 rfl rfl (by kernel_rfl) rfl (Nat.le_of_ble_eq_true rfl) (Qt.ari rfl rfl rfl w1) rfl ?_
        refine JD.take 27 rfl rfl (by kernel_rfl) rfl (Nat.le_of_ble_eq_true rfl) (Qt.move rfl) rfl ?_
        refine JD.take 28 rfl rfl (by kernel_rfl) rfl (Nat.le_of_ble_eq_true rfl) (Qt.nilCheck rfl rfl) rfl ?_
        refine JD.take 29 rfl rfl (by kernel_rfl) rfl (Nat.le_of_ble_eq_true rfl) (Qt.fieldAddr rfl rfl) rfl ?_
        first
          | refine JD.take 30 rfl rfl (by kernel_rfl) rfl (Nat.le_of_ble_eq_true rfl) (Qt.load1 rfl .el rfl) rfl ?_
          | refine JD.take 30 rfl rfl (by kernel_rfl) rfl (Nat.le_of_ble_eq_true rfl) (Qt.loadW rfl .el rfl) rfl ?_
          | refine JD.take 30 rfl rfl (by kernel_rfl) rfl (Nat.le_of_ble_eq_true rfl) (Qt.loadN rfl .el rfl rfl) rfl ?_
          | refine JD.take 30 rfl rfl (by kernel_rfl) rfl (Nat.le_of_ble_eq_true rfl) (Qt.load1b rfl (by exact rfl)) rfl ?_
          | refine JD.take 30 rfl rfl (by kernel_rfl) rfl (Nat.le_of_ble_eq_true rfl) (Qt.loadWb rfl (by exact rfl)) rfl ?_
          | refine JD.take 30 rfl rfl (by kernel_rfl) rfl (Nat.le_of_ble_eq_true rfl) (Qt.loadNb rfl (by exact rfl) (by exact rfl)) rfl ?_
        refine JD.take 31 rfl rfl (by kernel_rfl) rfl (Nat.le_of_ble_eq_true rfl) (Qt.move rfl) rfl ?_
        refine JD.take 32 rfl rfl (by kernel_rfl) rfl (Nat.le_of_ble_eq_true rfl) (Qt.ari rfl rfl rfl w1) rfl ?_
        refine JD.each1 (i := 3) (by kernel_rfl) ?_
        refine JS.loud rfl rfl rfl (Nat.le_of_ble_eq_true rfl) (Ld.callT RR (Nat.le_of_ble_eq_true rfl) rfl (.cons .refl .nil)) (by first | exact .none | exact .nil | exact .tbox rfl | exact .trow rfl | exact .tres rfl | exact .row (by repeat (first | exact .refl | refine .cons ?_)) | exact .box (by repeat (first | exact .refl | refine .cons ?_))) (fun _ => ?_)
        refine JD.each1 (i := 5) (by kernel_rfl) ?_
        refine JS.loud rfl rfl rfl (Nat.le_of_ble_eq_true rfl) (Ld.callT RA (Nat.le_of_ble_eq_true rfl) rfl (.cons .refl .nil)) (by first | exact .none | exact .nil | exact .tbox rfl | exact .trow rfl | exact .tres rfl | exact .row (by repeat (first | exact .refl | refine .cons ?_)) | exact .box (by repeat (first | exact .refl | refine .cons ?_))) (fun _ => ?_)
        refine JD.each1 (i := 18) (by kernel_rfl) ?_
        refine JS.loud rfl rfl rfl (Nat.le_of_ble_eq_true rfl) (Ld.callT LO (Nat.le_of_ble_eq_true rfl) rfl (.cons .refl (.cons .refl .nil))) (by first | exact .none | exact .nil | exact .tbox rfl | exact .trow rfl | exact .tres rfl | exact .row (by repeat (first | exact .refl | refine .cons ?_)) | exact .box (by repeat (first | exact .refl | refine .cons ?_))) (fun _ => ?_)
        refine JD.each1 (i := 25) (by kernel_rfl) ?_
        refine JS.loud rfl rfl rfl (Nat.le_of_ble_eq_true rfl) (Ld.pure (c_receivers ((k : Int) + 1) (by omega) (by omega)) (Nat.le_of_ble_eq_true rfl) rfl (by repeat (first | exact LeDs.nil | refine LeDs.cons (LeD.agg (by repeat (first | exact .nil | refine .cons .refl ?_ | refine .cons .nil ?_ | refine .cons .snoc ?_ | refine .cons .clone ?_))) ?_ | refine LeDs.cons LeD.refl ?_ | refine LeDs.cons (LeD.c LeA.nil) ?_ | refine LeDs.cons (LeD.c LeA.snoc) ?_ | refine LeDs.cons (LeD.c LeA.clone) ?_))) (by first | exact .none | exact .nil | exact .tbox rfl | exact .trow rfl | exact .tres rfl | exact .row (by repeat (first | exact .refl | refine .cons ?_)) | exact .box (by repeat (first | exact .refl | refine .cons ?_))) (fun _ => ?_)
        refine JD.each1 (i := 26) (by kernel_rfl) ?_
        refine JS.loud rfl rfl rfl (Nat.le_of_ble_eq_true rfl) (Ld.callT QR (Nat.le_of_ble_eq_true rfl) rfl (.cons .refl (.cons .refl .nil))) (by first | exact .none | exact .nil | exact .tbox rfl | exact .trow rfl | exact .tres rfl | exact .row (by repeat (first | exact .refl | refine .cons ?_)) | exact .box (by repeat (first | exact .refl | refine .cons ?_))) (fun _ => ?_)
        refine JD.each1 (i := 33) (by kernel_rfl) ?_
        refine JS.loud rfl rfl rfl (Nat.le_of_ble_eq_true rfl) (Ld.pure (c_senders ((k : Int) + 1) (by omega) (by omega)) (Nat.le_of_ble_eq_true rfl) rfl (by repeat (first | exact LeDs.nil | refine LeDs.cons (LeD.agg (by repeat (first | exact .nil | refine .cons .refl ?_ | refine .cons .nil ?_ | refine .cons .snoc ?_ | refine .cons .clone ?_))) ?_ | refine LeDs.cons LeD.refl ?_ | refine LeDs.cons (LeD.c LeA.nil) ?_ | refine LeDs.cons (LeD.c LeA.snoc) ?_ | refine LeDs.cons (LeD.c LeA.clone) ?_))) (by first | exact .none | exact .nil | exact .tbox rfl | exact .trow rfl | exact .tres rfl | exact .row (by repeat (first | exact .refl | refine .cons ?_)) | exact .box (by repeat (first | exact .refl | refine .cons ?_))) (fun _ => ?_)
        refine JD.each1 (i := 34) (by kernel_rfl) ?_
        refine JS.loud rfl rfl rfl (Nat.le_of_ble_eq_true rfl) (Ld.callT QS (Nat.le_of_ble_eq_true rfl) rfl (.cons .refl (.cons .refl .nil))) (by first | exact .none | exact .nil | exact .tbox rfl | exact .trow rfl | exact .tres rfl | exact .row (by repeat (first | exact .refl | refine .cons ?_)) | exact .box (by repeat (first | exact .refl | refine .cons ?_))) (fun _ => ?_)
        refine JD.each1 (i := 35) (by kernel_rfl) ?_
        refine JS.q rfl rfl rfl (Nat.le_of_ble_eq_true rfl) (Qt.build rfl (by kernel_rfl)) ?_
        refine JD.each1 (i := 36) (by kernel_rfl) ?_
        refine JS.loud rfl rfl rfl (Nat.le_of_ble_eq_true rfl) (Ld.lit1R (Nat.le_of_ble_eq_true rfl) rfl rfl rfl rfl rfl) (by first | exact .none | exact .nil | exact .tbox rfl | exact .trow rfl | exact .tres rfl | exact .row (by repeat (first | exact .refl | refine .cons ?_)) | exact .box (by repeat (first | exact .refl | refine .cons ?_))) (fun _ => ?_)
        refine JD.each1 (i := 37) (by kernel_rfl) ?_
        refine JS.loud rfl rfl rfl (Nat.le_of_ble_eq_true rfl) (Ld.appOw (Nat.le_of_ble_eq_true rfl) rfl rfl .read (by first | (simp; omega) | simp | omega)) (by first | exact .none | exact .nil | exact .tbox rfl | exact .trow rfl | exact .tres rfl | exact .row (by repeat (first | exact .refl | refine .cons ?_)) | exact .box (by repeat (first | exact .refl | refine .cons ?_))) (fun _ => ?_)
        refine JD.each1 (i := 38) (by kernel_rfl) ?_
        refine JS.q rfl rfl rfl (Nat.le_of_ble_eq_true rfl) (Qt.fieldAddr rfl rfl) ?_
        refine JD.each1 (i := 39) (by kernel_rfl) ?_
        first
          | refine JS.last rfl rfl (Ld.storeW rfl rfl rfl (by exact rfl) (by exact rfl)) (fun _ => ?_)
          | refine JS.last rfl rfl (Ld.store1 rfl rfl (by exact rfl)) (fun _ => ?_)
          | refine JS.last rfl rfl (Ld.storeN rfl rfl rfl (by exact rfl) (by exact rfl)) (fun _ => ?_)
        refine JW.done (by kernel_rfl) ?_
        repeat (first
            | (refine K.fieldAddr ?_; refine JO.q rfl rfl (Nat.le_of_ble_eq_true rfl) (Qt.fieldAddr rfl rfl) ?_)
            | (refine K.load ?_; first | refine JO.q rfl rfl (Nat.le_of_ble_eq_true rfl) (Qt.load1 rfl .el rfl) ?_ | refine JO.q rfl rfl (Nat.le_of_ble_eq_true rfl) (Qt.loadW rfl .el rfl) ?_ | refine JO.q rfl rfl (Nat.le_of_ble_eq_true rfl) (Qt.loadN rfl .el rfl rfl) ?_ | refine JO.q rfl rfl (Nat.le_of_ble_eq_true rfl) (Qt.load1b rfl (by exact rfl)) ?_ | refine JO.q rfl rfl (Nat.le_of_ble_eq_true rfl) (Qt.loadWb rfl (by exact rfl)) ?_ | refine JO.q rfl rfl (Nat.le_of_ble_eq_true rfl) (Qt.loadNb rfl (by exact rfl) (by exact rfl)) ?_)
            | (refine K.move ?_; refine JO.q rfl rfl (Nat.le_of_ble_eq_true rfl) (Qt.move rfl) ?_)
            | (refine K.store ?_; first | refine JO.ld (Ld.storeW rfl rfl rfl (by exact rfl) (by exact rfl)) rfl (fun _ => ?_) | refine JO.ld (Ld.store1 rfl rfl (by exact rfl)) rfl (fun _ => ?_) | refine JO.ld (Ld.storeN rfl rfl rfl (by exact rfl) (by exact rfl)) rfl (fun _ => ?_))
            | (refine K.assign ?_; refine JO.q rfl rfl (Nat.le_of_ble_eq_true rfl) (Qt.assign rfl) ?_)
            | (refine K.binOp ?_; first | refine JO.q rfl rfl (Nat.le_of_ble_eq_true rfl) (Qt.ari rfl rfl rfl (w64 (by omega) (by omega))) ?_ | refine JO.q rfl rfl (Nat.le_of_ble_eq_true rfl) (Qt.cmp rfl rfl rfl) ?_ | refine JO.q rfl rfl (Nat.le_of_ble_eq_true rfl) (Qt.eqB rfl rfl) ?_ | refine JO.q rfl rfl (Nat.le_of_ble_eq_true rfl) (Qt.neB rfl rfl) ?_)
            | (refine K.unOp ?_; refine JO.q rfl rfl (Nat.le_of_ble_eq_true rfl) (Qt.not rfl) ?_)
            | (refine K.bi ?_; first | refine JO.q rfl rfl (Nat.le_of_ble_eq_true rfl) (Qt.lenM rfl) ?_ | refine JO.q rfl rfl (Nat.le_of_ble_eq_true rfl) (Qt.lenR rfl) ?_ | refine JO.q rfl rfl (Nat.le_of_ble_eq_true rfl) (Qt.lenV rfl) ?_ | refine JO.q rfl rfl (Nat.le_of_ble_eq_true rfl) (Qt.lenO rfl) ?_)
            | (refine K.extract ?_; refine JO.q rfl rfl (Nat.le_of_ble_eq_true rfl) (Qt.extract rfl rfl) ?_)
            | (refine JO.alloc rfl (Nat.le_of_ble_eq_true rfl) ?_; intro _)
            | (refine JO.box rfl (Nat.le_of_ble_eq_true rfl) rfl rfl ?_; intro _)
            | (refine K.pick ?_; refine JO.q rfl rfl (Nat.le_of_ble_eq_true rfl) (Qt.pick rfl rfl) ?_)
            | (refine K.build ?_; refine JO.q rfl rfl (Nat.le_of_ble_eq_true rfl) (Qt.build rfl (by kernel_rfl)) ?_)
            | (refine K.lit ?_; first | (refine JO.lit0 rfl (Nat.le_of_ble_eq_true rfl) ?_; intro _) | (refine JO.lit1 rfl (Nat.le_of_ble_eq_true rfl) rfl rfl rfl rfl rfl ?_; intro _))
            | (refine K.nilCheck ?_; refine JO.q rfl rfl (Nat.le_of_ble_eq_true rfl) (Qt.nilCheck rfl rfl) ?_)
            | (refine K.field ?_; refine JO.q rfl rfl (Nat.le_of_ble_eq_true rfl) (Qt.field rfl rfl (by kernel_rfl) rfl) ?_)
            | (refine K.convert ?_; refine JO.q rfl rfl (Nat.le_of_ble_eq_true rfl) (Qt.conv rfl rfl) ?_)
            | refine JO.nil ?_
            | refine J.seq ?_
            | refine J.region ?_
            | refine J.block ?_
            | refine J.inBlock ?_
            | refine J.skip ?_
            | refine J.exit rfl ?_
            | refine J.cond_t rfl ?_
            | refine J.cond_f rfl ?_
            | refine JO.no rfl rfl (Nat.le_of_ble_eq_true rfl) ?_)
        rename_i vh2 _
        refine J.congL ?_ ((ih ⟨(k + 1, vh2), by simp only; omega⟩ (by simp only; omega)).weak ⟨rfl, rfl, rfl, rfl, rfl, rfl, trivial⟩)
        rw [List.take_add_one, hx, List.map_append]
        rfl
      · have t1 : (decide ((k : Int) < (s.chans.length : Int))) = false := by simpa using hk2
        obtain rfl : k = s.chans.length := by omega
        rw [List.take_of_length_le (Nat.le_refl _)]
        refine J.frzN 0 1 4 rfl rfl rfl ?_
        repeat (first
            | (refine K.fieldAddr ?_; refine JO.q rfl rfl (Nat.le_of_ble_eq_true rfl) (Qt.fieldAddr rfl rfl) ?_)
            | (refine K.load ?_; first | refine JO.q rfl rfl (Nat.le_of_ble_eq_true rfl) (Qt.load1 rfl .el rfl) ?_ | refine JO.q rfl rfl (Nat.le_of_ble_eq_true rfl) (Qt.loadW rfl .el rfl) ?_ | refine JO.q rfl rfl (Nat.le_of_ble_eq_true rfl) (Qt.loadN rfl .el rfl rfl) ?_ | refine JO.q rfl rfl (Nat.le_of_ble_eq_true rfl) (Qt.load1b rfl (by exact rfl)) ?_ | refine JO.q rfl rfl (Nat.le_of_ble_eq_true rfl) (Qt.loadWb rfl (by exact rfl)) ?_ | refine JO.q rfl rfl (Nat.le_of_ble_eq_true rfl) (Qt.loadNb rfl (by exact rfl) (by exact rfl)) ?_)
            | (refine K.move ?_; refine JO.q rfl rfl (Nat.le_of_ble_eq_true rfl) (Qt.move rfl) ?_)
            | (refine K.store ?_; first | refine JO.ld (Ld.storeW rfl rfl rfl (by exact rfl) (by exact rfl)) rfl (fun _ => ?_) | refine JO.ld (Ld.store1 rfl rfl (by exact rfl)) rfl (fun _ => ?_) | refine JO.ld (Ld.storeN rfl rfl rfl (by exact rfl) (by exact rfl)) rfl (fun _ => ?_))
            | (refine K.assign ?_; refine JO.q rfl rfl (Nat.le_of_ble_eq_true rfl) (Qt.assign rfl) ?_)
            | (refine K.binOp ?_; first | refine JO.q rfl rfl (Nat.le_of_ble_eq_true rfl) (Qt.cmp rfl rfl (congrArg some t1)) ?_ | refine JO.q rfl rfl (Nat.le_of_ble_eq_true rfl) (Qt.cmp rfl rfl rfl) ?_ | refine JO.q rfl rfl (Nat.le_of_ble_eq_true rfl) (Qt.eqB rfl rfl) ?_ | refine JO.q rfl rfl (Nat.le_of_ble_eq_true rfl) (Qt.neB rfl rfl) ?_)
            | (refine K.unOp ?_; refine JO.q rfl rfl (Nat.le_of_ble_eq_true rfl) (Qt.not rfl) ?_)
            | (refine K.bi ?_; first | refine JO.q rfl rfl (Nat.le_of_ble_eq_true rfl) (Qt.lenM rfl) ?_ | refine JO.q rfl rfl (Nat.le_of_ble_eq_true rfl) (Qt.lenR rfl) ?_ | refine JO.q rfl rfl (Nat.le_of_ble_eq_true rfl) (Qt.lenV rfl) ?_ | refine JO.q rfl rfl (Nat.le_of_ble_eq_true rfl) (Qt.lenO rfl) ?_)
            | (refine K.extract ?_; refine JO.q rfl rfl (Nat.le_of_ble_eq_true rfl) (Qt.extract rfl rfl) ?_)
            | (refine JO.alloc rfl (Nat.le_of_ble_eq_true rfl) ?_; intro _)
            | (refine JO.box rfl (Nat.le_of_ble_eq_true rfl) rfl rfl ?_; intro _)
            | (refine K.pick ?_; refine JO.q rfl rfl (Nat.le_of_ble_eq_true rfl) (Qt.pick rfl rfl) ?_)
            | (refine K.build ?_; refine JO.q rfl rfl (Nat.le_of_ble_eq_true rfl) (Qt.build rfl (by kernel_rfl)) ?_)
            | (refine K.lit ?_; first | (refine JO.lit0 rfl (Nat.le_of_ble_eq_true rfl) ?_; intro _) | (refine JO.lit1 rfl (Nat.le_of_ble_eq_true rfl) rfl rfl rfl rfl rfl ?_; intro _))
            | (refine K.nilCheck ?_; refine JO.q rfl rfl (Nat.le_of_ble_eq_true rfl) (Qt.nilCheck rfl rfl) ?_)
            | (refine K.field ?_; refine JO.q rfl rfl (Nat.le_of_ble_eq_true rfl) (Qt.field rfl rfl (by kernel_rfl) rfl) ?_)
            | (refine K.convert ?_; refine JO.q rfl rfl (Nat.le_of_ble_eq_true rfl) (Qt.conv rfl rfl) ?_)
            | refine JO.nil ?_
            | refine J.seq ?_
            | refine J.region ?_
            | refine J.block ?_
            | refine J.inBlock ?_
            | refine J.skip ?_
            | refine J.exit rfl ?_
            | refine J.cond_t rfl ?_
            | refine J.cond_f rfl ?_
            | refine JO.no rfl rfl (Nat.le_of_ble_eq_true rfl) ?_)
        first
          | exact J.retE [_, _] rfl Try.func8 rfl (.cons (.cell 0 rfl rfl rfl) .nil) () (by first | exact .agg (by repeat (first | exact .nil | refine .cons .refl ?_ | refine .cons .nil ?_ | refine .cons .snoc ?_ | refine .cons .clone ?_)) | exact .refl | exact .c .nil | exact .tup (by repeat (first | exact .nil | refine .cons (.agg (by repeat (first | exact .nil | refine .cons .refl ?_ | refine .cons .nil ?_ | refine .cons .snoc ?_ | refine .cons .clone ?_))) ?_ | refine .cons .refl ?_ | refine .cons (.c .nil) ?_ | refine .cons (.c .snoc) ?_ | refine .cons (.c .clone) ?_))) rfl
          | exact J.retE [_, _] rfl Try.func8 rfl (.cons (.cell 1 rfl rfl rfl) .nil) () (by first | exact .agg (by repeat (first | exact .nil | refine .cons .refl ?_ | refine .cons .nil ?_ | refine .cons .snoc ?_ | refine .cons .clone ?_)) | exact .refl | exact .c .nil | exact .tup (by repeat (first | exact .nil | refine .cons (.agg (by repeat (first | exact .nil | refine .cons .refl ?_ | refine .cons .nil ?_ | refine .cons .snoc ?_ | refine .cons .clone ?_))) ?_ | refine .cons .refl ?_ | refine .cons (.c .nil) ?_ | refine .cons (.c .snoc) ?_ | refine .cons (.c .clone) ?_))) rfl
          | exact J.retE [_, _] rfl Try.func8 rfl (.cons (.cell 2 rfl rfl rfl) .nil) () (by first | exact .agg (by repeat (first | exact .nil | refine .cons .refl ?_ | refine .cons .nil ?_ | refine .cons .snoc ?_ | refine .cons .clone ?_)) | exact .refl | exact .c .nil | exact .tup (by repeat (first | exact .nil | refine .cons (.agg (by repeat (first | exact .nil | refine .cons .refl ?_ | refine .cons .nil ?_ | refine .cons .snoc ?_ | refine .cons .clone ?_))) ?_ | refine .cons .refl ?_ | refine .cons (.c .nil) ?_ | refine .cons (.c .snoc) ?_ | refine .cons (.c .clone) ?_))) rfl
          | exact J.retE [_, _] rfl Try.func8 rfl (.cons (.cell 3 rfl rfl rfl) .nil) () (by first | exact .agg (by repeat (first | exact .nil | refine .cons .refl ?_ | refine .cons .nil ?_ | refine .cons .snoc ?_ | refine .cons .clone ?_)) | exact .refl | exact .c .nil | exact .tup (by repeat (first | exact .nil | refine .cons (.agg (by repeat (first | exact .nil | refine .cons .refl ?_ | refine .cons .nil ?_ | refine .cons .snoc ?_ | refine .cons .clone ?_))) ?_ | refine .cons .refl ?_ | refine .cons (.c .nil) ?_ | refine .cons (.c .snoc) ?_ | refine .cons (.c .clone) ?_))) rfl
          | exact J.retE [_, _] rfl Try.func8 rfl (.cons (.cell 4 rfl rfl rfl) .nil) () (by first | exact .agg (by repeat (first | exact .nil | refine .cons .refl ?_ | refine .cons .nil ?_ | refine .cons .snoc ?_ | refine .cons .clone ?_)) | exact .refl | exact .c .nil | exact .tup (by repeat (first | exact .nil | refine .cons (.agg (by repeat (first | exact .nil | refine .cons .refl ?_ | refine .cons .nil ?_ | refine .cons .snoc ?_ | refine .cons .clone ?_))) ?_ | refine .cons .refl ?_ | refine .cons (.c .nil) ?_ | refine .cons (.c .snoc) ?_ | refine .cons (.c .clone) ?_))) rfl
          | exact J.retE [_, _] rfl Try.func8 rfl (.cons (.cell 5 rfl rfl rfl) .nil) () (by first | exact .agg (by repeat (first | exact .nil | refine .cons .refl ?_ | refine .cons .nil ?_ | refine .cons .snoc ?_ | refine .cons .clone ?_)) | exact .refl | exact .c .nil | exact .tup (by repeat (first | exact .nil | refine .cons (.agg (by repeat (first | exact .nil | refine .cons .refl ?_ | refine .cons .nil ?_ | refine .cons .snoc ?_ | refine .cons .clone ?_))) ?_ | refine .cons .refl ?_ | refine .cons (.c .nil) ?_ | refine .cons (.c .snoc) ?_ | refine .cons (.c .clone) ?_))) rfl
          | exact J.retE [_, _] rfl Try.func8 rfl (.cons (.cell 6 rfl rfl rfl) .nil) () (by first | exact .agg (by repeat (first | exact .nil | refine .cons .refl ?_ | refine .cons .nil ?_ | refine .cons .snoc ?_ | refine .cons .clone ?_)) | exact .refl | exact .c .nil | exact .tup (by repeat (first | exact .nil | refine .cons (.agg (by repeat (first | exact .nil | refine .cons .refl ?_ | refine .cons .nil ?_ | refine .cons .snoc ?_ | refine .cons .clone ?_))) ?_ | refine .cons .refl ?_ | refine .cons (.c .nil) ?_ | refine .cons (.c .snoc) ?_ | refine .cons (.c .clone) ?_))) rfl
          | exact J.retE [_, _] rfl Try.func8 rfl (.cons (.cell 7 rfl rfl rfl) .nil) () (by first | exact .agg (by repeat (first | exact .nil | refine .cons .refl ?_ | refine .cons .nil ?_ | refine .cons .snoc ?_ | refine .cons .clone ?_)) | exact .refl | exact .c .nil | exact .tup (by repeat (first | exact .nil | refine .cons (.agg (by repeat (first | exact .nil | refine .cons .refl ?_ | refine .cons .nil ?_ | refine .cons .snoc ?_ | refine .cons .clone ?_))) ?_ | refine .cons .refl ?_ | refine .cons (.c .nil) ?_ | refine .cons (.c .snoc) ?_ | refine .cons (.c .clone) ?_))) rfl
          | exact J.retE [_, _] rfl Try.func8 rfl (.cons (.cell 8 rfl rfl rfl) .nil) () (by first | exact .agg (by repeat (first | exact .nil | refine .cons .refl ?_ | refine .cons .nil ?_ | refine .cons .snoc ?_ | refine .cons .clone ?_)) | exact .refl | exact .c .nil | exact .tup (by repeat (first | exact .nil | refine .cons (.agg (by repeat (first | exact .nil | refine .cons .refl ?_ | refine .cons .nil ?_ | refine .cons .snoc ?_ | refine .cons .clone ?_))) ?_ | refine .cons .refl ?_ | refine .cons (.c .nil) ?_ | refine .cons (.c .snoc) ?_ | refine .cons (.c .clone) ?_))) rfl
          | exact J.finE [_, _] rfl Try.func8 rfl (.cons (.cell 0 rfl rfl rfl) .nil) () (by first | exact .agg (by repeat (first | exact .nil | refine .cons .refl ?_ | refine .cons .nil ?_ | refine .cons .snoc ?_ | refine .cons .clone ?_)) | exact .refl | exact .c .nil | exact .tup (by repeat (first | exact .nil | refine .cons (.agg (by repeat (first | exact .nil | refine .cons .refl ?_ | refine .cons .nil ?_ | refine .cons .snoc ?_ | refine .cons .clone ?_))) ?_ | refine .cons .refl ?_ | refine .cons (.c .nil) ?_ | refine .cons (.c .snoc) ?_ | refine .cons (.c .clone) ?_))) rfl
          | exact J.finE [_, _] rfl Try.func8 rfl (.cons (.cell 1 rfl rfl rfl) .nil) () (by first | exact .agg (by repeat (first | exact .nil | refine .cons .refl ?_ | refine .cons .nil ?_ | refine .cons .snoc ?_ | refine .cons .clone ?_)) | exact .refl | exact .c .nil | exact .tup (by repeat (first | exact .nil | refine .cons (.agg (by repeat (first | exact .nil | refine .cons .refl ?_ | refine .cons .nil ?_ | refine .cons .snoc ?_ | refine .cons .clone ?_))) ?_ | refine .cons .refl ?_ | refine .cons (.c .nil) ?_ | refine .cons (.c .snoc) ?_ | refine .cons (.c .clone) ?_))) rfl
          | exact J.finE [_, _] rfl Try.func8 rfl (.cons (.cell 2 rfl rfl rfl) .nil) () (by first | exact .agg (by repeat (first | exact .nil | refine .cons .refl ?_ | refine .cons .nil ?_ | refine .cons .snoc ?_ | refine .cons .clone ?_)) | exact .refl | exact .c .nil | exact .tup (by repeat (first | exact .nil | refine .cons (.agg (by repeat (first | exact .nil | refine .cons .refl ?_ | refine .cons .nil ?_ | refine .cons .snoc ?_ | refine .cons .clone ?_))) ?_ | refine .cons .refl ?_ | refine .cons (.c .nil) ?_ | refine .cons (.c .snoc) ?_ | refine .cons (.c .clone) ?_))) rfl
          | exact J.finE [_, _] rfl Try.func8 rfl (.cons (.cell 3 rfl rfl rfl) .nil) () (by first | exact .agg (by repeat (first | exact .nil | refine .cons .refl ?_ | refine .cons .nil ?_ | refine .cons .snoc ?_ | refine .cons .clone ?_)) | exact .refl | exact .c .nil | exact .tup (by repeat (first | exact .nil | refine .cons (.agg (by repeat (first | exact .nil | refine .cons .refl ?_ | refine .cons .nil ?_ | refine .cons .snoc ?_ | refine .cons .clone ?_))) ?_ | refine .cons .refl ?_ | refine .cons (.c .nil) ?_ | refine .cons (.c .snoc) ?_ | refine .cons (.c .clone) ?_))) rfl
          | exact J.finE [_, _] rfl Try.func8 rfl (.cons (.cell 4 rfl rfl rfl) .nil) () (by first | exact .agg (by repeat (first | exact .nil | refine .cons .refl ?_ | refine .cons .nil ?_ | refine .cons .snoc ?_ | refine .cons .clone ?_)) | exact .refl | exact .c .nil | exact .tup (by repeat (first | exact .nil | refine .cons (.agg (by repeat (first | exact .nil | refine .cons .refl ?_ | refine .cons .nil ?_ | refine .cons .snoc ?_ | refine .cons .clone ?_))) ?_ | refine .cons .refl ?_ | refine .cons (.c .nil) ?_ | refine .cons (.c .snoc) ?_ | refine .cons (.c .clone) ?_))) rfl
          | exact J.finE [_, _] rfl Try.func8 rfl (.cons (.cell 5 rfl rfl rfl) .nil) () (by first | exact .agg (by repeat (first | exact .nil | refine .cons .refl ?_ | refine .cons .nil ?_ | refine .cons .snoc ?_ | refine .cons .clone ?_)) | exact .refl | exact .c .nil | exact .tup (by repeat (first | exact .nil | refine .cons (.agg (by repeat (first | exact .nil | refine .cons .refl ?_ | refine .cons .nil ?_ | refine .cons .snoc ?_ | refine .cons .clone ?_))) ?_ | refine .cons .refl ?_ | refine .cons (.c .nil) ?_ | refine .cons (.c .snoc) ?_ | refine .cons (.c .clone) ?_))) rfl
          | exact J.finE [_, _] rfl Try.func8 rfl (.cons (.cell 6 rfl rfl rfl) .nil) () (by first | exact .agg (by repeat (first | exact .nil | refine .cons .refl ?_ | refine .cons .nil ?_ | refine .cons .snoc ?_ | refine .cons .clone ?_)) | exact .refl | exact .c .nil | exact .tup (by repeat (first | exact .nil | refine .cons (.agg (by repeat (first | exact .nil | refine .cons .refl ?_ | refine .cons .nil ?_ | refine .cons .snoc ?_ | refine .cons .clone ?_))) ?_ | refine .cons .refl ?_ | refine .cons (.c .nil) ?_ | refine .cons (.c .snoc) ?_ | refine .cons (.c .clone) ?_))) rfl
          | exact J.finE [_, _] rfl Try.func8 rfl (.cons (.cell 7 rfl rfl rfl) .nil) () (by first | exact .agg (by repeat (first | exact .nil | refine .cons .refl ?_ | refine .cons .nil ?_ | refine .cons .snoc ?_ | refine .cons .clone ?_)) | exact .refl | exact .c .nil | exact .tup (by repeat (first | exact .nil | refine .cons (.agg (by repeat (first | exact .nil | refine .cons .refl ?_ | refine .cons .nil ?_ | refine .cons .snoc ?_ | refine .cons .clone ?_))) ?_ | refine .cons .refl ?_ | refine .cons (.c .nil) ?_ | refine .cons (.c .snoc) ?_ | refine .cons (.c .clone) ?_))) rfl
          | exact J.finE [_, _] rfl Try.func8 rfl (.cons (.cell 8 rfl rfl rfl) .nil) () (by first | exact .agg (by repeat (first | exact .nil | refine .cons .refl ?_ | refine .cons .nil ?_ | refine .cons .snoc ?_ | refine .cons .clone ?_)) | exact .refl | exact .c .nil | exact .tup (by repeat (first | exact .nil | refine .cons (.agg (by repeat (first | exact .nil | refine .cons .refl ?_ | refine .cons .nil ?_ | refine .cons .snoc ?_ | refine .cons .clone ?_))) ?_ | refine .cons .refl ?_ | refine .cons (.c .nil) ?_ | refine .cons (.c .snoc) ?_ | refine .cons (.c .clone) ?_))) rfl
  refine J.draw (by kernel_rfl) rfl ?_
  refine JW.baseT [11,7] (some 40) ?_
  refine JD.take 0 rfl rfl (by kernel_rfl) rfl (Nat.le_of_ble_eq_true rfl) (Qt.move rfl) rfl ?_
  refine JD.take 1 rfl rfl (by kernel_rfl) rfl (Nat.le_of_ble_eq_true rfl) (Qt.nilCheck rfl rfl) rfl ?_
  refine JD.take 2 rfl rfl (by kernel_rfl) rfl (Nat.le_of_ble_eq_true rfl) (Qt.fieldAddr rfl rfl) rfl ?_
  first
    | refine JD.take 3 rfl rfl (by kernel_rfl) rfl (Nat.le_of_ble_eq_true rfl) (Qt.load1 rfl .el rfl) rfl ?_
    | refine JD.take 3 rfl rfl (by kernel_rfl) rfl (Nat.le_of_ble_eq_true rfl) (Qt.loadW rfl .el rfl) rfl ?_
    | refine JD.take 3 rfl rfl (by kernel_rfl) rfl (Nat.le_of_ble_eq_true rfl) (Qt.loadN rfl .el rfl rfl) rfl ?_
    | refine JD.take 3 rfl rfl (by kernel_rfl) rfl (Nat.le_of_ble_eq_true rfl) (Qt.load1b rfl (by exact rfl)) rfl ?_
    | refine JD.take 3 rfl rfl (by kernel_rfl) rfl (Nat.le_of_ble_eq_true rfl) (Qt.loadWb rfl (by exact rfl)) rfl ?_
    | refine JD.take 3 rfl rfl (by kernel_rfl) rfl (Nat.le_of_ble_eq_true rfl) (Qt.loadNb rfl (by exact rfl) (by exact rfl)) rfl ?_
  refine JD.take 4 rfl rfl (by kernel_rfl) rfl (Nat.le_of_ble_eq_true rfl) (Qt.move rfl) rfl ?_
  refine JD.take 5 rfl rfl (by kernel_rfl) rfl (Nat.le_of_ble_eq_true rfl) (Qt.nilCheck rfl rfl) rfl ?_
  refine JD.take 6 rfl rfl (by kernel_rfl) rfl (Nat.le_of_ble_eq_true rfl) (Qt.fieldAddr rfl rfl) rfl ?_
  first
    | refine JD.take 7 rfl rfl (by kernel_rfl) rfl (Nat.le_of_ble_eq_true rfl) (Qt.load1 rfl .el rfl) rfl ?_
    | refine JD.take 7 rfl rfl (by kernel_rfl) rfl (Nat.le_of_ble_eq_true rfl) (Qt.loadW rfl .el rfl) rfl ?_
    | refine JD.take 7 rfl rfl (by kernel_rfl) rfl (Nat.le_of_ble_eq_true rfl) (Qt.loadN rfl .el rfl rfl) rfl ?_
    | refine JD.take 7 rfl rfl (by kernel_rfl) rfl (Nat.le_of_ble_eq_true rfl) (Qt.load1b rfl (by exact rfl)) rfl ?_
    | refine JD.take 7 rfl rfl (by kernel_rfl) rfl (Nat.le_of_ble_eq_true rfl) (Qt.loadWb rfl (by exact rfl)) rfl ?_
    | refine JD.take 7 rfl rfl (by kernel_rfl) rfl (Nat.le_of_ble_eq_true rfl) (Qt.loadNb rfl (by exact rfl) (by exact rfl)) rfl ?_
  refine JD.take 8 rfl rfl (by kernel_rfl) rfl (Nat.le_of_ble_eq_true rfl) (Qt.move rfl) rfl ?_
  refine JD.take 9 rfl rfl (by kernel_rfl) rfl (Nat.le_of_ble_eq_true rfl) (Qt.nilCheck rfl rfl) rfl ?_
  refine JD.take 10 rfl rfl (by kernel_rfl) rfl (Nat.le_of_ble_eq_true rfl) (Qt.fieldAddr rfl rfl) rfl ?_
  first
    | refine JD.take 11 rfl rfl (by kernel_rfl) rfl (Nat.le_of_ble_eq_true rfl) (Qt.load1 rfl .el rfl) rfl ?_
    | refine JD.take 11 rfl rfl (by kernel_rfl) rfl (Nat.le_of_ble_eq_true rfl) (Qt.loadW rfl .el rfl) rfl ?_
    | refine JD.take 11 rfl rfl (by kernel_rfl) rfl (Nat.le_of_ble_eq_true rfl) (Qt.loadN rfl .el rfl rfl) rfl ?_
    | refine JD.take 11 rfl rfl (by kernel_rfl) rfl (Nat.le_of_ble_eq_true rfl) (Qt.load1b rfl (by exact rfl)) rfl ?_
    | refine JD.take 11 rfl rfl (by kernel_rfl) rfl (Nat.le_of_ble_eq_true rfl) (Qt.loadWb rfl (by exact rfl)) rfl ?_
    | refine JD.take 11 rfl rfl (by kernel_rfl) rfl (Nat.le_of_ble_eq_true rfl) (Qt.loadNb rfl (by exact rfl) (by exact rfl)) rfl ?_
  refine JD.take 13 rfl rfl (by kernel_rfl) rfl (Nat.le_of_ble_eq_true rfl) (Qt.move rfl) rfl ?_
  refine JD.take 14 rfl rfl (by kernel_rfl) rfl (Nat.le_of_ble_eq_true rfl) (Qt.nilCheck rfl rfl) rfl ?_
  refine JD.take 15 rfl rfl (by kernel_rfl) rfl (Nat.le_of_ble_eq_true rfl) (Qt.fieldAddr rfl rfl) rfl ?_
  first
    | refine JD.take 16 rfl rfl (by kernel_rfl) rfl (Nat.le_of_ble_eq_true rfl) (Qt.load1 rfl .el rfl) rfl ?_
    | refine JD.take 16 rfl rfl (by kernel_rfl) rfl (Nat.le_of_ble_eq_true rfl) (Qt.loadW rfl .el rfl) rfl ?_
    | refine JD.take 16 rfl rfl (by kernel_rfl) rfl (Nat.le_of_ble_eq_true rfl) (Qt.loadN rfl .el rfl rfl) rfl ?_
    | refine JD.take 16 rfl rfl (by kernel_rfl) rfl (Nat.le_of_ble_eq_true rfl) (Qt.load1b rfl (by exact rfl)) rfl ?_
    | refine JD.take 16 rfl rfl (by kernel_rfl) rfl (Nat.le_of_ble_eq_true rfl) (Qt.loadWb rfl (by exact rfl)) rfl ?_
    | refine JD.take 16 rfl rfl (by kernel_rfl) rfl (Nat.le_of_ble_eq_true rfl) (Qt.loadNb rfl (by exact rfl) (by exact rfl)) rfl ?_
  refine JD.take 18 rfl rfl (by kernel_rfl) rfl (Nat.le_of_ble_eq_true rfl) (Qt.move rfl) rfl ?_
  refine JD.take 19 rfl rfl (by kernel_rfl) rfl (Nat.le_of_ble_eq_true rfl) (Qt.nilCheck rfl rfl) rfl ?_
  refine JD.take 20 rfl rfl (by kernel_rfl) rfl (Nat.le_of_ble_eq_true rfl) (Qt.fieldAddr rfl rfl) rfl ?_
  first
    | refine JD.take 21 rfl rfl (by kernel_rfl) rfl (Nat.le_of_ble_eq_true rfl) (Qt.load1 rfl .el rfl) rfl ?_
    | refine JD.take 21 rfl rfl (by kernel_rfl) rfl (Nat.le_of_ble_eq_true rfl) (Qt.loadW rfl .el rfl) rfl ?_
    | refine JD.take 21 rfl rfl (by kernel_rfl) rfl (Nat.le_of_ble_eq_true rfl) (Qt.loadN rfl .el rfl rfl) rfl ?_
    | refine JD.take 21 rfl rfl (by kernel_rfl) rfl (Nat.le_of_ble_eq_true rfl) (Qt.load1b rfl (by exact rfl)) rfl ?_
    | refine JD.take 21 rfl rfl (by kernel_rfl) rfl (Nat.le_of_ble_eq_true rfl) (Qt.loadWb rfl (by exact rfl)) rfl ?_
    | refine JD.take 21 rfl rfl (by kernel_rfl) rfl (Nat.le_of_ble_eq_true rfl) (Qt.loadNb rfl (by exact rfl) (by exact rfl)) rfl ?_
  refine JD.take 23 rfl rfl (by kernel_rfl) rfl (Nat.le_of_ble_eq_true rfl) (Qt.move rfl) rfl ?_
  refine JD.take 24 rfl rfl (by kernel_rfl) rfl (Nat.le_of_ble_eq_true rfl) (Qt.nilCheck rfl rfl) rfl ?_
  refine JD.take 25 rfl rfl (by kernel_rfl) rfl (Nat.le_of_ble_eq_true rfl) (Qt.fieldAddr rfl rfl) rfl ?_
  first
    | refine JD.take 26 rfl rfl (by kernel_rfl) rfl (Nat.le_of_ble_eq_true rfl) (Qt.load1 rfl .el rfl) rfl ?_
    | refine JD.take 26 rfl rfl (by kernel_rfl) rfl (Nat.le_of_ble_eq_true rfl) (Qt.loadW rfl .el rfl) rfl ?_
    | refine JD.take 26 rfl rfl (by kernel_rfl) rfl (Nat.le_of_ble_eq_true rfl) (Qt.loadN rfl .el rfl rfl) rfl ?_
    | refine JD.take 26 rfl rfl (by kernel_rfl) rfl (Nat.le_of_ble_eq_true rfl) (Qt.load1b rfl (by exact rfl)) rfl ?_
    | refine JD.take 26 rfl rfl (by kernel_rfl) rfl (Nat.le_of_ble_eq_true rfl) (Qt.loadWb rfl (by exact rfl)) rfl ?_
    | refine JD.take 26 rfl rfl (by kernel_rfl) rfl (Nat.le_of_ble_eq_true rfl) (Qt.loadNb rfl (by exact rfl) (by exact rfl)) rfl ?_
  refine JD.take 28 rfl rfl (by kernel_rfl) rfl (Nat.le_of_ble_eq_true rfl) (Qt.move rfl) rfl ?_
  refine JD.take 29 rfl rfl (by kernel_rfl) rfl (Nat.le_of_ble_eq_true rfl) (Qt.nilCheck rfl rfl) rfl ?_
  refine JD.take 30 rfl rfl (by kernel_rfl) rfl (Nat.le_of_ble_eq_true rfl) (Qt.fieldAddr rfl rfl) rfl ?_
  first
    | refine JD.take 31 rfl rfl (by kernel_rfl) rfl (Nat.le_of_ble_eq_true rfl) (Qt.load1 rfl .el rfl) rfl ?_
    | refine JD.take 31 rfl rfl (by kernel_rfl) rfl (Nat.le_of_ble_eq_true rfl) (Qt.loadW rfl .el rfl) rfl ?_
    | refine JD.take 31 rfl rfl (by kernel_rfl) rfl (Nat.le_of_ble_eq_true rfl) (Qt.loadN rfl .el rfl rfl) rfl ?_
    | refine JD.take 31 rfl rfl (by kernel_rfl) rfl (Nat.le_of_ble_eq_true rfl) (Qt.load1b rfl (by exact rfl)) rfl ?_
    | refine JD.take 31 rfl rfl (by kernel_rfl) rfl (Nat.le_of_ble_eq_true rfl) (Qt.loadWb rfl (by exact rfl)) rfl ?_
    | refine JD.take 31 rfl rfl (by kernel_rfl) rfl (Nat.le_of_ble_eq_true rfl) (Qt.loadNb rfl (by exact rfl) (by exact rfl)) rfl ?_
  refine JD.take 33 rfl rfl (by kernel_rfl) rfl (Nat.le_of_ble_eq_true rfl) (Qt.move rfl) rfl ?_
  refine JD.take 34 rfl rfl (by kernel_rfl) rfl (Nat.le_of_ble_eq_true rfl) (Qt.nilCheck rfl rfl) rfl ?_
  refine JD.take 35 rfl rfl (by kernel_rfl) rfl (Nat.le_of_ble_eq_true rfl) (Qt.fieldAddr rfl rfl) rfl ?_
  first
    | refine JD.take 36 rfl rfl (by kernel_rfl) rfl (Nat.le_of_ble_eq_true rfl) (Qt.load1 rfl .el rfl) rfl ?_
    | refine JD.take 36 rfl rfl (by kernel_rfl) rfl (Nat.le_of_ble_eq_true rfl) (Qt.loadW rfl .el rfl) rfl ?_
    | refine JD.take 36 rfl rfl (by kernel_rfl) rfl (Nat.le_of_ble_eq_true rfl) (Qt.loadN rfl .el rfl rfl) rfl ?_
    | refine JD.take 36 rfl rfl (by kernel_rfl) rfl (Nat.le_of_ble_eq_true rfl) (Qt.load1b rfl (by exact rfl)) rfl ?_
    | refine JD.take 36 rfl rfl (by kernel_rfl) rfl (Nat.le_of_ble_eq_true rfl) (Qt.loadWb rfl (by exact rfl)) rfl ?_
    | refine JD.take 36 rfl rfl (by kernel_rfl) rfl (Nat.le_of_ble_eq_true rfl) (Qt.loadNb rfl (by exact rfl) (by exact rfl)) rfl ?_
  refine JD.each2 (i := 12) (j := 39) (by kernel_rfl) ?_ ?_
  refine JS.loud rfl rfl rfl (Nat.le_of_ble_eq_true rfl) (Ld.appRn (Nat.le_of_ble_eq_true rfl) rfl rfl .ownC (by first | (simp; omega) | simp | omega)) (by first | exact .none | exact .nil | exact .tbox rfl | exact .trow rfl | exact .tres rfl | exact .row (by repeat (first | exact .refl | refine .cons ?_)) | exact .box (by repeat (first | exact .refl | refine .cons ?_))) (fun _ => ?_)
  refine JD.each2 (i := 17) (j := 39) (by kernel_rfl) ?_ ?_
  refine JS.loud rfl rfl rfl (Nat.le_of_ble_eq_true rfl) (Ld.callT CM (Nat.le_of_ble_eq_true rfl) rfl (.cons .refl .nil)) (by first | exact .none | exact .nil | exact .tbox rfl | exact .trow rfl | exact .tres rfl | exact .row (by repeat (first | exact .refl | refine .cons ?_)) | exact .box (by repeat (first | exact .refl | refine .cons ?_))) (fun _ => ?_)
  refine JD.each2 (i := 22) (j := 39) (by kernel_rfl) ?_ ?_
  refine JS.loud rfl rfl rfl (Nat.le_of_ble_eq_true rfl) (Ld.callT CF (Nat.le_of_ble_eq_true rfl) rfl (.cons .refl .nil)) (by first | exact .none | exact .nil | exact .tbox rfl | exact .trow rfl | exact .tres rfl | exact .row (by repeat (first | exact .refl | refine .cons ?_)) | exact .box (by repeat (first | exact .refl | refine .cons ?_))) (fun _ => ?_)
  refine JD.each2 (i := 27) (j := 39) (by kernel_rfl) ?_ ?_
  refine JS.loud rfl rfl rfl (Nat.le_of_ble_eq_true rfl) (Ld.appRn (Nat.le_of_ble_eq_true rfl) rfl rfl .read (by first | (simp; omega) | simp | omega)) (by first | exact .none | exact .nil | exact .tbox rfl | exact .trow rfl | exact .tres rfl | exact .row (by repeat (first | exact .refl | refine .cons ?_)) | exact .box (by repeat (first | exact .refl | refine .cons ?_))) (fun _ => ?_)
  refine JD.each2 (i := 32) (j := 39) (by kernel_rfl) ?_ ?_
  refine JS.loud rfl rfl rfl (Nat.le_of_ble_eq_true rfl) (Ld.callT CD (Nat.le_of_ble_eq_true rfl) rfl (.cons .refl .nil)) (by first | exact .none | exact .nil | exact .tbox rfl | exact .trow rfl | exact .tres rfl | exact .row (by repeat (first | exact .refl | refine .cons ?_)) | exact .box (by repeat (first | exact .refl | refine .cons ?_))) (fun _ => ?_)
  refine JD.each2 (i := 37) (j := 39) (by kernel_rfl) ?_ ?_
  refine JS.loud rfl rfl rfl (Nat.le_of_ble_eq_true rfl) (Ld.appRn (Nat.le_of_ble_eq_true rfl) rfl rfl .ownC (by first | (simp; omega) | simp | omega)) (by first | exact .none | exact .nil | exact .tbox rfl | exact .trow rfl | exact .tres rfl | exact .row (by repeat (first | exact .refl | refine .cons ?_)) | exact .box (by repeat (first | exact .refl | refine .cons ?_))) (fun _ => ?_)
  refine JD.rebase ?_
  refine JD.take 38 rfl rfl (by kernel_rfl) rfl (Nat.le_of_ble_eq_true rfl) (Qt.build rfl (by kernel_rfl)) rfl ?_
  refine JD.each1 (i := 39) (by kernel_rfl) ?_
  refine JS.loud rfl rfl rfl (Nat.le_of_ble_eq_true rfl) (Ld.alloc (Nat.le_of_ble_eq_true rfl)) (by first | exact .none | exact .nil | exact .tbox rfl | exact .trow rfl | exact .tres rfl | exact .row (by repeat (first | exact .refl | refine .cons ?_)) | exact .box (by repeat (first | exact .refl | refine .cons ?_))) (fun _ => ?_)
  refine JD.each1 (i := 40) (by kernel_rfl) ?_
  first
    | refine JS.last rfl rfl (Ld.storeW rfl rfl rfl (by exact rfl) (by exact rfl)) (fun _ => ?_)
    | refine JS.last rfl rfl (Ld.store1 rfl rfl (by exact rfl)) (fun _ => ?_)
    | refine JS.last rfl rfl (Ld.storeN rfl rfl rfl (by exact rfl) (by exact rfl)) (fun _ => ?_)
  refine JW.done (by kernel_rfl) ?_
  rotate_left
  refine JS.loud rfl rfl rfl (Nat.le_of_ble_eq_true rfl) (Ld.alloc (Nat.le_of_ble_eq_true rfl)) (by first | exact .none | exact .nil | exact .tbox rfl | exact .trow rfl | exact .tres rfl | exact .row (by repeat (first | exact .refl | refine .cons ?_)) | exact .box (by repeat (first | exact .refl | refine .cons ?_))) (fun _ => ?_)
  refine JD.each1 (i := 37) (by kernel_rfl) ?_
  refine JS.loud rfl rfl rfl (Nat.le_of_ble_eq_true rfl) (Ld.appRn (Nat.le_of_ble_eq_true rfl) rfl rfl .ownC (by first | (simp; omega) | simp | omega)) (by first | exact .none | exact .nil | exact .tbox rfl | exact .trow rfl | exact .tres rfl | exact .row (by repeat (first | exact .refl | refine .cons ?_)) | exact .box (by repeat (first | exact .refl | refine .cons ?_))) (fun _ => ?_)
  refine JD.each1 (i := 38) (by kernel_rfl) ?_
  refine JS.q rfl rfl rfl (Nat.le_of_ble_eq_true rfl) (Qt.build rfl (by kernel_rfl)) ?_
  refine JD.each1 (i := 40) (by kernel_rfl) ?_
  first
    | refine JS.last rfl rfl (Ld.storeW rfl rfl rfl (by exact rfl) (by exact rfl)) (fun _ => ?_)
    | refine JS.last rfl rfl (Ld.store1 rfl rfl (by exact rfl)) (fun _ => ?_)
    | refine JS.last rfl rfl (Ld.storeN rfl rfl rfl (by exact rfl) (by exact rfl)) (fun _ => ?_)
  refine JW.done (by kernel_rfl) ?_
  rotate_left
  refine JS.loud rfl rfl rfl (Nat.le_of_ble_eq_true rfl) (Ld.alloc (Nat.le_of_ble_eq_true rfl)) (by first | exact .none | exact .nil | exact .tbox rfl | exact .trow rfl | exact .tres rfl | exact .row (by repeat (first | exact .refl | refine .cons ?_)) | exact .box (by repeat (first | exact .refl | refine .cons ?_))) (fun _ => ?_)
  refine JD.each1 (i := 32) (by kernel_rfl) ?_
  refine JS.loud rfl rfl rfl (Nat.le_of_ble_eq_true rfl) (Ld.callT CD (Nat.le_of_ble_eq_true rfl) rfl (.cons .refl .nil)) (by first | exact .none | exact .nil | exact .tbox rfl | exact .trow rfl | exact .tres rfl | exact .row (by repeat (first | exact .refl | refine .cons ?_)) | exact .box (by repeat (first | exact .refl | refine .cons ?_))) (fun _ => ?_)
  refine JD.each1 (i := 37) (by kernel_rfl) ?_
  refine JS.loud rfl rfl rfl (Nat.le_of_ble_eq_true rfl) (Ld.appRn (Nat.le_of_ble_eq_true rfl) rfl rfl .ownC (by first | (simp; omega) | simp | omega)) (by first | exact .none | exact .nil | exact .tbox rfl | exact .trow rfl | exact .tres rfl | exact .row (by repeat (first | exact .refl | refine .cons ?_)) | exact .box (by repeat (first | exact .refl | refine .cons ?_))) (fun _ => ?_)
  refine JD.each1 (i := 38) (by kernel_rfl) ?_
  refine JS.q rfl rfl rfl (Nat.le_of_ble_eq_true rfl) (Qt.build rfl (by kernel_rfl)) ?_
  refine JD.each1 (i := 40) (by kernel_rfl) ?_
  first
    | refine JS.last rfl rfl (Ld.storeW rfl rfl rfl (by exact rfl) (by exact rfl)) (fun _ => ?_)
    | refine JS.last rfl rfl (Ld.store1 rfl rfl (by exact rfl)) (fun _ => ?_)
    | refine JS.last rfl rfl (Ld.storeN rfl rfl rfl (by exact rfl) (by exact rfl)) (fun _ => ?_)
  refine JW.done (by kernel_rfl) ?_
  rotate_left
  refine JS.loud rfl rfl rfl (Nat.le_of_ble_eq_true rfl) (Ld.alloc (Nat.le_of_ble_eq_true rfl)) (by first | exact .none | exact .nil | exact .tbox rfl | exact .trow rfl | exact .tres rfl | exact .row (by repeat (first | exact .refl | refine .cons ?_)) | exact .box (by repeat (first | exact .refl | refine .cons ?_))) (fun _ => ?_)
  refine JD.each1 (i := 27) (by kernel_rfl) ?_
  refine JS.loud rfl rfl rfl (Nat.le_of_ble_eq_true rfl) (Ld.appRn (Nat.le_of_ble_eq_true rfl) rfl rfl .read (by first | (simp; omega) | simp | omega)) (by first | exact .none | exact .nil | exact .tbox rfl | exact .trow rfl | exact .tres rfl | exact .row (by repeat (first | exact .refl | refine .cons ?_)) | exact .box (by repeat (first | exact .refl | refine .cons ?_))) (fun _ => ?_)
  refine JD.each1 (i := 32) (by kernel_rfl) ?_
  refine JS.loud rfl rfl rfl (Nat.le_of_ble_eq_true rfl) (Ld.callT CD (Nat.le_of_ble_eq_true rfl) rfl (.cons .refl .nil)) (by first | exact .none | exact .nil | exact .tbox rfl | exact .trow rfl | exact .tres rfl | exact .row (by repeat (first | exact .refl | refine .cons ?_)) | exact .box (by repeat (first | exact .refl | refine .cons ?_))) (fun _ => ?_)
  refine JD.each1 (i := 37) (by kernel_rfl) ?_
  refine JS.loud rfl rfl rfl (Nat.le_of_ble_eq_true rfl) (Ld.appRn (Nat.le_of_ble_eq_true rfl) rfl rfl .ownC (by first | (simp; omega) | simp | omega)) (by first | exact .none | exact .nil | exact .tbox rfl | exact .trow rfl | exact .tres rfl | exact .row (by repeat (first | exact .refl | refine .cons ?_)) | exact .box (by repeat (first | exact .refl | refine .cons ?_))) (fun _ => ?_)
  refine JD.each1 (i := 38) (by kernel_rfl) ?_
  refine JS.q rfl rfl rfl (Nat.le_of_ble_eq_true rfl) (Qt.build rfl (by kernel_rfl)) ?_
  refine JD.each1 (i := 40) (by kernel_rfl) ?_
  first
    | refine JS.last rfl rfl (Ld.storeW rfl rfl rfl (by exact rfl) (by exact rfl)) (fun _ => ?_)
    | refine JS.last rfl rfl (Ld.store1 rfl rfl (by exact rfl)) (fun _ => ?_)
    | refine JS.last rfl rfl (Ld.storeN rfl rfl rfl (by exact rfl) (by exact rfl)) (fun _ => ?_)
  refine JW.done (by kernel_rfl) ?_
  rotate_left
  refine JS.loud rfl rfl rfl (Nat.le_of_ble_eq_true rfl) (Ld.alloc (Nat.le_of_ble_eq_true rfl)) (by first | exact .none | exact .nil | exact .tbox rfl | exact .trow rfl | exact .tres rfl | exact .row (by repeat (first | exact .refl | refine .cons ?_)) | exact .box (by repeat (first | exact .refl | refine .cons ?_))) (fun _ => ?_)
  refine JD.each1 (i := 22) (by kernel_rfl) ?_
  refine JS.loud rfl rfl rfl (Nat.le_of_ble_eq_true rfl) (Ld.callT CF (Nat.le_of_ble_eq_true rfl) rfl (.cons .refl .nil)) (by first | exact .none | exact .nil | exact .tbox rfl | exact .trow rfl | exact .tres rfl | exact .row (by repeat (first | exact .refl | refine .cons ?_)) | exact .box (by repeat (first | exact .refl | refine .cons ?_))) (fun _ => ?_)
  refine JD.each1 (i := 27) (by kernel_rfl) ?_
  refine JS.loud rfl rfl rfl (Nat.le_of_ble_eq_true rfl) (Ld.appRn (Nat.le_of_ble_eq_true rfl) rfl rfl .read (by first | (simp; omega) | simp | omega)) (by first | exact .none | exact .nil | exact .tbox rfl | exact .trow rfl | exact .tres rfl | exact .row (by repeat (first | exact .refl | refine .cons ?_)) | exact .box (by repeat (first | exact .refl | refine .cons ?_))) (fun _ => ?_)
  refine JD.each1 (i := 32) (by kernel_rfl) ?_
  refine JS.loud rfl rfl rfl (Nat.le_of_ble_eq_true rfl) (Ld.callT CD (Nat.le_of_ble_eq_true rfl) rfl (.cons .refl .nil)) (by first | exact .none | exact .nil | exact .tbox rfl | exact .trow rfl | exact .tres rfl | exact .row (by repeat (first | exact .refl | refine .cons ?_)) | exact .box (by repeat (first | exact .refl | refine .cons ?_))) (fun _ => ?_)
  refine JD.each1 (i := 37) (by kernel_rfl) ?_
  refine JS.loud rfl rfl rfl (Nat.le_of_ble_eq_true rfl) (Ld.appRn (Nat.le_of_ble_eq_true rfl) rfl rfl .ownC (by first | (simp; omega) | simp | omega)) (by first | exact .none | exact .nil | exact .tbox rfl | exact .trow rfl | exact .tres rfl | exact .row (by repeat (first | exact .refl | refine .cons ?_)) | exact .box (by repeat (first | exact .refl | refine .cons ?_))) (fun _ => ?_)
  refine JD.each1 (i := 38) (by kernel_rfl) ?_
  refine JS.q rfl rfl rfl (Nat.le_of_ble_eq_true rfl) (Qt.build rfl (by kernel_rfl)) ?_
  refine JD.each1 (i := 40) (by kernel_rfl) ?_
  first
    | refine JS.last rfl rfl (Ld.storeW rfl rfl rfl (by exact rfl) (by exact rfl)) (fun _ => ?_)
    | refine JS.last rfl rfl (Ld.store1 rfl rfl (by exact rfl)) (fun _ => ?_)
    | refine JS.last rfl rfl (Ld.storeN rfl rfl rfl (by exact rfl) (by exact rfl)) (fun _ => ?_)
  refine JW.done (by kernel_rfl) ?_
  rotate_left
  refine JS.loud rfl rfl rfl (Nat.le_of_ble_eq_true rfl) (Ld.alloc (Nat.le_of_ble_eq_true rfl)) (by first | exact .none | exact .nil | exact .tbox rfl | exact .trow rfl | exact .tres rfl | exact .row (by repeat (first | exact .refl | refine .cons ?_)) | exact .box (by repeat (first | exact .refl | refine .cons ?_))) (fun _ => ?_)
  refine JD.each1 (i := 17) (by kernel_rfl) ?_
  refine JS.loud rfl rfl rfl (Nat.le_of_ble_eq_true rfl) (Ld.callT CM (Nat.le_of_ble_eq_true rfl) rfl (.cons .refl .nil)) (by first | exact .none | exact .nil | exact .tbox rfl | exact .trow rfl | exact .tres rfl | exact .row (by repeat (first | exact .refl | refine .cons ?_)) | exact .box (by repeat (first | exact .refl | refine .cons ?_))) (fun _ => ?_)
  refine JD.each1 (i := 22) (by kernel_rfl) ?_
  refine JS.loud rfl rfl rfl (Nat.le_of_ble_eq_true rfl) (Ld.callT CF (Nat.le_of_ble_eq_true rfl) rfl (.cons .refl .nil)) (by first | exact .none | exact .nil | exact .tbox rfl | exact .trow rfl | exact .tres rfl | exact .row (by repeat (first | exact .refl | refine .cons ?_)) | exact .box (by repeat (first | exact .refl | refine .cons ?_))) (fun _ => ?_)
  refine JD.each1 (i := 27) (by kernel_rfl) ?_
  refine JS.loud rfl rfl rfl (Nat.le_of_ble_eq_true rfl) (Ld.appRn (Nat.le_of_ble_eq_true rfl) rfl rfl .read (by first | (simp; omega) | simp | omega)) (by first | exact .none | exact .nil | exact .tbox rfl | exact .trow rfl | exact .tres rfl | exact .row (by repeat (first | exact .refl | refine .cons ?_)) | exact .box (by repeat (first | exact .refl | refine .cons ?_))) (fun _ => ?_)
  refine JD.each1 (i := 32) (by kernel_rfl) ?_
  refine JS.loud rfl rfl rfl (Nat.le_of_ble_eq_true rfl) (Ld.callT CD (Nat.le_of_ble_eq_true rfl) rfl (.cons .refl .nil)) (by first | exact .none | exact .nil | exact .tbox rfl | exact .trow rfl | exact .tres rfl | exact .row (by repeat (first | exact .refl | refine .cons ?_)) | exact .box (by repeat (first | exact .refl | refine .cons ?_))) (fun _ => ?_)
  refine JD.each1 (i := 37) (by kernel_rfl) ?_
  refine JS.loud rfl rfl rfl (Nat.le_of_ble_eq_true rfl) (Ld.appRn (Nat.le_of_ble_eq_true rfl) rfl rfl .ownC (by first | (simp; omega) | simp | omega)) (by first | exact .none | exact .nil | exact .tbox rfl | exact .trow rfl | exact .tres rfl | exact .row (by repeat (first | exact .refl | refine .cons ?_)) | exact .box (by repeat (first | exact .refl | refine .cons ?_))) (fun _ => ?_)
  refine JD.each1 (i := 38) (by kernel_rfl) ?_
  refine JS.q rfl rfl rfl (Nat.le_of_ble_eq_true rfl) (Qt.build rfl (by kernel_rfl)) ?_
  refine JD.each1 (i := 40) (by kernel_rfl) ?_
  first
    | refine JS.last rfl rfl (Ld.storeW rfl rfl rfl (by exact rfl) (by exact rfl)) (fun _ => ?_)
    | refine JS.last rfl rfl (Ld.store1 rfl rfl (by exact rfl)) (fun _ => ?_)
    | refine JS.last rfl rfl (Ld.storeN rfl rfl rfl (by exact rfl) (by exact rfl)) (fun _ => ?_)
  refine JW.done (by kernel_rfl) ?_
  rotate_left
  refine JS.loud rfl rfl rfl (Nat.le_of_ble_eq_true rfl) (Ld.alloc (Nat.le_of_ble_eq_true rfl)) (by first | exact .none | exact .nil | exact .tbox rfl | exact .trow rfl | exact .tres rfl | exact .row (by repeat (first | exact .refl | refine .cons ?_)) | exact .box (by repeat (first | exact .refl | refine .cons ?_))) (fun _ => ?_)
  refine JD.each1 (i := 12) (by kernel_rfl) ?_
  refine JS.loud rfl rfl rfl (Nat.le_of_ble_eq_true rfl) (Ld.appRn (Nat.le_of_ble_eq_true rfl) rfl rfl .ownC (by first | (simp; omega) | simp | omega)) (by first | exact .none | exact .nil | exact .tbox rfl | exact .trow rfl | exact .tres rfl | exact .row (by repeat (first | exact .refl | refine .cons ?_)) | exact .box (by repeat (first | exact .refl | refine .cons ?_))) (fun _ => ?_)
  refine JD.each1 (i := 17) (by kernel_rfl) ?_
  refine JS.loud rfl rfl rfl (Nat.le_of_ble_eq_true rfl) (Ld.callT CM (Nat.le_of_ble_eq_true rfl) rfl (.cons .refl .nil)) (by first | exact .none | exact .nil | exact .tbox rfl | exact .trow rfl | exact .tres rfl | exact .row (by repeat (first | exact .refl | refine .cons ?_)) | exact .box (by repeat (first | exact .refl | refine .cons ?_))) (fun _ => ?_)
  refine JD.each1 (i := 22) (by kernel_rfl) ?_
  refine JS.loud rfl rfl rfl (Nat.le_of_ble_eq_true rfl) (Ld.callT CF (Nat.le_of_ble_eq_true rfl) rfl (.cons .refl .nil)) (by first | exact .none | exact .nil | exact .tbox rfl | exact .trow rfl | exact .tres rfl | exact .row (by repeat (first | exact .refl | refine .cons ?_)) | exact .box (by repeat (first | exact .refl | refine .cons ?_))) (fun _ => ?_)
  refine JD.each1 (i := 27) (by kernel_rfl) ?_
  refine JS.loud rfl rfl rfl (Nat.le_of_ble_eq_true rfl) (Ld.appRn (Nat.le_of_ble_eq_true rfl) rfl rfl .read (by first | (simp; omega) | simp | omega)) (by first | exact .none | exact .nil | exact .tbox rfl | exact .trow rfl | exact .tres rfl | exact .row (by repeat (first | exact .refl | refine .cons ?_)) | exact .box (by repeat (first | exact .refl | refine .cons ?_))) (fun _ => ?_)
  refine JD.each1 (i := 32) (by kernel_rfl) ?_
  refine JS.loud rfl rfl rfl (Nat.le_of_ble_eq_true rfl) (Ld.callT CD (Nat.le_of_ble_eq_true rfl) rfl (.cons .refl .nil)) (by first | exact .none | exact .nil | exact .tbox rfl | exact .trow rfl | exact .tres rfl | exact .row (by repeat (first | exact .refl | refine .cons ?_)) | exact .box (by repeat (first | exact .refl | refine .cons ?_))) (fun _ => ?_)
  refine JD.each1 (i := 37) (by kernel_rfl) ?_
  refine JS.loud rfl rfl rfl (Nat.le_of_ble_eq_true rfl) (Ld.appRn (Nat.le_of_ble_eq_true rfl) rfl rfl .ownC (by first | (simp; omega) | simp | omega)) (by first | exact .none | exact .nil | exact .tbox rfl | exact .trow rfl | exact .tres rfl | exact .row (by repeat (first | exact .refl | refine .cons ?_)) | exact .box (by repeat (first | exact .refl | refine .cons ?_))) (fun _ => ?_)
  refine JD.each1 (i := 38) (by kernel_rfl) ?_
  refine JS.q rfl rfl rfl (Nat.le_of_ble_eq_true rfl) (Qt.build rfl (by kernel_rfl)) ?_
  refine JD.each1 (i := 40) (by kernel_rfl) ?_
  first
    | refine JS.last rfl rfl (Ld.storeW rfl rfl rfl (by exact rfl) (by exact rfl)) (fun _ => ?_)
    | refine JS.last rfl rfl (Ld.store1 rfl rfl (by exact rfl)) (fun _ => ?_)
    | refine JS.last rfl rfl (Ld.storeN rfl rfl rfl (by exact rfl) (by exact rfl)) (fun _ => ?_)
  refine JW.done (by kernel_rfl) ?_
  rotate_left
  all_goals
    exact (rest _).weak ⟨rfl, rfl, rfl, trivial⟩
end Fl
end Go.Proofs.Ytofnbflkhgammaa
