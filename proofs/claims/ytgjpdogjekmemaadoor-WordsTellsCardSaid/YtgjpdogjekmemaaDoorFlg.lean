/-
  Contracts told by plain data: what a function is handed, what it owns meanwhile, what it answers.
  Conditions: none; nothing of the program stands here.
-/
import Derived.Test.YtgjpdogjekmemaaDoorFlf
namespace Go.Proofs.YtgjpdogjekmemaaDoor
open Go.RowKit
set_option linter.unusedVariables false
set_option linter.unusedSimpArgs false
set_option linter.unnecessarySimpa false

namespace Fl
/-- a nil slice reads as a slice of none -/
inductive LeA : A → A → Prop
  | refl {a} : LeA a a
  | nil {sz} : LeA (.v (.slice none 0 0)) (.r sz [])
inductive LeC : List A → List A → Prop
  | nil : LeC [] []
  | cons {a b xs ys} : LeA a b → LeC xs ys → LeC (a :: xs) (b :: ys)
  | refl {xs} : LeC xs xs
mutual
inductive LeD : D → D → Prop
  | refl {d} : LeD d d
  | c {a b} : LeA a b → LeD (.c a) (.c b)
  | agg {a b} : LeC a b → LeD (.agg a) (.agg b)
  | any {d} : LeD d .any
  | tup {a b} : LeDs a b → LeD (.tup a) (.tup b)
inductive LeDs : List D → List D → Prop
  | nil : LeDs [] []
  | cons {a b xs ys} : LeD a b → LeDs xs ys → LeDs (a :: xs) (b :: ys)
end
theorem LeD.of_eq {a b : D} (h : a = b) : LeD a b := h ▸ .refl
section
variable {ok : Nat → Prop} {w : World}
theorem LeA.rep {a b : A} (h : LeA a b) {x : Value} (r : RA ok w a x) : RA ok w b x := by
  cases h with
  | refl => exact r
  | nil => unfold RA at r ⊢; exact ⟨none, 0, r.1, by simp, by simp [maxLen], .inl rfl⟩
theorem LeC.rep {a b : List A} (h : LeC a b) : ∀ {x : List Value}, RC ok w a x → RC ok w b x := by
  induction h with
  | nil => exact id
  | refl => exact id
  | cons h1 h2 ih => intro x r; unfold RC at r; obtain ⟨y, ys, rfl, r1, r2⟩ := r; exact RC.cons (h1.rep r1) (ih r2)
mutual
theorem LeD.rep {a b : D} : LeD a b → ∀ {x : Value}, RD ok w a x → RD ok w b x
  | .refl, x, r => r
  | .c h, x, r => by unfold RD at r ⊢; exact h.rep r
  | .agg h, x, r => by unfold RD at r ⊢; obtain ⟨vs, h1, h2⟩ := r; exact ⟨vs, h1, h.rep h2⟩
  | .any, x, r => by unfold RD; trivial
  | .tup h, x, r => by unfold RD at r ⊢; obtain ⟨vs, h1, h2⟩ := r; exact ⟨vs, h1, LeDs.rep h h2⟩
theorem LeDs.rep {a b : List D} : LeDs a b → ∀ {x : List Value}, RDs ok w a x → RDs ok w b x
  | .nil, x, r => r
  | .cons h1 h2, x, r => by unfold RDs at r; obtain ⟨y, ys, rfl, r1, r2⟩ := r; exact RDs.cons (LeD.rep h1 r1) (LeDs.rep h2 r2)
end
end

def okr (ok : Nat → Prop) (e : World) (L pL : List Res) (g : Nat) : Prop := (ok g ∨ g ∈ foots L ∨ e.heap.size ≤ g) ∧ g ∉ foots pL
def PostR (ok : Nat → Prop) (e : World) (L : List Res) (pd : D) (pL : List Res) (en : Ending) (w' : World) : Prop :=
  ∃ x, en = .returned x ∧ Keeps (foots L) e w' ∧ (∀ y ∈ foots pL, y ∈ foots L ∨ e.heap.size ≤ y) ∧ Apart pL ∧ (∀ r ∈ pL, r.holds (okr ok e L pL) w') ∧ RD (okr ok e L pL) w' pd x
def SomeR {ι : Type} (ok : Nat → Prop) (e : World) (L : List Res) (post : ι → D × List Res) (en : Ending) (w' : World) : Prop := ∃ i, PostR ok e L (post i).1 (post i).2 en w'
/-- what a function is handed (ds), what it owns meanwhile (L), what it answers and leaves -/
structure Con (P : Program) (F : FuncId) (ds : List D) (L : List Res) {ι : Type} (post : ι → D × List Res) : Prop where
  go : ∀ (ok : Nat → Prop) (e : World) (xs : List Value), RDs ok e ds xs → (∀ r ∈ L, r.holds ok e) → Apart L → (∀ x ∈ foots L, ¬ ok x) → Calls P F xs.toArray e (SomeR ok e L post)
/-- a function that only reckons -/
abbrev Pure (P : Program) (F : FuncId) (ds : List D) (d : D) : Prop := Con P F ds [] (fun _ : Unit => (d, []))
def cx (F : FuncId) {ι : Type} (ok : Nat → Prop) (e : World) (L : List Res) (post : ι → D × List Res) (N : Nat) : Cx := ⟨F, SomeR ok e L post, foots L, ok, e, N⟩
def frm0 : Nat → List D → Fm
  | _, [] => []
  | k, d :: ds => (k, d) :: frm0 (k + 1) ds
theorem look_frm0 : ∀ (ds : List D) (k t : Nat) (d : D), look (frm0 k ds) t = some d → k ≤ t ∧ ds[t - k]? = some d
  | [], k, t, d, h => by simp [frm0, look] at h
  | x :: ds, k, t, d, h => by
    simp only [frm0, look] at h
    cases hb : Nat.beq k t with
    | true =>
      rw [hb] at h
      have := Nat.eq_of_beq_eq_true hb
      subst this
      simp at h; subst h; simp
    | false =>
      rw [hb] at h
      obtain ⟨h1, h2⟩ := look_frm0 ds (k + 1) t d h
      exact ⟨by omega, by rw [show t - k = t - (k + 1) + 1 by omega]; simpa using h2⟩
section
variable {P : Program} {F : FuncId} {ds : List D} {L : List Res} {ι : Type} {post : ι → D × List Res} {fn : Func} {body : Code} {N : Nat}
theorem Con.intro (hf : P.funcs[F]? = some fn) (hb : fn.body = some body) (hN : fn.ntmps = N) (hn : Nat.ble ds.length N = true)
    (h : ∀ ok e, J P (cx F ok e L post N) [.code body] (frm0 0 ds) L) : Con P F ds L post := ⟨fun ok e xs hd hr ha ho cs => by
  have hlen := hd.len
  have hn' : ds.length ≤ N := Nat.le_of_ble_eq_true hn
  let b : Frame := { (default : Frame) with fn := F, kind := .normal }
  have henter : Frame.enter P F xs.toArray .normal = b.at { tmps := xs.toArray ++ Array.replicate (fn.ntmps - xs.toArray.size) undef, defers := [] } [.code body] := by
    simp [Frame.enter, Frame.at, hf, hb, b]
  have m : Mon ok (okk (cx F ok e L post N) L) e e := ⟨Nat.le_refl _, fun g _ hg => ⟨⟨.inl hg, fun hx => ho g hx hg⟩, rfl⟩⟩
  have hst : St (cx F ok e L post N) (frm0 0 ds) L { tmps := xs.toArray ++ Array.replicate (fn.ntmps - xs.toArray.size) undef, defers := [] } e := by
    refine ⟨Keeps.refl _ _, by simp [cx]; omega, rfl, fun r hr' => (hr r hr').mon (Keeps.refl [] e) m (by simp), fun x hx => .inl hx, ha, fun t d ht => ?_⟩
    obtain ⟨_, h2⟩ := look_frm0 ds 0 t d ht
    rw [Nat.sub_zero] at h2
    obtain ⟨x, hx, hx2⟩ := hd.get t h2
    have hlt := (List.getElem?_eq_some_iff.1 hx).1
    have : (xs.toArray ++ Array.replicate (fn.ntmps - xs.toArray.size) undef).getD t undef = x := by
      rw [Array.getD_eq_getD_getElem?, Array.getElem?_append_left (by simpa using hlt)]
      simp [hx]
    rw [this]
    exact RD.mon m d _ hx2
  obtain ⟨en, w', fr, h1, h2, h3, h4⟩ := (h ok e).go _ e hst b cs rfl rfl
  exact ⟨en, w', fr, h1, by rw [henter]; exact h2, h3, h4⟩⟩
end
/-- what stands in a result's variable -/
inductive ResD (P : Program) (f : Fm) (L : List Res) : ResultVar → D → Prop
  | tmp {t d} : look f t = some d → ResD P f L (.tmp t) d
  | cell (i : Nat) {t b T B n cs} [TyA P T n] : look f t = some (.c (.v (.pointer (some ⟨b, 0, none⟩)))) → L[i]? = some (.box b B cs) → cs.length = n → ResD P f L (.cell t T) (.agg cs)
  | cell1 (i : Nat) {t b T B a} [TyV P T] : look f t = some (.c (.v (.pointer (some ⟨b, 0, none⟩)))) → L[i]? = some (.box b B [a]) → ResD P f L (.cell t T) (.c a)
inductive ResDs (P : Program) (f : Fm) (L : List Res) : List ResultVar → List D → Prop
  | nil : ResDs P f L [] []
  | cons {r d rs ds} : ResD P f L r d → ResDs P f L rs ds → ResDs P f L (r :: rs) (d :: ds)
def oneD : List D → D
  | [d] => d
  | ds => .tup ds
def resV (tmps : Array Value) : ResultVar → Sem Value
  | .tmp t => pure (tmps.getD t undef)
  | .cell a t => do loadVar t (← asAddr (tmps.getD a undef))
theorem results_eq (fn : Func) (tmps : Array Value) : results fn tmps = (do let vs ← fn.results.mapM (resV tmps); pure (if h : vs.size = 1 then vs[0] else .tuple vs)) := rfl
section
variable {P : Program} {c : Cx} {f : Fm} {L : List Res}
theorem ResD.run {r : ResultVar} {d : D} (h : ResD P f L r d) {a : Act} {w : World} (s : St c f L a w) : ∃ x, RD (okk c L) w d x ∧ (resV a.tmps r).run P w = .ok x w := by
  cases h with
  | tmp h1 => exact ⟨_, s.fr _ _ h1, rfl⟩
  | @cell i t b T B n cs it h1 h2 h3 =>
    have hv := s.fr _ _ h1
    unfold RD RA at hv
    obtain ⟨vs, g1, g2⟩ := s.res _ (List.mem_of_getElem? h2)
    refine ⟨.agg vs.toArray, by unfold RD; exact ⟨vs, rfl, g2⟩, ?_⟩
    have hlen := g2.len
    have hlc : (loadCells ⟨b, 0, none⟩ vs.length).run P w = .ok vs.toArray w := run_loadCells_list (P := P) w ⟨b, 0, none⟩ _ (fun j v hv => by rw [Addr.add_mid]; exact g1.range j v hv)
    rw [hlen, h3] at hlc
    simp only [resV, hv.1, asAddr, Sem.run_bind, Sem.run_pure, Result.andThen_ok, loadVar, tyAgg.runT it.h, ↓reduceIte, tySize.run it.s, hlc]
  | @cell1 i t b T B e it h1 h2 =>
    have hv := s.fr _ _ h1
    unfold RD RA at hv
    obtain ⟨vs, g1, g2⟩ := s.res _ (List.mem_of_getElem? h2)
    obtain ⟨x, hx, hr⟩ := g2.get 0 rfl
    refine ⟨x, by unfold RD; exact hr, ?_⟩
    have hcell : w.cell? ⟨b, 0, none⟩ = some x := by rw [g1.cell]; exact hx
    have hl : (load ⟨b, 0, none⟩).run P w = .ok x w := by simp [load, Sem.run, hcell]
    simp only [resV, hv.1, asAddr, Sem.run_bind, Sem.run_pure, Result.andThen_ok, loadVar, tyAgg.runF it.h, Bool.false_eq_true, ↓reduceIte, hl]
theorem ResDs.run {rs : List ResultVar} {ds : List D} (h : ResDs P f L rs ds) {a : Act} {w : World} (s : St c f L a w) : ∃ xs, RDs (okk c L) w ds xs ∧ (rs.mapM (resV a.tmps)).run P w = .ok xs w := by
  induction h with
  | nil => exact ⟨[], RDs.nil, rfl⟩
  | cons h1 h2 ih =>
    obtain ⟨x, a1, a2⟩ := h1.run s
    obtain ⟨xs, b1, b2⟩ := ih
    refine ⟨x :: xs, RDs.cons a1 b1, ?_⟩
    rw [List.mapM_cons, Sem.run_bind, a2]
    simp [Sem.run_bind, b2]
end
section
variable {P : Program} {F : FuncId} {ok : Nat → Prop} {e : World} {L0 L L' : List Res} {ι : Type} {post : ι → D × List Res} {fn : Func} {N : Nat} {f : Fm} {k : List Item}
theorem mapM_some {α : Type} {L L' : List α} : ∀ {idx : List Nat}, idx.map (fun i => L[i]?) = L'.map some → ∀ q ∈ L', q ∈ L
  | [], h => by cases L' with | nil => simp | cons x l => simp at h
  | i :: idx, h => by
    cases L' with
    | nil => simp
    | cons x l =>
      simp only [List.map_cons, List.cons.injEq] at h
      intro q hq
      rcases List.mem_cons.1 hq with rfl | hq
      · exact List.mem_of_getElem? h.1
      · exact mapM_some h.2 q hq
theorem apart_idx {L : List Res} (ha : Apart L) : ∀ {idx : List Nat} {L' : List Res}, idx.Nodup → idx.map (fun i => L[i]?) = L'.map some → Apart L'
  | [], L', hn, h => by cases L' with | nil => exact List.Pairwise.nil | cons x l => simp at h
  | i :: idx, L', hn, h => by
    cases L' with
    | nil => simp at h
    | cons x l =>
      simp only [List.map_cons, List.cons.injEq] at h
      have hn2 := List.nodup_cons.1 hn
      refine List.pairwise_cons.2 ⟨fun q hq => ?_, apart_idx ha hn2.2 h.2⟩
      have : ∃ j ∈ idx, L[j]? = some q := by
        have hm : some q ∈ l.map some := List.mem_map.2 ⟨q, hq, rfl⟩
        rw [← h.2] at hm
        exact List.mem_map.1 hm
      obtain ⟨j, hj, hj2⟩ := this
      exact Apart.ne ha h.1 hj2 (fun e => hn2.1 (e ▸ hj))
theorem ret_run (hf : P.funcs[F]? = some fn) {rs : List ResultVar} {ds : List D} (hres : fn.results = rs.toArray) (h : ResDs P f L rs ds) {d : D} {i : ι} (hle : LeD (oneD ds) d) (idx : List Nat) (hnd : idx.Nodup) (hL : idx.map (fun i => L[i]?) = L'.map some) (hp : post i = (d, L')) {a : Act} {w : World} (s : St (cx F ok e L0 post N) f L a w) :
    ∃ x, (results fn a.tmps).run P w = .ok x w ∧ SomeR ok e L0 post (.returned x) w := by
  obtain ⟨xs, h1, h2⟩ := h.run s
  have hr : (results fn a.tmps).run P w = .ok (if h : xs.toArray.size = 1 then xs.toArray[0] else .tuple xs.toArray) w := by
    rw [results_eq, hres, List.mapM_toArray, Sem.run_bind, map_eq_pure_bind, Sem.run_bind, h2]
    rfl
  refine ⟨_, hr, i, ?_⟩
  rw [hp]
  have hsub := mapM_some hL
  have hfo : ∀ x, x ∈ foots L' → x ∈ foots L := fun x hx => by
    obtain ⟨q, hq, hx⟩ := mem_foots.1 hx
    exact mem_foots.2 ⟨q, hsub q hq, hx⟩
  have m : Mon (okk (cx F ok e L0 post N) L) (okr ok e L0 L') w w := ⟨Nat.le_refl _, fun g _ hg => ⟨⟨hg.1, fun hx => hg.2 (hfo g hx)⟩, rfl⟩⟩
  refine ⟨_, rfl, s.kp, fun y hy => s.frm y (hfo y hy), apart_idx s.ap hnd hL, fun r hr => (s.res r (hsub r hr)).mon (Keeps.refl [] w) m (by simp), RD.mon m _ _ (hle.rep ?_)⟩
  cases ds with
  | nil => unfold RDs at h1; subst h1; unfold oneD RD; exact ⟨[], rfl, RDs.nil⟩
  | cons d1 ds =>
    unfold RDs at h1
    obtain ⟨x, ys, rfl, h3, h4⟩ := h1
    cases ds with
    | nil => unfold RDs at h4; subst h4; exact h3
    | cons d2 ds =>
      unfold RDs at h4
      obtain ⟨y, zs, rfl, h5, h6⟩ := h4
      unfold oneD RD
      exact ⟨x :: y :: zs, rfl, RDs.cons h3 (RDs.cons h5 h6)⟩
theorem J.ret (hf : P.funcs[F]? = some fn) {rs : List ResultVar} {ds : List D} (hres : fn.results = rs.toArray) (h : ResDs P f L rs ds) {d : D} (i : ι) (hle : LeD (oneD ds) d) (idx : List Nat) (hnd : idx.Nodup) (hL : idx.map (fun i => L[i]?) = L'.map some) (hp : post i = (d, L')) : J P (cx F ok e L0 post N) (.code .ret :: k) f L := ⟨fun a w s => by
  obtain ⟨x, h1, h2⟩ := ret_run hf hres h hle idx hnd hL hp s
  exact fun b cs hb hk => ⟨.returned x, w, _, h2, Steps.one step_ret, hb, rfl, s.dfr, hk, fn, by simpa [Frame.at, hb, cx] using hf, h1⟩⟩
/-- the body's end -/
theorem J.fin (hf : P.funcs[F]? = some fn) {rs : List ResultVar} {ds : List D} (hres : fn.results = rs.toArray) (h : ResDs P f L rs ds) {d : D} (i : ι) (hle : LeD (oneD ds) d) (idx : List Nat) (hnd : idx.Nodup) (hL : idx.map (fun i => L[i]?) = L'.map some) (hp : post i = (d, L')) : J P (cx F ok e L0 post N) [] f L := ⟨fun a w s => by
  obtain ⟨x, h1, h2⟩ := ret_run hf hres h hle idx hnd hL hp s
  exact fun b cs hb hk => ⟨.returned x, w, _, h2, Steps.one step_end, hb, rfl, s.dfr, hk, fn, by simpa [Frame.at, hb, cx] using hf, h1⟩⟩
end
end Fl
end Go.Proofs.YtgjpdogjekmemaaDoor
