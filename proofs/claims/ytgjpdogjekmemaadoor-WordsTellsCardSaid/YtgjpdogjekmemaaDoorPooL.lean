/-
  The pool, plain: what its functions do, and what holds of every pool.
  Conditions: none; no program stands here.
-/
import Derived.Test.YtgjpdogjekmemaaDoorCan
namespace Go.Proofs.YtgjpdogjekmemaaDoor
set_option linter.unusedVariables false
set_option linter.unusedSimpArgs false
set_option linter.unnecessarySimpa false
namespace Po
def taker (C : List (List Int)) (g : Int) : Bool := decide (0 ≤ g) && decide (g < C.length)
def live (f : Int) (H : List Bool) (x : Int) : Bool := decide (0 ≤ x) && decide (x < f) && !(H.getD x.toNat false)
def cache (C : List (List Int)) (g : Int) : List Int := if taker C g then C.getD g.toNat [] else []
def outs (H : List Bool) (k : Nat) : Nat := ((H.take k).filter (fun t => !t)).length
theorem outs_le (H : List Bool) (k : Nat) : outs H k ≤ k := by
  unfold outs; exact Nat.le_trans (List.length_filter_le _ _) (List.length_take_le _ _)
theorem outs_succ (H : List Bool) (k : Nat) (t : Bool) (h : H[k]? = some t) : outs H (k + 1) = outs H k + (if t then 0 else 1) := by
  obtain ⟨hk, rfl⟩ := List.getElem?_eq_some_iff.1 h
  unfold outs
  rw [List.take_succ_eq_append_getElem hk, List.filter_append, List.length_append]
  cases H[k] <;> simp
structure St where
  C : List (List Int)
  M : List Int
  f : Nat
  H : List Bool
def room (most : Nat) : Nat := max 1 (most / 2)
def pulls (most : Nat) (c M : List Int) : Nat := if c = [] then min (room most) M.length else 0
def own (most : Nat) (c M : List Int) : List Int := c ++ M.reverse.take (pulls most c M)
def mid (most : Nat) (c M : List Int) : List Int := M.take (M.length - pulls most c M)
def took (s : St) (g : Nat) (o m : List Int) : St := ⟨s.C.set g o.dropLast, m, s.f, s.H.set (o.getLastD 0).toNat false⟩
def take (size most : Nat) (s : St) (g : Int) : St × Int × Bool :=
  if taker s.C g then
    if own most (s.C.getD g.toNat []) s.M = [] then (if s.f < size then (⟨s.C, s.M, s.f + 1, s.H⟩, (s.f : Int), true) else (s, 0, false))
    else (took s g.toNat (own most (s.C.getD g.toNat []) s.M) (mid most (s.C.getD g.toNat []) s.M), (own most (s.C.getD g.toNat []) s.M).getLastD 0, true)
  else (s, 0, false)
def puts (most : Nat) (c : List Int) : Nat := if c.length = most then c.length - most / 2 else 0
def gave (most : Nat) (s : St) (g : Nat) (c : List Int) (x : Int) : St := ⟨s.C.set g (c.take (c.length - puts most c) ++ [x]), s.M ++ c.reverse.take (puts most c), s.f, s.H.set x.toNat true⟩
def give (most : Nat) (s : St) (g x : Int) : St × Bool :=
  if taker s.C g && live s.f s.H x then (gave most s g.toNat (s.C.getD g.toNat []) x, true) else (s, false)

/-- how often a thing is kept -/
def cnt (s : St) (a : Int) : Nat := s.M.count a + s.C.flatten.count a
structure Inv (size most : Nat) (s : St) : Prop where
  m1 : 1 ≤ most
  m2 : most ≤ 16
  s1 : size ≤ 64
  hl : s.H.length = size
  fl : s.f ≤ size
  one : ∀ a, cnt s a ≤ 1
  bound : ∀ a, 1 ≤ cnt s a → 0 ≤ a ∧ a < s.f
  home : ∀ x : Nat, x < size → s.H.getD x false = decide (1 ≤ cnt s (x : Int))
  caches : ∀ c ∈ s.C, c.length ≤ most

theorem count_set {α : Type} [BEq α] [LawfulBEq α] (a : α) : ∀ (C : List (List α)) (g : Nat) (c c' : List α), C[g]? = some c → (C.set g c').flatten.count a + c.count a = C.flatten.count a + c'.count a
  | [], g, c, c', h => by simp at h
  | y :: r, 0, c, c', h => by
    simp at h; subst h
    simp [List.count_append]; omega
  | y :: r, g + 1, c, c', h => by
    have := count_set a r g c c' (by simpa using h)
    simp [List.count_append]; omega
theorem count_take_drop {α : Type} [BEq α] [LawfulBEq α] (a : α) (l : List α) (k : Nat) : (l.take k).count a + (l.drop k).count a = l.count a := by
  rw [← List.count_append, List.take_append_drop]
theorem rev_take (M : List Int) (n : Nat) : M.reverse.take n = (M.drop (M.length - n)).reverse := by
  rw [List.take_reverse]
theorem count_own (most : Nat) (c M : List Int) (a : Int) : (own most c M).count a + (mid most c M).count a = c.count a + M.count a := by
  unfold own mid
  rw [rev_take, List.count_append, List.count_reverse]
  have := count_take_drop a M (M.length - pulls most c M)
  omega
theorem own_nil {most : Nat} (h1 : 1 ≤ most) {c M : List Int} (h : own most c M = []) : c = [] ∧ M = [] := by
  unfold own pulls room at h
  simp only [List.append_eq_nil_iff] at h
  obtain ⟨rfl, h⟩ := h
  refine ⟨rfl, ?_⟩
  rw [if_pos rfl] at h
  cases M with
  | nil => rfl
  | cons x r =>
    have := congrArg List.length h
    simp at this
theorem mem_cnt {s : St} {a : Int} : 1 ≤ cnt s a ↔ a ∈ s.M ∨ ∃ c ∈ s.C, a ∈ c := by
  unfold cnt
  constructor
  · intro h
    have h2 : 0 < s.M.count a ∨ 0 < s.C.flatten.count a := by omega
    rcases h2 with h2 | h2
    · exact .inl (List.count_pos_iff.1 h2)
    · right
      have := List.count_pos_iff.1 h2
      simpa using this
  · rintro (h | ⟨c, hc, h⟩)
    · have := List.count_pos_iff.2 h; omega
    · have : 0 < s.C.flatten.count a := List.count_pos_iff.2 (List.mem_flatten.2 ⟨c, hc, h⟩)
      omega
theorem last_mem {o : List Int} (h : o ≠ []) : o = o.dropLast ++ [o.getLastD 0] := by
  have := List.dropLast_concat_getLast h
  rw [List.getLastD_eq_getLast?, List.getLast?_eq_some_getLast h]
  exact this.symm
theorem getD_set {α : Type} (l : List α) (i j : Nat) (t d : α) (h : i < l.length) : (l.set i t).getD j d = if i = j then t else l.getD j d := by
  by_cases e : i = j
  · subst e; simp [h]
  · simp [List.getD, e]
theorem Inv.last {size most : Nat} {s : St} (v : Inv size most s) {g : Nat} {c : List Int} (hg : s.C[g]? = some c) {o : List Int} (ho : o = own most c s.M) (h0 : o ≠ []) :
    0 ≤ o.getLastD 0 ∧ o.getLastD 0 < s.f := by
  have hm : o.getLastD 0 ∈ o := by
    have := last_mem h0
    generalize o.getLastD 0 = x at *
    rw [this]; simp
  apply v.bound
  apply mem_cnt.2
  generalize o.getLastD 0 = x at *
  rw [ho] at hm
  unfold own at hm
  rcases List.mem_append.1 hm with h | h
  · exact .inr ⟨c, List.mem_of_getElem? hg, h⟩
  · left
    have := List.mem_of_mem_take h
    simpa using this
theorem Inv.len {size most : Nat} {s : St} (v : Inv size most s) {c : List Int} (hc : c ∈ s.C) : c.length ≤ most := v.caches c hc
theorem own_len {most : Nat} (h1 : 1 ≤ most) {c M : List Int} (hc : c.length ≤ most) : (own most c M).length ≤ most := by
  unfold own pulls room
  by_cases h : c = []
  · subst h; simp; omega
  · simp [h]; exact hc
def ind (x a : Int) : Nat := if x = a then 1 else 0
theorem count_last {o : List Int} (h : o ≠ []) (a : Int) : o.count a = o.dropLast.count a + ind (o.getLastD 0) a := by
  conv => lhs; rw [last_mem h]
  rw [List.count_append, List.count_singleton]
  unfold ind
  by_cases e : o.getLastD 0 = a <;> simp [e]
theorem cnt_took {size most : Nat} {s : St} {g : Nat} {c : List Int} (hg : s.C[g]? = some c) (h0 : own most c s.M ≠ []) (a : Int) :
    cnt (took s g (own most c s.M) (mid most c s.M)) a + ind ((own most c s.M).getLastD 0) a = cnt s a := by
  have e1 := count_set a s.C g c (own most c s.M).dropLast hg
  have e2 := count_own most c s.M a
  have e3 := count_last h0 a
  show (mid most c s.M).count a + (s.C.set g (own most c s.M).dropLast).flatten.count a + _ = s.M.count a + s.C.flatten.count a
  omega
theorem mem_set {α : Type} {l : List α} {g : Nat} {c x : α} (h : x ∈ l.set g c) : x ∈ l ∨ x = c := List.mem_or_eq_of_mem_set h
theorem Inv.took {size most : Nat} {s : St} (v : Inv size most s) {g : Nat} {c : List Int} (hg : s.C[g]? = some c) (h0 : own most c s.M ≠ []) :
    Inv size most (took s g (own most c s.M) (mid most c s.M)) := by
  have hb := v.last hg rfl h0
  have hcn := cnt_took (size := size) hg h0
  have hcc := own_len v.m1 (M := s.M) (v.caches c (List.mem_of_getElem? hg))
  have hin : cnt s ((own most c s.M).getLastD 0) ≤ 1 := v.one _
  refine ⟨v.m1, v.m2, v.s1, by simpa [Po.took] using v.hl, v.fl, fun a => by have := hcn a; have := v.one a; omega, fun a ha => v.bound a (by have := hcn a; omega), ?_, ?_⟩
  · intro x hx
    have hx1 := hcn (x : Int)
    have hx2 := v.one (x : Int)
    have hx3 := v.home x hx
    have hfl := v.fl
    have hxl := hcn ((own most c s.M).getLastD 0)
    show (s.H.set ((own most c s.M).getLastD 0).toNat false).getD x false = _
    rw [getD_set _ _ _ _ _ (by rw [v.hl]; omega)]
    unfold ind at hx1 hxl
    rw [if_pos rfl] at hxl
    by_cases e : ((own most c s.M).getLastD 0).toNat = x
    · rw [if_pos e]
      have e2 : (own most c s.M).getLastD 0 = (x : Int) := by omega
      rw [if_pos e2] at hx1
      simp; omega
    · rw [if_neg e]
      have e2 : (own most c s.M).getLastD 0 ≠ (x : Int) := by omega
      rw [if_neg e2] at hx1
      rw [hx3]
      simp only [decide_eq_decide]; omega
  · intro d hd
    rcases mem_set hd with h | rfl
    · exact v.caches d h
    · simp; omega
theorem Inv.fresh {size most : Nat} {s : St} (v : Inv size most s) (h : s.f < size) : Inv size most ⟨s.C, s.M, s.f + 1, s.H⟩ :=
  ⟨v.m1, v.m2, v.s1, v.hl, h, v.one, fun a ha => by have := v.bound a ha; exact ⟨this.1, by simp; omega⟩, v.home, v.caches⟩
theorem cnt_gave {most : Nat} {s : St} {g : Nat} {c : List Int} (hg : s.C[g]? = some c) (x a : Int) : cnt (gave most s g c x) a = cnt s a + ind x a := by
  have e1 := count_set a s.C g c (c.take (c.length - puts most c) ++ [x]) hg
  have e2 := count_take_drop a c (c.length - puts most c)
  have e3 : [x].count a = ind x a := by unfold ind; rw [List.count_singleton]; by_cases e : x = a <;> simp [e]
  show (s.M ++ c.reverse.take (puts most c)).count a + (s.C.set g (c.take (c.length - puts most c) ++ [x])).flatten.count a = s.M.count a + s.C.flatten.count a + _
  rw [List.count_append, rev_take, List.count_reverse]
  rw [List.count_append, e3] at e1
  omega
theorem Inv.live {size most : Nat} {s : St} (v : Inv size most s) (x : Int) : live s.f s.H x = (decide (0 ≤ x) && decide (x < s.f) && decide (cnt s x = 0)) := by
  unfold Po.live
  by_cases h1 : 0 ≤ x
  · by_cases h2 : x < s.f
    · have := v.home x.toNat (by have := v.fl; omega)
      rw [this, Int.toNat_of_nonneg h1]
      simp only [h1, h2, decide_true, Bool.true_and]
      rw [Bool.eq_iff_iff]
      simp
    · simp [h2]
  · simp [h1]
theorem Inv.gave {size most : Nat} {s : St} (v : Inv size most s) {g : Nat} {c : List Int} (hg : s.C[g]? = some c) {x : Int} (hx : Po.live s.f s.H x = true) :
    Inv size most (gave most s g c x) := by
  rw [v.live] at hx
  simp only [Bool.and_eq_true, decide_eq_true_eq] at hx
  obtain ⟨⟨hx0, hx1⟩, hx2⟩ := hx
  have hcn := cnt_gave (most := most) hg x
  have hcl := v.caches c (List.mem_of_getElem? hg)
  refine ⟨v.m1, v.m2, v.s1, by simpa [Po.gave] using v.hl, v.fl, ?_, ?_, ?_, ?_⟩
  · intro a
    rw [hcn]
    have := v.one a
    unfold ind
    split
    · rename_i e; subst e; omega
    · omega
  · intro a ha
    rw [hcn] at ha
    unfold ind at ha
    split at ha
    · rename_i e; subst e; exact ⟨hx0, hx1⟩
    · exact v.bound a (by omega)
  · intro y hy
    rw [hcn]
    have hfl := v.fl
    show (s.H.set x.toNat true).getD y false = _
    rw [getD_set _ _ _ _ _ (by rw [v.hl]; omega), v.home y hy]
    unfold ind
    by_cases e : x.toNat = y
    · rw [if_pos e, if_pos (show x = (y : Int) by omega)]; simp
    · rw [if_neg e, if_neg (show x ≠ (y : Int) by omega)]; simp
  · intro d hd
    rcases mem_set hd with h | rfl
    · exact v.caches d h
    · have := v.m1
      simp only [List.length_append, List.length_take, List.length_singleton]
      unfold puts
      split <;> omega
theorem Inv.take {size most : Nat} {s : St} (v : Inv size most s) (g : Int) : Inv size most (take size most s g).1 := by
  unfold Po.take
  split
  · rename_i ht
    simp only [taker, Bool.and_eq_true, decide_eq_true_eq] at ht
    have hg : s.C[g.toNat]? = some (s.C.getD g.toNat []) := by
      rw [List.getD_eq_getElem?_getD, List.getElem?_eq_getElem (by omega)]; simp
    split
    · split
      · rename_i h; exact v.fresh h
      · exact v
    · rename_i h; exact v.took hg h
  · exact v
theorem Inv.give {size most : Nat} {s : St} (v : Inv size most s) (g x : Int) : Inv size most (give most s g x).1 := by
  unfold Po.give
  split
  · rename_i ht
    simp only [taker, Bool.and_eq_true, decide_eq_true_eq] at ht
    have hg : s.C[g.toNat]? = some (s.C.getD g.toNat []) := by
      rw [List.getD_eq_getElem?_getD, List.getElem?_eq_getElem (by omega)]; simp
    exact v.gave hg ht.2
  · exact v

def sumc (L : List Int) : Nat → Nat
  | 0 => 0
  | k + 1 => sumc L k + L.count (k : Int)
theorem sumc_nil (k : Nat) : sumc [] k = 0 := by induction k with
  | zero => rfl
  | succ k ih => simp [sumc, ih]
theorem sumc_cons (y : Int) (r : List Int) (k : Nat) : sumc (y :: r) k = sumc r k + if 0 ≤ y ∧ y < k then 1 else 0 := by
  induction k with
  | zero =>
    rw [if_neg (by omega)]; rfl
  | succ k ih =>
    have e1 : sumc (y :: r) (k + 1) = sumc (y :: r) k + (y :: r).count (k : Int) := rfl
    have e2 : sumc r (k + 1) = sumc r k + r.count (k : Int) := rfl
    rw [e1, e2, ih, List.count_cons]
    by_cases e : y = (k : Int)
    · rw [if_neg (by omega), if_pos (by simpa using e), if_pos (by omega)]; omega
    · have e3 : (y == (k : Int)) = false := by simpa using e
      rw [e3, if_neg (show ¬ (false = true) by decide)]
      by_cases h : 0 ≤ y ∧ y < k
      · rw [if_pos h, if_pos (by omega)]; omega
      · rw [if_neg h, if_neg (by omega)]; omega
theorem sumc_all (L : List Int) (k : Nat) (h : ∀ a ∈ L, 0 ≤ a ∧ a < k) : sumc L k = L.length := by
  induction L with
  | nil => exact sumc_nil k
  | cons y r ih =>
    rw [sumc_cons, ih (fun a ha => h a (by simp [ha])), if_pos (h y (by simp))]; simp
theorem outs_sum (H : List Bool) (L : List Int) (hone : ∀ a, L.count a ≤ 1) (k : Nat) (hk : k ≤ H.length) (hH : ∀ x : Nat, x < k → H.getD x false = decide (1 ≤ L.count (x : Int))) : outs H k + sumc L k = k := by
  induction k with
  | zero => simp [outs, sumc]
  | succ k ih =>
    have hx : H[k]? = some (H.getD k false) := by rw [List.getD_eq_getElem?_getD, List.getElem?_eq_getElem (by omega)]; simp
    rw [outs_succ H k _ hx, hH k (by omega), sumc]
    have := ih (by omega) (fun x hx => hH x (by omega))
    have := hone (k : Int)
    by_cases e : 1 ≤ L.count (k : Int)
    · simp [e]; omega
    · simp [e]; omega
theorem Inv.outs {size most : Nat} {s : St} (v : Inv size most s) : outs s.H s.f + (s.M.length + s.C.flatten.length) = s.f := by
  have hc : ∀ a, (s.M ++ s.C.flatten).count a = cnt s a := fun a => by rw [List.count_append]; rfl
  have h1 := outs_sum s.H (s.M ++ s.C.flatten) (fun a => by rw [hc]; exact v.one a) s.f (by rw [v.hl]; exact v.fl) (fun x hx => by rw [hc]; exact v.home x (by have := v.fl; omega))
  have h2 := sumc_all (s.M ++ s.C.flatten) s.f (fun a ha => v.bound a (by rw [← hc]; exact List.count_pos_iff.2 ha))
  rw [h2, List.length_append] at h1
  exact h1
theorem Inv.lens {size most : Nat} {s : St} (v : Inv size most s) : s.M.length ≤ 64 ∧ s.C.flatten.length ≤ 64 := by
  have := v.outs; have := v.fl; have := v.s1; omega
def new (size takers : Nat) : St := ⟨List.replicate takers [], [], 0, List.replicate size false⟩
theorem new_flat (n : Nat) : (List.replicate n ([] : List Int)).flatten = [] := by
  induction n with
  | zero => rfl
  | succ n ih => rw [List.replicate_succ, List.flatten_cons, ih]; rfl
theorem new_inv (size takers most : Nat) (h1 : size ≤ 64) (h2 : 1 ≤ most) (h3 : most ≤ 16) : Inv size most (new size takers) := by
  have hc : ∀ a, cnt (new size takers) a = 0 := fun a => by unfold cnt new; simp [new_flat]
  refine ⟨h2, h3, h1, by simp [new], Nat.zero_le _, fun a => by rw [hc]; omega, fun a h => by rw [hc] at h; omega, fun x hx => ?_, fun c h => ?_⟩
  · rw [hc]; simp [new, List.getD, hx]
  · simp [new] at h; rw [h.2]; simp
/-- the things of a row are at home; false, if one can't be, or is already -/
def settle (f : Int) : List Bool → List Int → List Bool × Bool
  | H, [] => (H, true)
  | H, x :: r => if live f H x then settle f (H.set x.toNat true) r else (H, false)
theorem settle_cons (f : Int) (H : List Bool) (x : Int) (r : List Int) : settle f H (x :: r) = if live f H x then settle f (H.set x.toNat true) r else (H, false) := rfl
theorem settle_len (f : Int) : ∀ (H : List Bool) (l : List Int), (settle f H l).1.length = H.length
  | H, [] => rfl
  | H, x :: r => by
    unfold settle
    split
    · rw [settle_len f _ r]; simp
    · rfl
theorem drop_next (l : List Int) (k : Nat) (h : k < l.length) : l.drop k = l.getD k 0 :: l.drop (k + 1) := by
  rw [List.drop_eq_getElem_cons h, List.getD_eq_getElem?_getD, List.getElem?_eq_getElem h]; rfl
theorem settle_app (f : Int) : ∀ (H : List Bool) (a b : List Int), settle f H (a ++ b) = if (settle f H a).2 then settle f (settle f H a).1 b else settle f H a
  | H, [], b => rfl
  | H, x :: r, b => by
    rw [List.cons_append, settle_cons, settle_cons]
    by_cases h : live f H x = true
    · rw [if_pos h, if_pos h]; exact settle_app f _ r b
    · rw [if_neg h, if_neg h]; rfl
def of (size most f : Int) (C : List (List Int)) (M : List Int) : Bool :=
  fits size C.length most && decide (0 ≤ f) && decide (f ≤ size) && decide (∀ l ∈ C, (l.length : Int) ≤ most) && (settle f (List.replicate size.toNat false) (C.flatten ++ M)).2
theorem fill_row {C : List (List Int)} {k : Nat} (hk : k < C.length) : (C.take k ++ List.replicate (C.length - k) []).set k C[k] = C.take (k + 1) ++ List.replicate (C.length - (k + 1)) [] := by
  have e1 : (C.take k).length = k := by simp; omega
  obtain ⟨d, hd⟩ : ∃ d, C.length - k = d + 1 := ⟨C.length - k - 1, by omega⟩
  have hd2 : C.length - (k + 1) = d := by omega
  rw [List.set_append_right _ _ (by omega), e1, Nat.sub_self, hd, hd2, List.replicate_succ, List.set_cons_zero, List.take_succ_eq_append_getElem hk, List.append_assoc]; rfl
theorem settle_bad {f : Int} {H : List Bool} {C : List (List Int)} {M : List Int} {k : Nat} (hk : k < C.length) {H' : List Bool} (h : settle f H (C.take k).flatten = (H', true)) (hb : (settle f H' C[k]).2 = false) : (settle f H (C.flatten ++ M)).2 = false := by
  have e : C.flatten ++ M = (C.take k).flatten ++ (C[k] ++ ((C.drop (k + 1)).flatten ++ M)) := by
    have h1 : C = C.take k ++ C[k] :: C.drop (k + 1) := by rw [← List.drop_eq_getElem_cons hk, List.take_append_drop]
    have h2 : C.flatten = (C.take k ++ C[k] :: C.drop (k + 1)).flatten := congrArg List.flatten h1
    rw [h2, List.flatten_append, List.flatten_cons]; simp only [List.append_assoc]
  rw [e, settle_app, h, if_pos rfl, settle_app]
  simp [hb]
theorem live_iff {f : Int} {H : List Bool} {x : Int} : live f H x = true ↔ 0 ≤ x ∧ x < f ∧ H.getD x.toNat false = false := by
  simp [live, and_assoc]
theorem settle_iff (f : Int) : ∀ (L : List Int) (H : List Bool), f ≤ H.length → ((settle f H L).2 = true ↔ (∀ x ∈ L, 0 ≤ x ∧ x < f) ∧ L.Nodup ∧ ∀ x ∈ L, H.getD x.toNat false = false)
  | [], H, _ => by simp [settle]
  | x :: r, H, hf => by
    rw [settle_cons]
    by_cases h : live f H x = true
    · rw [if_pos h, settle_iff f r _ (by simpa using hf)]
      obtain ⟨h1, h2, h3⟩ := live_iff.1 h
      have hx : x.toNat < H.length := by omega
      constructor
      · rintro ⟨a, b, c⟩
        refine ⟨fun y hy => ?_, List.nodup_cons.2 ⟨fun hm => ?_, b⟩, fun y hy => ?_⟩
        · rcases List.mem_cons.1 hy with rfl | hy
          · exact ⟨h1, h2⟩
          · exact a y hy
        · have := c x hm
          rw [getD_set _ _ _ _ _ hx, if_pos rfl] at this
          cases this
        · rcases List.mem_cons.1 hy with rfl | hy
          · exact h3
          · have := c y hy
            rw [getD_set _ _ _ _ _ hx] at this
            by_cases e : x.toNat = y.toNat
            · rw [if_pos e] at this; cases this
            · rwa [if_neg e] at this
      · rintro ⟨a, b, c⟩
        obtain ⟨b1, b2⟩ := List.nodup_cons.1 b
        refine ⟨fun y hy => a y (by simp [hy]), b2, fun y hy => ?_⟩
        have hxy : x ≠ y := fun e => b1 (e ▸ hy)
        have hy1 := (a y (by simp [hy])).1
        rw [getD_set _ _ _ _ _ hx, if_neg (by omega)]
        exact c y (by simp [hy])
    · rw [if_neg h]
      simp only [Bool.false_eq_true, false_iff]
      rintro ⟨a, b, c⟩
      exact h (live_iff.2 ⟨(a x (by simp)).1, (a x (by simp)).2, c x (by simp)⟩)
end Po
end Go.Proofs.YtgjpdogjekmemaaDoor
