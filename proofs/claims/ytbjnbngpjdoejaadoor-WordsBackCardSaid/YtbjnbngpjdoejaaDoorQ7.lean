/-
  Texts StL Can PooL StM Fsa of this claim, put together: what they show stands at their heads.
  Conditions: none but those that each theorem states.
-/
import Derived.Test.YtbjnbngpjdoejaaDoorQ6
namespace Go.Proofs.YtbjnbngpjdoejaaDoor
set_option linter.unusedVariables false
set_option linter.unusedSimpArgs false
set_option linter.unnecessarySimpa false

namespace Sx
structure Gr where
  ops : List Pn.Op
  at_ : Int
  place : Int
  status : Int
  token : Bool
  call : Int
  picked : Bool
  param : Int
  mine : Int
  hold : Int
  t : Int
  arrive : Int
  point : Int
  wi : Int
  fire : Int
  res : Md.Res
  order : List Int
  locks : List Int
  sgs : List Int
  wakes : List Int
  k : Int
structure Cn where
  cap : Int
  buf : List Int
  closed : Bool
  lock : Int
  recv : List Int
  send : List Int
structure Su where
  live : Bool
  g : Int
  ch : Int
  cs : Int
  send : Bool
  v : Int
  done : Bool
structure Mk where
  g : Int
  op : Int
  call : Int
  arrive : Int
  point : Int
  wi : Int
  fire : Int
  re : Int
  res : Md.Res
structure St where
  sudogN : Int
  cacheN : Int
  step : Int
  gs : List Gr
  chans : List Cn
  sudogs : List Su
  cache : List (List Int)
  middle : List Int
  fresh : Int
  draws : List Int
  drawn : Int
  done : List Mk
def noRes : Md.Res := ⟨0, -1, 0, false, 0⟩
def clean (ops : List Pn.Op) (a : Int) : Gr := ⟨ops, a, 0, 0, false, 0, false, -1, -1, -1, 0, 0, 0, -1, -1, noRes, [], [], [], [], 0⟩
def noSu : Su := ⟨false, 0, 0, 0, false, 0, false⟩
def noSt : St := ⟨0, 0, 0, [], [], [], [], [], 0, [], 0, []⟩
def can (s g c : Int) : Bool := decide (0 ≤ s ∧ s ≤ 64 ∧ 0 ≤ g ∧ g ≤ 8 ∧ 1 ≤ c ∧ c ≤ 16)
def start (p : List (List Pn.Op)) (s c : Int) (d : List Int) : St := ⟨s, c, 0, p.map (clean · 0), [], List.replicate s.toNat noSu, p.map (fun _ => []), [], 0, d, 0, []⟩
def new (p : List (List Pn.Op)) (s c : Int) (d : List Int) : St × Int :=
  if Pn.right p = false then (noSt, 3) else if can s p.length c = false then (noSt, 1) else (start p s c d, 0)
end Sx
end Go.Proofs.YtbjnbngpjdoejaaDoor
namespace Go.Proofs.YtbjnbngpjdoejaaDoor
namespace Po
def fits (size takers most : Int) : Bool := decide (0 ≤ size ∧ size ≤ 64 ∧ 0 ≤ takers ∧ takers ≤ 8 ∧ 1 ≤ most ∧ most ≤ 16)
theorem fits_le {size takers most : Int} (h : fits size takers most = true) : 0 ≤ size ∧ size ≤ 64 ∧ 0 ≤ takers ∧ takers ≤ 8 ∧ 1 ≤ most ∧ most ≤ 16 := by simpa [fits] using h
end Po
end Go.Proofs.YtbjnbngpjdoejaaDoor
namespace Go.Proofs.YtbjnbngpjdoejaaDoor
set_option linter.unusedVariables false
set_option linter.unusedSimpArgs false
set_option linter.unnecessarySimpa false
namespace Po
def taker (C : List (List Int)) (g : Int) : Bool := decide (0 ≤ g) && decide (g < C.length)
def live (f : Int) (H : List Bool) (x : Int) : Bool := decide (0 ≤ x) && decide (x < f) && !(H.getD x.toNat false)
def cache (C : List (List Int)) (g : Int) : List Int := if taker C g then C.getD g.toNat [] else []
def outs (H : List Bool) (k : Nat) : Nat := ((H.take k).filter (fun t => !t)).length
theorem outs_le (H : List Bool) (k : Nat) : outs H k ≤ k := by
  unfold outs; exact Nat.le_trans (List.length_filter_le _ _) (List.length_take_le _ _)
theorem outs_succ (H : List Bool) (k : Nat) (t : Bool) (h : H[k]? = some t) : outs H (k + 1) = outs H k + (if t then 0 else 1) := by
  obtain ⟨hk, rfl⟩ := List.getElem?_eq_some_iff.1 h
  unfold outs
  rw [List.take_succ_eq_append_getElem hk, List.filter_append, List.length_append]
  cases H[k] <;> simp
structure St where
  C : List (List Int)
  M : List Int
  f : Nat
  H : List Bool
def room (most : Nat) : Nat := max 1 (most / 2)
def pulls (most : Nat) (c M : List Int) : Nat := if c = [] then min (room most) M.length else 0
def own (most : Nat) (c M : List Int) : List Int := c ++ M.reverse.take (pulls most c M)
def mid (most : Nat) (c M : List Int) : List Int := M.take (M.length - pulls most c M)
def took (s : St) (g : Nat) (o m : List Int) : St := ⟨s.C.set g o.dropLast, m, s.f, s.H.set (o.getLastD 0).toNat false⟩
def take (size most : Nat) (s : St) (g : Int) : St × Int × Bool :=
  if taker s.C g then
    if own most (s.C.getD g.toNat []) s.M = [] then (if s.f < size then (⟨s.C, s.M, s.f + 1, s.H⟩, (s.f : Int), true) else (s, 0, false))
    else (took s g.toNat (own most (s.C.getD g.toNat []) s.M) (mid most (s.C.getD g.toNat []) s.M), (own most (s.C.getD g.toNat []) s.M).getLastD 0, true)
  else (s, 0, false)
def puts (most : Nat) (c : List Int) : Nat := if c.length = most then c.length - most / 2 else 0
def gave (most : Nat) (s : St) (g : Nat) (c : List Int) (x : Int) : St := ⟨s.C.set g (c.take (c.length - puts most c) ++ [x]), s.M ++ c.reverse.take (puts most c), s.f, s.H.set x.toNat true⟩
def give (most : Nat) (s : St) (g x : Int) : St × Bool :=
  if taker s.C g && live s.f s.H x then (gave most s g.toNat (s.C.getD g.toNat []) x, true) else (s, false)

def cnt (s : St) (a : Int) : Nat := s.M.count a + s.C.flatten.count a
structure Inv (size most : Nat) (s : St) : Prop where
  m1 : 1 ≤ most
  m2 : most ≤ 16
  s1 : size ≤ 64
  hl : s.H.length = size
  fl : s.f ≤ size
  one : ∀ a, cnt s a ≤ 1
  bound : ∀ a, 1 ≤ cnt s a → 0 ≤ a ∧ a < s.f
  home : ∀ x : Nat, x < size → s.H.getD x false = decide (1 ≤ cnt s (x : Int))
  caches : ∀ c ∈ s.C, c.length ≤ most

theorem count_set {α : Type} [BEq α] [LawfulBEq α] (a : α) : ∀ (C : List (List α)) (g : Nat) (c c' : List α), C[g]? = some c → (C.set g c').flatten.count a + c.count a = C.flatten.count a + c'.count a
  | [], g, c, c', h => by simp at h
  | y :: r, 0, c, c', h => by
    simp at h; subst h
    simp [List.count_append]; omega
  | y :: r, g + 1, c, c', h => by
    have := count_set a r g c c' (by simpa using h)
    simp [List.count_append]; omega
theorem count_take_drop {α : Type} [BEq α] [LawfulBEq α] (a : α) (l : List α) (k : Nat) : (l.take k).count a + (l.drop k).count a = l.count a := by
  rw [← List.count_append, List.take_append_drop]
theorem rev_take (M : List Int) (n : Nat) : M.reverse.take n = (M.drop (M.length - n)).reverse := by
  rw [List.take_reverse]
theorem count_own (most : Nat) (c M : List Int) (a : Int) : (own most c M).count a + (mid most c M).count a = c.count a + M.count a := by
  unfold own mid
  rw [rev_take, List.count_append, List.count_reverse]
  have := count_take_drop a M (M.length - pulls most c M)
  omega
theorem own_nil {most : Nat} (h1 : 1 ≤ most) {c M : List Int} (h : own most c M = []) : c = [] ∧ M = [] := by
  unfold own pulls room at h
  simp only [List.append_eq_nil_iff] at h
  obtain ⟨rfl, h⟩ := h
  refine ⟨rfl, ?_⟩
  rw [if_pos rfl] at h
  cases M with
  | nil => rfl
  | cons x r =>
    have := congrArg List.length h
    simp at this
theorem mem_cnt {s : St} {a : Int} : 1 ≤ cnt s a ↔ a ∈ s.M ∨ ∃ c ∈ s.C, a ∈ c := by
  unfold cnt
  constructor
  · intro h
    have h2 : 0 < s.M.count a ∨ 0 < s.C.flatten.count a := by omega
    rcases h2 with h2 | h2
    · exact .inl (List.count_pos_iff.1 h2)
    · right
      have := List.count_pos_iff.1 h2
      simpa using this
  · rintro (h | ⟨c, hc, h⟩)
    · have := List.count_pos_iff.2 h; omega
    · have : 0 < s.C.flatten.count a := List.count_pos_iff.2 (List.mem_flatten.2 ⟨c, hc, h⟩)
      omega
theorem last_mem {o : List Int} (h : o ≠ []) : o = o.dropLast ++ [o.getLastD 0] := by
  have := List.dropLast_concat_getLast h
  rw [List.getLastD_eq_getLast?, List.getLast?_eq_some_getLast h]
  exact this.symm
theorem getD_set {α : Type} (l : List α) (i j : Nat) (t d : α) (h : i < l.length) : (l.set i t).getD j d = if i = j then t else l.getD j d := by
  by_cases e : i = j
  · subst e; simp [h]
  · simp [List.getD, e]
theorem Inv.last {size most : Nat} {s : St} (v : Inv size most s) {g : Nat} {c : List Int} (hg : s.C[g]? = some c) {o : List Int} (ho : o = own most c s.M) (h0 : o ≠ []) :
    0 ≤ o.getLastD 0 ∧ o.getLastD 0 < s.f := by
  have hm : o.getLastD 0 ∈ o := by
    have := last_mem h0
    generalize o.getLastD 0 = x at *
    rw [this]; simp
  apply v.bound
  apply mem_cnt.2
  generalize o.getLastD 0 = x at *
  rw [ho] at hm
  unfold own at hm
  rcases List.mem_append.1 hm with h | h
  · exact .inr ⟨c, List.mem_of_getElem? hg, h⟩
  · left
    have := List.mem_of_mem_take h
    simpa using this
theorem Inv.len {size most : Nat} {s : St} (v : Inv size most s) {c : List Int} (hc : c ∈ s.C) : c.length ≤ most := v.caches c hc
theorem own_len {most : Nat} (h1 : 1 ≤ most) {c M : List Int} (hc : c.length ≤ most) : (own most c M).length ≤ most := by
  unfold own pulls room
  by_cases h : c = []
  · subst h; simp; omega
  · simp [h]; exact hc
def ind (x a : Int) : Nat := if x = a then 1 else 0
theorem count_last {o : List Int} (h : o ≠ []) (a : Int) : o.count a = o.dropLast.count a + ind (o.getLastD 0) a := by
  conv => lhs; rw [last_mem h]
  rw [List.count_append, List.count_singleton]
  unfold ind
  by_cases e : o.getLastD 0 = a <;> simp [e]
theorem cnt_took {size most : Nat} {s : St} {g : Nat} {c : List Int} (hg : s.C[g]? = some c) (h0 : own most c s.M ≠ []) (a : Int) :
    cnt (took s g (own most c s.M) (mid most c s.M)) a + ind ((own most c s.M).getLastD 0) a = cnt s a := by
  have e1 := count_set a s.C g c (own most c s.M).dropLast hg
  have e2 := count_own most c s.M a
  have e3 := count_last h0 a
  show (mid most c s.M).count a + (s.C.set g (own most c s.M).dropLast).flatten.count a + _ = s.M.count a + s.C.flatten.count a
  omega
theorem mem_set {α : Type} {l : List α} {g : Nat} {c x : α} (h : x ∈ l.set g c) : x ∈ l ∨ x = c := List.mem_or_eq_of_mem_set h
theorem Inv.took {size most : Nat} {s : St} (v : Inv size most s) {g : Nat} {c : List Int} (hg : s.C[g]? = some c) (h0 : own most c s.M ≠ []) :
    Inv size most (took s g (own most c s.M) (mid most c s.M)) := by
  have hb := v.last hg rfl h0
  have hcn := cnt_took (size := size) hg h0
  have hcc := own_len v.m1 (M := s.M) (v.caches c (List.mem_of_getElem? hg))
  have hin : cnt s ((own most c s.M).getLastD 0) ≤ 1 := v.one _
  refine ⟨v.m1, v.m2, v.s1, by simpa [Po.took] using v.hl, v.fl, fun a => by have := hcn a; have := v.one a; omega, fun a ha => v.bound a (by have := hcn a; omega), ?_, ?_⟩
  · intro x hx
    have hx1 := hcn (x : Int)
    have hx2 := v.one (x : Int)
    have hx3 := v.home x hx
    have hfl := v.fl
    have hxl := hcn ((own most c s.M).getLastD 0)
    show (s.H.set ((own most c s.M).getLastD 0).toNat false).getD x false = _
    rw [getD_set _ _ _ _ _ (by rw [v.hl]; omega)]
    unfold ind at hx1 hxl
    rw [if_pos rfl] at hxl
    by_cases e : ((own most c s.M).getLastD 0).toNat = x
    · rw [if_pos e]
      have e2 : (own most c s.M).getLastD 0 = (x : Int) := by omega
      rw [if_pos e2] at hx1
      simp; omega
    · rw [if_neg e]
      have e2 : (own most c s.M).getLastD 0 ≠ (x : Int) := by omega
      rw [if_neg e2] at hx1
      rw [hx3]
      simp only [decide_eq_decide]; omega
  · intro d hd
    rcases mem_set hd with h | rfl
    · exact v.caches d h
    · simp; omega
theorem Inv.fresh {size most : Nat} {s : St} (v : Inv size most s) (h : s.f < size) : Inv size most ⟨s.C, s.M, s.f + 1, s.H⟩ :=
  ⟨v.m1, v.m2, v.s1, v.hl, h, v.one, fun a ha => by have := v.bound a ha; exact ⟨this.1, by simp; omega⟩, v.home, v.caches⟩
theorem cnt_gave {most : Nat} {s : St} {g : Nat} {c : List Int} (hg : s.C[g]? = some c) (x a : Int) : cnt (gave most s g c x) a = cnt s a + ind x a := by
  have e1 := count_set a s.C g c (c.take (c.length - puts most c) ++ [x]) hg
  have e2 := count_take_drop a c (c.length - puts most c)
  have e3 : [x].count a = ind x a := by unfold ind; rw [List.count_singleton]; by_cases e : x = a <;> simp [e]
  show (s.M ++ c.reverse.take (puts most c)).count a + (s.C.set g (c.take (c.length - puts most c) ++ [x])).flatten.count a = s.M.count a + s.C.flatten.count a + _
  rw [List.count_append, rev_take, List.count_reverse]
  rw [List.count_append, e3] at e1
  omega
theorem Inv.live {size most : Nat} {s : St} (v : Inv size most s) (x : Int) : live s.f s.H x = (decide (0 ≤ x) && decide (x < s.f) && decide (cnt s x = 0)) := by
  unfold Po.live
  by_cases h1 : 0 ≤ x
  · by_cases h2 : x < s.f
    · have := v.home x.toNat (by have := v.fl; omega)
      rw [this, Int.toNat_of_nonneg h1]
      simp only [h1, h2, decide_true, Bool.true_and]
      rw [Bool.eq_iff_iff]
      simp
    · simp [h2]
  · simp [h1]
theorem Inv.gave {size most : Nat} {s : St} (v : Inv size most s) {g : Nat} {c : List Int} (hg : s.C[g]? = some c) {x : Int} (hx : Po.live s.f s.H x = true) :
    Inv size most (gave most s g c x) := by
  rw [v.live] at hx
  simp only [Bool.and_eq_true, decide_eq_true_eq] at hx
  obtain ⟨⟨hx0, hx1⟩, hx2⟩ := hx
  have hcn := cnt_gave (most := most) hg x
  have hcl := v.caches c (List.mem_of_getElem? hg)
  refine ⟨v.m1, v.m2, v.s1, by simpa [Po.gave] using v.hl, v.fl, ?_, ?_, ?_, ?_⟩
  · intro a
    rw [hcn]
    have := v.one a
    unfold ind
    split
    · rename_i e; subst e; omega
    · omega
  · intro a ha
    rw [hcn] at ha
    unfold ind at ha
    split at ha
    · rename_i e; subst e; exact ⟨hx0, hx1⟩
    · exact v.bound a (by omega)
  · intro y hy
    rw [hcn]
    have hfl := v.fl
    show (s.H.set x.toNat true).getD y false = _
    rw [getD_set _ _ _ _ _ (by rw [v.hl]; omega), v.home y hy]
    unfold ind
    by_cases e : x.toNat = y
    · rw [if_pos e, if_pos (show x = (y : Int) by omega)]; simp
    · rw [if_neg e, if_neg (show x ≠ (y : Int) by omega)]; simp
  · intro d hd
    rcases mem_set hd with h | rfl
    · exact v.caches d h
    · have := v.m1
      simp only [List.length_append, List.length_take, List.length_singleton]
      unfold puts
      split <;> omega
theorem Inv.take {size most : Nat} {s : St} (v : Inv size most s) (g : Int) : Inv size most (take size most s g).1 := by
  unfold Po.take
  split
  · rename_i ht
    simp only [taker, Bool.and_eq_true, decide_eq_true_eq] at ht
    have hg : s.C[g.toNat]? = some (s.C.getD g.toNat []) := by
      rw [List.getD_eq_getElem?_getD, List.getElem?_eq_getElem (by omega)]; simp
    split
    · split
      · rename_i h; exact v.fresh h
      · exact v
    · rename_i h; exact v.took hg h
  · exact v
theorem Inv.give {size most : Nat} {s : St} (v : Inv size most s) (g x : Int) : Inv size most (give most s g x).1 := by
  unfold Po.give
  split
  · rename_i ht
    simp only [taker, Bool.and_eq_true, decide_eq_true_eq] at ht
    have hg : s.C[g.toNat]? = some (s.C.getD g.toNat []) := by
      rw [List.getD_eq_getElem?_getD, List.getElem?_eq_getElem (by omega)]; simp
    exact v.gave hg ht.2
  · exact v

def sumc (L : List Int) : Nat → Nat
  | 0 => 0
  | k + 1 => sumc L k + L.count (k : Int)
theorem sumc_nil (k : Nat) : sumc [] k = 0 := by induction k with
  | zero => rfl
  | succ k ih => simp [sumc, ih]
theorem sumc_cons (y : Int) (r : List Int) (k : Nat) : sumc (y :: r) k = sumc r k + if 0 ≤ y ∧ y < k then 1 else 0 := by
  induction k with
  | zero =>
    rw [if_neg (by omega)]; rfl
  | succ k ih =>
    have e1 : sumc (y :: r) (k + 1) = sumc (y :: r) k + (y :: r).count (k : Int) := rfl
    have e2 : sumc r (k + 1) = sumc r k + r.count (k : Int) := rfl
    rw [e1, e2, ih, List.count_cons]
    by_cases e : y = (k : Int)
    · rw [if_neg (by omega), if_pos (by simpa using e), if_pos (by omega)]; omega
    · have e3 : (y == (k : Int)) = false := by simpa using e
      rw [e3, if_neg (show ¬ (false = true) by decide)]
      by_cases h : 0 ≤ y ∧ y < k
      · rw [if_pos h, if_pos (by omega)]; omega
      · rw [if_neg h, if_neg (by omega)]; omega
theorem sumc_all (L : List Int) (k : Nat) (h : ∀ a ∈ L, 0 ≤ a ∧ a < k) : sumc L k = L.length := by
  induction L with
  | nil => exact sumc_nil k
  | cons y r ih =>
    rw [sumc_cons, ih (fun a ha => h a (by simp [ha])), if_pos (h y (by simp))]; simp
theorem outs_sum (H : List Bool) (L : List Int) (hone : ∀ a, L.count a ≤ 1) (k : Nat) (hk : k ≤ H.length) (hH : ∀ x : Nat, x < k → H.getD x false = decide (1 ≤ L.count (x : Int))) : outs H k + sumc L k = k := by
  induction k with
  | zero => simp [outs, sumc]
  | succ k ih =>
    have hx : H[k]? = some (H.getD k false) := by rw [List.getD_eq_getElem?_getD, List.getElem?_eq_getElem (by omega)]; simp
    rw [outs_succ H k _ hx, hH k (by omega), sumc]
    have := ih (by omega) (fun x hx => hH x (by omega))
    have := hone (k : Int)
    by_cases e : 1 ≤ L.count (k : Int)
    · simp [e]; omega
    · simp [e]; omega
theorem Inv.outs {size most : Nat} {s : St} (v : Inv size most s) : outs s.H s.f + (s.M.length + s.C.flatten.length) = s.f := by
  have hc : ∀ a, (s.M ++ s.C.flatten).count a = cnt s a := fun a => by rw [List.count_append]; rfl
  have h1 := outs_sum s.H (s.M ++ s.C.flatten) (fun a => by rw [hc]; exact v.one a) s.f (by rw [v.hl]; exact v.fl) (fun x hx => by rw [hc]; exact v.home x (by have := v.fl; omega))
  have h2 := sumc_all (s.M ++ s.C.flatten) s.f (fun a ha => v.bound a (by rw [← hc]; exact List.count_pos_iff.2 ha))
  rw [h2, List.length_append] at h1
  exact h1
theorem Inv.lens {size most : Nat} {s : St} (v : Inv size most s) : s.M.length ≤ 64 ∧ s.C.flatten.length ≤ 64 := by
  have := v.outs; have := v.fl; have := v.s1; omega
def new (size takers : Nat) : St := ⟨List.replicate takers [], [], 0, List.replicate size false⟩
theorem new_flat (n : Nat) : (List.replicate n ([] : List Int)).flatten = [] := by
  induction n with
  | zero => rfl
  | succ n ih => rw [List.replicate_succ, List.flatten_cons, ih]; rfl
theorem new_inv (size takers most : Nat) (h1 : size ≤ 64) (h2 : 1 ≤ most) (h3 : most ≤ 16) : Inv size most (new size takers) := by
  have hc : ∀ a, cnt (new size takers) a = 0 := fun a => by unfold cnt new; simp [new_flat]
  refine ⟨h2, h3, h1, by simp [new], Nat.zero_le _, fun a => by rw [hc]; omega, fun a h => by rw [hc] at h; omega, fun x hx => ?_, fun c h => ?_⟩
  · rw [hc]; simp [new, List.getD, hx]
  · simp [new] at h; rw [h.2]; simp
def settle (f : Int) : List Bool → List Int → List Bool × Bool
  | H, [] => (H, true)
  | H, x :: r => if live f H x then settle f (H.set x.toNat true) r else (H, false)
theorem settle_cons (f : Int) (H : List Bool) (x : Int) (r : List Int) : settle f H (x :: r) = if live f H x then settle f (H.set x.toNat true) r else (H, false) := rfl
theorem settle_len (f : Int) : ∀ (H : List Bool) (l : List Int), (settle f H l).1.length = H.length
  | H, [] => rfl
  | H, x :: r => by
    unfold settle
    split
    · rw [settle_len f _ r]; simp
    · rfl
theorem drop_next (l : List Int) (k : Nat) (h : k < l.length) : l.drop k = l.getD k 0 :: l.drop (k + 1) := by
  rw [List.drop_eq_getElem_cons h, List.getD_eq_getElem?_getD, List.getElem?_eq_getElem h]; rfl
theorem settle_app (f : Int) : ∀ (H : List Bool) (a b : List Int), settle f H (a ++ b) = if (settle f H a).2 then settle f (settle f H a).1 b else settle f H a
  | H, [], b => rfl
  | H, x :: r, b => by
    rw [List.cons_append, settle_cons, settle_cons]
    by_cases h : live f H x = true
    · rw [if_pos h, if_pos h]; exact settle_app f _ r b
    · rw [if_neg h, if_neg h]; rfl
def of (size most f : Int) (C : List (List Int)) (M : List Int) : Bool :=
  fits size C.length most && decide (0 ≤ f) && decide (f ≤ size) && decide (∀ l ∈ C, (l.length : Int) ≤ most) && (settle f (List.replicate size.toNat false) (C.flatten ++ M)).2
theorem fill_row {C : List (List Int)} {k : Nat} (hk : k < C.length) : (C.take k ++ List.replicate (C.length - k) []).set k C[k] = C.take (k + 1) ++ List.replicate (C.length - (k + 1)) [] := by
  have e1 : (C.take k).length = k := by simp; omega
  obtain ⟨d, hd⟩ : ∃ d, C.length - k = d + 1 := ⟨C.length - k - 1, by omega⟩
  have hd2 : C.length - (k + 1) = d := by omega
  rw [List.set_append_right _ _ (by omega), e1, Nat.sub_self, hd, hd2, List.replicate_succ, List.set_cons_zero, List.take_succ_eq_append_getElem hk, List.append_assoc]; rfl
theorem settle_bad {f : Int} {H : List Bool} {C : List (List Int)} {M : List Int} {k : Nat} (hk : k < C.length) {H' : List Bool} (h : settle f H (C.take k).flatten = (H', true)) (hb : (settle f H' C[k]).2 = false) : (settle f H (C.flatten ++ M)).2 = false := by
  have e : C.flatten ++ M = (C.take k).flatten ++ (C[k] ++ ((C.drop (k + 1)).flatten ++ M)) := by
    have h1 : C = C.take k ++ C[k] :: C.drop (k + 1) := by rw [← List.drop_eq_getElem_cons hk, List.take_append_drop]
    have h2 : C.flatten = (C.take k ++ C[k] :: C.drop (k + 1)).flatten := congrArg List.flatten h1
    rw [h2, List.flatten_append, List.flatten_cons]; simp only [List.append_assoc]
  rw [e, settle_app, h, if_pos rfl, settle_app]
  simp [hb]
theorem live_iff {f : Int} {H : List Bool} {x : Int} : live f H x = true ↔ 0 ≤ x ∧ x < f ∧ H.getD x.toNat false = false := by
  simp [live, and_assoc]
theorem settle_iff (f : Int) : ∀ (L : List Int) (H : List Bool), f ≤ H.length → ((settle f H L).2 = true ↔ (∀ x ∈ L, 0 ≤ x ∧ x < f) ∧ L.Nodup ∧ ∀ x ∈ L, H.getD x.toNat false = false)
  | [], H, _ => by simp [settle]
  | x :: r, H, hf => by
    rw [settle_cons]
    by_cases h : live f H x = true
    · rw [if_pos h, settle_iff f r _ (by simpa using hf)]
      obtain ⟨h1, h2, h3⟩ := live_iff.1 h
      have hx : x.toNat < H.length := by omega
      constructor
      · rintro ⟨a, b, c⟩
        refine ⟨fun y hy => ?_, List.nodup_cons.2 ⟨fun hm => ?_, b⟩, fun y hy => ?_⟩
        · rcases List.mem_cons.1 hy with rfl | hy
          · exact ⟨h1, h2⟩
          · exact a y hy
        · have := c x hm
          rw [getD_set _ _ _ _ _ hx, if_pos rfl] at this
          cases this
        · rcases List.mem_cons.1 hy with rfl | hy
          · exact h3
          · have := c y hy
            rw [getD_set _ _ _ _ _ hx] at this
            by_cases e : x.toNat = y.toNat
            · rw [if_pos e] at this; cases this
            · rwa [if_neg e] at this
      · rintro ⟨a, b, c⟩
        obtain ⟨b1, b2⟩ := List.nodup_cons.1 b
        refine ⟨fun y hy => a y (by simp [hy]), b2, fun y hy => ?_⟩
        have hxy : x ≠ y := fun e => b1 (e ▸ hy)
        have hy1 := (a y (by simp [hy])).1
        rw [getD_set _ _ _ _ _ hx, if_neg (by omega)]
        exact c y (by simp [hy])
    · rw [if_neg h]
      simp only [Bool.false_eq_true, false_iff]
      rintro ⟨a, b, c⟩
      exact h (live_iff.2 ⟨(a x (by simp)).1, (a x (by simp)).2, c x (by simp)⟩)
end Po
end Go.Proofs.YtbjnbngpjdoejaaDoor
namespace Go.Proofs.YtbjnbngpjdoejaaDoor
set_option linter.unusedVariables false
set_option linter.unusedSimpArgs false
set_option linter.unnecessarySimpa false

namespace Sx
def noOp : Pn.Op := ⟨0, 0, 0, 0, [], false⟩
def noCn : Cn := ⟨0, [], false, -1, [], []⟩
def gr (s : St) (g : Nat) : Gr := s.gs.getD g (clean [] 0)
def cn (s : St) (ch : Int) : Cn := s.chans.getD (ch - 1).toNat noCn
def su (s : St) (i : Int) : Su := s.sudogs.getD i.toNat noSu
def op (s : St) (g : Nat) : Pn.Op := (gr s g).ops.getD (gr s g).at_.toNat noOp
def made (s : St) (ch : Int) : Bool := decide (1 ≤ ch ∧ ch ≤ s.chans.length)
def withG (s : St) (g : Nat) (x : Gr) : St := { s with gs := s.gs.set g x }
def withC (s : St) (ch : Int) (c : Cn) : St := { s with chans := s.chans.set (ch - 1).toNat c }
def withS (s : St) (i : Int) (x : Su) : St := { s with sudogs := s.sudogs.set i.toNat x }
def goTo (s : St) (g : Nat) (p : Int) : St := withG s g { gr s g with place := p }
def cleared (x : Gr) : Gr := { clean x.ops x.at_ with place := x.place, status := x.status, token := x.token }
def clear (s : St) (g : Nat) : St := withG s g (cleared (gr s g))
def tryLock (s : St) (g : Nat) (ch : Int) : St × Bool := if (cn s ch).lock = -1 then (withC s ch { cn s ch with lock := g }, true) else (s, false)
def free (s : St) (ch : Int) : St := withC s ch { cn s ch with lock := -1 }
def allOut (s : St) : List Int := s.middle ++ s.cache.flatten
def liveP (s : St) (x : Int) : Bool := decide (0 ≤ x) && decide (x < s.fresh) && !(allOut s).contains x
def sudog (s : St) (g : Nat) : St × Int × Bool :=
  if Po.own s.cacheN.toNat (s.cache.getD g []) s.middle = [] then (if s.fresh < s.sudogN then ({ s with fresh := s.fresh + 1 }, s.fresh, true) else (s, 0, false))
  else ({ s with cache := s.cache.set g (Po.own s.cacheN.toNat (s.cache.getD g []) s.middle).dropLast, middle := Po.mid s.cacheN.toNat (s.cache.getD g []) s.middle }, (Po.own s.cacheN.toNat (s.cache.getD g []) s.middle).getLastD 0, true)
def poolGive (s : St) (g : Nat) (x : Int) : St :=
  if liveP s x then { s with cache := s.cache.set g ((s.cache.getD g []).take ((s.cache.getD g []).length - Po.puts s.cacheN.toNat (s.cache.getD g [])) ++ [x]), middle := s.middle ++ (s.cache.getD g []).reverse.take (Po.puts s.cacheN.toNat (s.cache.getD g [])) }
  else s
def give (s : St) (g : Nat) (x : Int) : St := withS (poolGive s g x) x noSu
def park (s : St) (g : Nat) : St :=
  withG s g (if (gr s g).status = 0 ∧ (gr s g).token = true then { gr s g with token := false } else if (gr s g).status = 0 then { gr s g with status := 1 } else gr s g)
def ready (s : St) (g : Nat) : St :=
  withG s g (if (gr s g).status = 1 then { gr s g with status := 0 } else if (gr s g).status = 0 then { gr s g with token := true } else gr s g)
def pair (s : St) (g : Nat) (i : Int) : St :=
  let x := gr s g
  let o := (su s i).g
  withG (withG s o.toNat { gr s o.toNat with point := x.t, wi := g, fire := (su s i).cs }) g { x with point := x.t, wi := o }
def serve (s : St) (g : Nat) (i : Int) (d : Bool) : St :=
  let o := (su s i).g
  let s2 := withS (withG s o.toNat { gr s o.toNat with param := i }) i { su s i with done := d }
  withG s2 g { gr s2 g with wakes := (gr s2 g).wakes ++ [o], hold := -1 }
def wakes (s : St) (g : Nat) : St := if 0 < (gr s g).wakes.length then goTo s g 17 else goTo s g 18
def common (s : St) (g : Nat) : St × Bool :=
  let x := gr s g
  let o := op s g
  if x.place = 4 then
    (if (tryLock s g o.ch).2 = true then (if o.kind = 6 then (goTo (tryLock s g o.ch).1 g 21, true) else (goTo (tryLock s g o.ch).1 g 5, true)) else (s, true))
  else if x.place = 12 then (goTo (free s o.ch) g 13, true)
  else if x.place = 13 then (park (goTo s g 14) g, true)
  else if x.place = 15 then (goTo (withG (give s g x.mine) g { x with mine := -1 }) g 18, true)
  else if x.place = 16 then (wakes (free s o.ch) g, true)
  else if x.place = 17 then (wakes (withG (ready s (x.wakes.headD 0).toNat) g { x with wakes := x.wakes.tail }) g, true)
  else (s, false)
def pointAt (s : St) (g : Nat) (r : Md.Res) (p : Int) : St := withG s g { gr s g with point := s.step, res := r, place := p }
/-! ### sends -/
def got (v : Int) (ok : Bool) : Md.Res := ⟨1, -1, v, ok, 0⟩
def res (c : Int) : Md.Res := ⟨c, -1, 0, false, 0⟩
def sent : Md.Res := ⟨1, -1, 0, true, 0⟩
def room (c : Cn) : Bool := if 0 < c.cap then decide ((c.buf.length : Int) < c.cap) else decide (0 < c.recv.length)
def somE (c : Cn) : Bool := if 0 < c.cap then decide (0 < c.buf.length) else decide (0 < c.send.length)
def without (l : List Int) (x : Int) : List Int := l.filter (· != x)
def drop (s : St) (i : Int) : St :=
  if made s (su s i).ch = true then withC s (su s i).ch { cn s (su s i).ch with recv := without (cn s (su s i).ch).recv i, send := without (cn s (su s i).ch).send i } else s
def taken (s : St) (g : Nat) (i win hand : Int) : St :=
  if 0 ≤ (su s i).cs then goTo (withG s g { gr s g with hold := i }) g win
  else goTo (pair (drop (withG s g { gr s g with hold := i, t := s.step }) i) g i) g hand
def win (s : St) (g : Nat) (back on : Int) : St :=
  let x := gr s g
  let p := (su s x.hold).g.toNat
  if (gr s p).picked = true then withG (drop s x.hold) g { x with hold := -1, place := back }
  else goTo (pair (withG (withG s g { x with t := s.step }) p { gr s p with picked := true }) g x.hold) g on
def mine (s : St) (g : Nat) (d : Su) : St :=
  if (sudog s g).2.2 = true then withG (withS (sudog s g).1 (sudog s g).2.1 d) g { gr s g with mine := (sudog s g).2.1, place := 11 }
  else withG (sudog s g).1 g { gr s g with res := { (gr s g).res with code := 6 }, place := 16 }
def sendHand (s : St) (g : Nat) (v : Int) : St :=
  let h := (gr s g).hold
  let s1 := drop s h
  serve (withS s1 h { su s1 h with v := v }) g h true
def ringPut (l : List Int) (room v : Int) : List Int × Bool := if room ≤ l.length then (l, false) else (l ++ [v], true)
def ringGet (l : List Int) : List Int × Int × Bool := if l.length = 0 then (l, 0, false) else (l.tail, l.headD 0, true)
def ringPass (l : List Int) (room v : Int) : List Int × Int × Bool := if (l.length : Int) < room ∨ l.length = 0 then (l, 0, false) else (l.tail ++ [v], l.headD 0, true)
def sendStep (s : St) (g : Nat) : St × Bool :=
  let x := gr s g
  let o := op s g
  let c := cn s o.ch
  if o.kind ≠ 2 ∧ o.kind ≠ 4 then (s, false)
  else if (common s g).2 = true then ((common s g).1, true)
  else if made s o.ch = false then (s, false)
  else if x.place = 1 then (if room c = true then (goTo s g 4, true) else (pointAt s g x.res 2, true))
  else if x.place = 2 then (if c.closed = true then (withG s g { x with point := 0, place := 4 }, true) else (withG s g { x with res := { x.res with code := 2 }, place := 18 }, true))
  else if x.place = 5 then (if c.closed = true then (pointAt s g (res 3) 16, true) else (goTo s g 6, true))
  else if x.place = 6 then (if c.recv.length = 0 then (goTo s g 9, true) else (taken s g (c.recv.headD 0) 7 8, true))
  else if x.place = 7 then (win s g 6 8, true)
  else if x.place = 8 then (withG (sendHand s g o.v) g { gr (sendHand s g o.v) g with res := sent, place := 16 }, true)
  else if x.place = 9 then
    (if (ringPut c.buf c.cap o.v).2 = true then (pointAt (withC s o.ch { c with buf := (ringPut c.buf c.cap o.v).1 }) g sent 16, true)
     else if o.kind = 4 then (pointAt s g (res 2) 16, true) else (goTo s g 10, true))
  else if x.place = 10 then (mine s g ⟨true, g, o.ch, -1, true, o.v, false⟩, true)
  else if x.place = 11 then (withG (withC s o.ch { c with send := c.send ++ [x.mine] }) g { x with arrive := s.step, place := 12 }, true)
  else if x.place = 14 then (withG s g { x with res := if (su s x.param).done = true then sent else res 3, param := -1, place := 15 }, true)
  else (s, false)
/-! ### receives -/
def hand (s : St) (ch i : Int) : St × Int :=
  let c := cn s ch
  if c.cap = 0 then (s, (su s i).v)
  else (withC s ch { c with buf := (ringPass c.buf c.cap (su s i).v).1 }, (ringPass c.buf c.cap (su s i).v).2.1)
def recvStep (s : St) (g : Nat) : St × Bool :=
  let x := gr s g
  let o := op s g
  let c := cn s o.ch
  if o.kind ≠ 3 ∧ o.kind ≠ 5 then (s, false)
  else if (common s g).2 = true then ((common s g).1, true)
  else if made s o.ch = false then (s, false)
  else if x.place = 1 then (if somE c = true then (goTo s g 4, true) else (pointAt s g x.res 2, true))
  else if x.place = 2 then (if c.closed = true then (goTo s g 3, true) else (withG s g { x with res := { x.res with code := 2 }, place := 18 }, true))
  else if x.place = 3 then (if somE c = true then (withG s g { x with point := 0, place := 4 }, true) else (pointAt s g (got 0 false) 18, true))
  else if x.place = 5 then
    (if c.closed = true ∧ c.buf.length = 0 then (pointAt s g (got 0 false) 16, true) else if c.closed = true then (goTo s g 9, true) else (goTo s g 6, true))
  else if x.place = 6 then (if c.send.length = 0 then (goTo s g 9, true) else (taken s g (c.send.headD 0) 7 8, true))
  else if x.place = 7 then (win s g 6 8, true)
  else if x.place = 8 then
    (let n := hand (drop s x.hold) o.ch x.hold
     let n2 := serve n.1 g x.hold true
     (withG n2 g { gr n2 g with res := got n.2 true, place := 16 }, true))
  else if x.place = 9 then
    (if (ringGet c.buf).2.2 = true then (pointAt (withC s o.ch { c with buf := (ringGet c.buf).1 }) g (got (ringGet c.buf).2.1 true) 16, true)
     else if o.kind = 5 then (pointAt s g (res 2) 16, true) else (goTo s g 10, true))
  else if x.place = 10 then (mine s g ⟨true, g, o.ch, -1, false, 0, false⟩, true)
  else if x.place = 11 then (withG (withC s o.ch { c with recv := c.recv ++ [x.mine] }) g { x with arrive := s.step, place := 12 }, true)
  else if x.place = 14 then (withG s g { x with res := if (su s x.param).done = true then got (su s x.param).v true else got 0 false, param := -1, place := 15 }, true)
  else (s, false)
/-! ### closes -/
def closedOn (s : St) (g : Nat) : St :=
  let i := (gr s g).hold
  let s1 := drop (withG s g { gr s g with t := s.step }) i
  let d := su s1 i
  serve (withG s1 d.g.toNat { gr s1 d.g.toNat with point := (gr s1 g).t, fire := d.cs }) g i false
def drainAt (s : St) (g : Nat) (i : Int) : St :=
  let s1 := withG s g { gr s g with hold := i }
  if 0 ≤ (su s1 i).cs then goTo s1 g 23 else closedOn s1 g
def drainWin (s : St) (g : Nat) : St :=
  let x := gr s g
  let p := (su s x.hold).g.toNat
  if (gr s p).picked = true then withG (drop s x.hold) g { x with hold := -1, place := 22 }
  else goTo (closedOn (withG s p { gr s p with picked := true }) g) g 22
def shutStep (s : St) (g : Nat) : St × Bool :=
  let x := gr s g
  let o := op s g
  let c := cn s o.ch
  if o.kind ≠ 6 then (s, false)
  else if (common s g).2 = true then ((common s g).1, true)
  else if made s o.ch = false then (s, false)
  else if x.place = 21 then (if c.closed = true then (pointAt s g (res 4) 16, true) else (pointAt (withC s o.ch { c with closed := true }) g sent 22, true))
  else if x.place = 22 then
    (if 0 < c.recv.length then (drainAt s g (c.recv.headD 0), true) else if 0 < c.send.length then (drainAt s g (c.send.headD 0), true) else (goTo s g 16, true))
  else if x.place = 23 then (drainWin s g, true)
  else (s, false)
/-! ### selects -/
def unlock (s : St) (g : Nat) (p : Int) : St := withG s g { gr s g with k := (gr s g).locks.length, place := p }
def fires (s : St) (g : Nat) (r : Md.Res) (i : Int) : St :=
  let s1 := pointAt s g { r with cs := i } 30
  unlock (withG s1 g { gr s1 g with fire := i }) g 30
def atK (l : List Int) (k : Int) : Int := l.getD k.toNat 0
def lock (s : St) (g : Nat) (p : Int) : St :=
  let x := gr s g
  if (tryLock s g (atK x.locks x.k)).2 = true then
    (if x.k + 1 = x.locks.length then withG (tryLock s g (atK x.locks x.k)).1 g { x with k := 0, place := p } else withG (tryLock s g (atK x.locks x.k)).1 g { x with k := x.k + 1 })
  else s
def next (s : St) (g : Nat) (p : Int) : St :=
  let x := gr s g
  if x.k + 1 = x.order.length then withG s g { x with k := 0, place := p } else withG s g { x with k := x.k + 1 }
def won (s : St) (g : Nat) : St :=
  let x := gr s g
  if x.place = 27 then withG s g { x with fire := atK x.order x.k } else withG s g x
def noCs : Pn.Cs := ⟨false, 0, 0⟩
def caseAt (o : Pn.Op) (i : Int) : Pn.Cs := o.cases.getD i.toNat noCs
def pollSend (s : St) (g : Nat) (i : Int) (k : Pn.Cs) : St × Bool :=
  let c := cn s k.ch
  if c.closed = true then (fires s g ⟨3, 0, 0, false, 0⟩ i, true)
  else if 0 < c.recv.length then (won (taken s g (c.recv.headD 0) 26 27) g, true)
  else if (ringPut c.buf c.cap k.v).2 = true then (fires (withC s k.ch { c with buf := (ringPut c.buf c.cap k.v).1 }) g ⟨1, 0, 0, true, 0⟩ i, true)
  else (s, false)
def pollRecv (s : St) (g : Nat) (i : Int) (k : Pn.Cs) : St × Bool :=
  let c := cn s k.ch
  if 0 < c.send.length then (won (taken s g (c.send.headD 0) 26 27) g, true)
  else if (ringGet c.buf).2.2 = true then (fires (withC s k.ch { c with buf := (ringGet c.buf).1 }) g (got (ringGet c.buf).2.1 true) i, true)
  else if c.closed = true then (fires s g (got 0 false) i, true)
  else (s, false)
def poll (s : St) (g : Nat) (o : Pn.Op) : St :=
  let x := gr s g
  let i := atK x.order x.k
  let k := caseAt o i
  let r := if k.send = true then pollSend s g i k else pollRecv s g i k
  if r.2 = true then r.1
  else if x.k + 1 < x.order.length then next s g 25
  else if o.els = true then fires s g ⟨2, 0, 0, false, 0⟩ (-1)
  else next (withG s g { x with sgs := List.replicate o.cases.length (-1) }) g 28
def pollHand (s : St) (g : Nat) (o : Pn.Op) : St :=
  let x := gr s g
  let i := atK x.order x.k
  let k := caseAt o i
  let s1 := drop s x.hold
  let n := if k.send = true then (withS s1 x.hold { su s1 x.hold with v := k.v }, (⟨1, i, 0, true, 0⟩ : Md.Res)) else ((hand s1 k.ch x.hold).1, { got (hand s1 k.ch x.hold).2 true with cs := i })
  let s2 := serve n.1 g x.hold true
  unlock (withG s2 g { gr s2 g with res := n.2 }) g 30
def sudogs (s : St) (g : Nat) (o : Pn.Op) : St :=
  let x := gr s g
  let i := atK x.order x.k
  let k := caseAt o i
  if (sudog s g).2.2 = true then
    next (withG (withS (sudog s g).1 (sudog s g).2.1 ⟨true, g, k.ch, i, k.send, k.v, false⟩) g { x with sgs := x.sgs.set i.toNat (sudog s g).2.1 }) g 29
  else unlock (withG (sudog s g).1 g { x with res := { x.res with code := 6 } }) g 30
def queues (s : St) (g : Nat) (o : Pn.Op) : St :=
  let x := gr s g
  let i := atK x.order x.k
  let k := caseAt o i
  let c := cn s k.ch
  let s1 := withC s k.ch (if k.send = true then { c with send := c.send ++ [atK x.sgs i] } else { c with recv := c.recv ++ [atK x.sgs i] })
  if x.k + 1 < x.order.length then next s1 g 29
  else unlock (withG s1 g { x with arrive := s1.step }) g 30
def freed (s : St) (g : Nat) : St × Bool :=
  let x := gr s g
  (withG (free s (atK x.locks (x.k - 1))) g { x with k := x.k - 1 }, decide (0 < x.k - 1))
def someGe (l : List Int) : Bool := l.any (fun x => decide (0 ≤ x))
def wake (s : St) (g : Nat) : St :=
  let x := gr s g
  let d := su s x.param
  let r : Md.Res := if d.done = true then { got d.v true with cs := d.cs } else { got 0 false with cs := d.cs }
  let r2 : Md.Res := if d.send = true ∧ d.done = true then { r with v := 0 } else if d.send = true then ⟨3, d.cs, 0, false, 0⟩ else r
  withG s g { x with res := r2, param := -1, k := 0, place := 31 }
def lose (s : St) (g : Nat) : St :=
  let x := gr s g
  let s1 := drop s (atK x.sgs (atK x.order x.k))
  if x.k + 1 < x.order.length then next s1 g 32 else unlock s1 g 33
def frees (s : St) (g : Nat) : St :=
  let x := gr s g
  let i := atK x.order x.k
  let s1 := if 0 ≤ atK x.sgs i then give s g (atK x.sgs i) else s
  if x.k + 1 = x.order.length then wakes (next (withG s1 g { x with sgs := [] }) g 34) g
  else next (withG s1 g { x with sgs := x.sgs.set i.toNat (-1) }) g 34
def chooseStep (s : St) (g : Nat) : St × Bool :=
  let x := gr s g
  let o := op s g
  if o.kind ≠ 9 then (s, false)
  else if x.place = 24 then (lock s g 25, true)
  else if x.place = 25 then (poll s g o, true)
  else if x.place = 26 then (won (win s g 25 27) g, true)
  else if x.place = 27 then (pollHand s g o, true)
  else if x.place = 28 then (sudogs s g o, true)
  else if x.place = 29 then (queues s g o, true)
  else if x.place = 30 then
    (if (freed s g).2 = true then ((freed s g).1, true) else if x.res.code = 0 then (goTo (freed s g).1 g 13, true)
     else if someGe x.sgs = true then (goTo (freed s g).1 g 34, true) else (wakes (freed s g).1 g, true))
  else if x.place = 14 then (wake s g, true)
  else if x.place = 31 then (lock s g 32, true)
  else if x.place = 32 then (lose s g, true)
  else if x.place = 33 then (if (freed s g).2 = true then ((freed s g).1, true) else (goTo (freed s g).1 g 34, true))
  else if x.place = 34 then (frees s g, true)
  else if x.place = 13 ∨ x.place = 17 then common s g
  else (s, false)
/-! ### beginnings and ends -/
def never (s : St) (g : Nat) : St := park (goTo s g 19) g
def draw (l : List Int) (at_ n : Int) : Int × Int := if n < 1 ∨ (l.length : Int) ≤ at_ then (0, at_) else ((atK l at_) % n, at_ + 1)
def drawn : St → Nat → List Int × Int
  | s, 0 => ([], s.drawn)
  | s, n + 1 => ((drawn s n).1 ++ [(draw s.draws (drawn s n).2 (n + 1)).1], (draw s.draws (drawn s n).2 (n + 1)).2)
def swap (l : List Int) (i j : Nat) : List Int := (l.set i (l.getD j 0)).set j (l.getD i 0)
def orderN (ds : List Int) : Nat → List Int
  | 0 => []
  | n + 1 => swap (orderN ds n ++ [(n : Int)]) (ds.getD n 0 % (n + 1)).toNat n
def insert (x : Int) : List Int → List Int
  | [] => [x]
  | y :: l => if y ≤ x then y :: insert x l else x :: y :: l
def sort (l : List Int) : List Int := l.foldl (fun acc x => insert x acc) []
def addLock (acc : List Int) (x : Int) : List Int := if x ≤ 0 ∨ (0 < acc.length ∧ acc.getLastD 0 = x) then acc else acc ++ [x]
def locks (l : List Int) : List Int := (sort l).foldl addLock []
def selects (s : St) (g : Nat) (o : Pn.Op) : St :=
  let n := o.cases.length
  let s1 := { s with drawn := (drawn s n).2 }
  let ord := orderN (drawn s n).1 n
  let good := ord.filter (fun i => made s (caseAt o i).ch)
  let ids := good.map (fun i => (caseAt o i).ch)
  let s2 := withG s1 g { gr s g with order := (gr s g).order ++ good, locks := locks ids, place := 24 }
  if 0 < ids.length then s2 else if o.els = true then pointAt s2 g (res 2) 18 else never s2 g
def begin_ (s : St) (g : Nat) : St :=
  let x := gr s g
  if (x.ops.length : Int) ≤ x.at_ then withG s g { x with status := 2, token := false }
  else
    let s1 := clear s g
    let s2 := withG s1 g { gr s1 g with call := s1.step }
    let o := op s2 g
    let m := made s2 o.ch
    if o.kind = 1 ∨ o.kind = 7 ∨ o.kind = 8 then goTo s2 g 20
    else if o.kind = 2 ∨ o.kind = 3 then (if m = true then goTo s2 g 4 else never s2 g)
    else if o.kind = 4 ∨ o.kind = 5 then (if m = true then goTo s2 g 1 else pointAt s2 g (res 2) 18)
    else if o.kind = 6 then (if m = true then goTo s2 g 4 else pointAt s2 g (res 5) 18)
    else selects s2 g o
def doOp (s : St) (g : Nat) : St :=
  let o := op s g
  if o.kind = 1 ∧ 8 ≤ s.chans.length then pointAt s g (res 7) 18
  else if o.kind = 1 then pointAt { s with chans := s.chans ++ [⟨o.n, [], false, -1, [], []⟩] } g ⟨1, -1, 0, true, s.chans.length + 1⟩ 18
  else if made s o.ch = true ∧ o.kind = 7 then pointAt s g ⟨1, -1, 0, true, (cn s o.ch).buf.length⟩ 18
  else if made s o.ch = true then pointAt s g ⟨1, -1, 0, true, (cn s o.ch).cap⟩ 18
  else pointAt s g ⟨1, -1, 0, true, 0⟩ 18
def mark (s : St) (g : Nat) (re : Int) : Mk :=
  let x := gr s g
  ⟨g, x.at_, x.call, x.arrive, x.point, x.wi, x.fire, re, x.res⟩
def answer (s : St) (g : Nat) : St :=
  let s1 := { s with done := s.done ++ [mark s g s.step] }
  clear (withG s1 g { gr s1 g with at_ := (gr s1 g).at_ + 1, place := 0 }) g
def otherStep (s : St) (g : Nat) : St × Bool :=
  let x := gr s g
  if x.place = 0 then (begin_ s g, true) else if x.place = 20 then (doOp s g, true) else if x.place = 18 then (answer s g, true) else (s, false)
/-! ### runs -/
def running (s : St) : List Int := ((List.range s.gs.length).filter (fun g => decide ((gr s g).status = 0))).map Int.ofNat
def one (s : St) (g : Int) : St × Bool :=
  if g < 0 ∨ (s.gs.length : Int) ≤ g ∨ (gr s g.toNat).status ≠ 0 then (s, false)
  else
    let n := { s with step := s.step + 1 }
    if (otherStep n g.toNat).2 = true then ((otherStep n g.toNat).1, true)
    else if (sendStep n g.toNat).2 = true then ((sendStep n g.toNat).1, true)
    else if (recvStep n g.toNat).2 = true then ((recvStep n g.toNat).1, true)
    else if (shutStep n g.toNat).2 = true then ((shutStep n g.toNat).1, true)
    else if (chooseStep n g.toNat).2 = true then ((chooseStep n g.toNat).1, true)
    else (s, false)
def pick (s : St) (p : Int) : Int := if (running s).length = 0 then -1 else atK (running s) (p % ((running s).length : Int))
def runs (s : St) : List Int → St × Int
  | [] => (s, 0)
  | p :: r => if pick s p < 0 then (s, 0) else ((runs (one s (pick s p)).1 r).1, (runs (one s (pick s p)).1 r).2 + 1)
end Sx
end Go.Proofs.YtbjnbngpjdoejaaDoor
namespace Go.Proofs.YtbjnbngpjdoejaaDoor
open Go.RowKit
set_option linter.unusedVariables false
set_option linter.unusedSimpArgs false
set_option linter.unnecessarySimpa false

namespace Fl
def nI (n : Int) : A := .v (.int .i64 n)
def bI (b : Bool) : A := .v (.bool b)
def ints (l : List Int) : A := .r 1 (l.map fun n => [nI n])
def eCs (c : Pn.Cs) : List A := [bI c.send, nI c.ch, nI c.v]
def eOp (o : Pn.Op) : List A := [nI o.kind, nI o.ch, nI o.n, nI o.v, .r 3 (o.cases.map eCs), bI o.els]
def eRes (r : Md.Res) : List A := [nI r.code, nI r.cs, nI r.v, bI r.ok, nI r.n]
def eG (g : Sx.Gr) : List A :=
  [.r 6 (g.ops.map eOp), nI g.at_, nI g.place, nI g.status, bI g.token, nI g.call, bI g.picked, nI g.param, nI g.mine, nI g.hold, nI g.t, nI g.arrive, nI g.point, nI g.wi, nI g.fire,
   nI g.res.code, nI g.res.cs, nI g.res.v, bI g.res.ok, nI g.res.n, ints g.order, ints g.locks, ints g.sgs, ints g.wakes, nI g.k]
def eC (c : Sx.Cn) : List A := [nI c.cap, ints c.buf, bI c.closed, nI c.lock, ints c.recv, ints c.send]
def eS (s : Sx.Su) : List A := [bI s.live, nI s.g, nI s.ch, nI s.cs, bI s.send, nI s.v, bI s.done]
def eM (m : Sx.Mk) : List A := [nI m.g, nI m.op, nI m.call, nI m.arrive, nI m.point, nI m.wi, nI m.fire, nI m.re, nI m.res.code, nI m.res.cs, nI m.res.v, bI m.res.ok, nI m.res.n]
def eSt (s : Sx.St) : List A :=
  [nI s.sudogN, nI s.cacheN, nI s.step, .r 25 (s.gs.map eG), .r 6 (s.chans.map eC), .r 7 (s.sudogs.map eS), .r 1 (s.cache.map fun l => [ints l]), ints s.middle, nI s.fresh, .r 1 (s.draws.map fun n => [.v (.int .u16 n)]), nI s.drawn, .r 13 (s.done.map eM)]
theorem LeA.snoc {l : List Int} {a : Int} : LeA (.r 1 (([] ++ l.map fun n => [nI n]) ++ [[nI a]])) (ints (l ++ [a])) := by
  have : ([] ++ l.map fun n => [nI n]) ++ [[nI a]] = (l ++ [a]).map fun n => [nI n] := by simp
  rw [this]; exact .refl
theorem LeA.clone {l : List Int} : LeA (.r 1 ([] ++ l.map fun n => [nI n])) (ints l) := by
  rw [List.nil_append]; exact .refl
theorem LeA.tl {l : List Int} {k : Nat} (h : l.length = k) : LeA (.r 1 ([] ++ (((l.map fun n => [nI n]).take k).drop 1))) (ints l.tail) := by
  subst h
  have : ([] ++ (((l.map fun n => [nI n]).take l.length).drop 1)) = l.tail.map fun n => [nI n] := by
    rw [List.take_of_length_le (by simp)]; simp
  rw [this]; exact .refl
end Fl
end Go.Proofs.YtbjnbngpjdoejaaDoor
