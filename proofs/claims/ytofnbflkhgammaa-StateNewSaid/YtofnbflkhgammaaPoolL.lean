/-
  Package pool: its plain laws (what Take and Give do, and what holds of every pool).
  Conditions: none.
-/
import Derived.Test.YtofnbflkhgammaaPoolB
namespace Go.Proofs.Ytofnbflkhgammaa
set_option linter.unusedVariables false
set_option linter.unusedSimpArgs false
set_option linter.unnecessarySimpa false

namespace Po
structure St where
  C : List (List Int)
  M : List Int
  f : Nat
  H : List Bool
def room (most : Nat) : Nat := max 1 (most / 2)
def pulls (most : Nat) (c M : List Int) : Nat := if c = [] then min (room most) M.length else 0
def own (most : Nat) (c M : List Int) : List Int := c ++ M.reverse.take (pulls most c M)
def mid (most : Nat) (c M : List Int) : List Int := M.take (M.length - pulls most c M)
def took (s : St) (g : Nat) (o m : List Int) : St := ⟨s.C.set g o.dropLast, m, s.f, s.H.set (o.getLastD 0).toNat false⟩
def take (size most : Nat) (s : St) (g : Int) : St × Int × Bool :=
  if taker s.C g then
    if own most (s.C.getD g.toNat []) s.M = [] then (if s.f < size then (⟨s.C, s.M, s.f + 1, s.H⟩, (s.f : Int), true) else (s, 0, false))
    else (took s g.toNat (own most (s.C.getD g.toNat []) s.M) (mid most (s.C.getD g.toNat []) s.M), (own most (s.C.getD g.toNat []) s.M).getLastD 0, true)
  else (s, 0, false)
def puts (most : Nat) (c : List Int) : Nat := if c.length = most then c.length - most / 2 else 0
def gave (most : Nat) (s : St) (g : Nat) (c : List Int) (x : Int) : St := ⟨s.C.set g (c.take (c.length - puts most c) ++ [x]), s.M ++ c.reverse.take (puts most c), s.f, s.H.set x.toNat true⟩
def give (most : Nat) (s : St) (g x : Int) : St × Bool :=
  if taker s.C g && live s.f s.H x then (gave most s g.toNat (s.C.getD g.toNat []) x, true) else (s, false)

/-- how often a thing is kept -/
def cnt (s : St) (a : Int) : Nat := s.M.count a + s.C.flatten.count a
structure Inv (size most : Nat) (s : St) : Prop where
  m1 : 1 ≤ most
  m2 : most ≤ 16
  s1 : size ≤ 64
  hl : s.H.length = size
  fl : s.f ≤ size
  one : ∀ a, cnt s a ≤ 1
  bound : ∀ a, 1 ≤ cnt s a → 0 ≤ a ∧ a < s.f
  home : ∀ x : Nat, x < size → s.H.getD x false = decide (1 ≤ cnt s (x : Int))
  caches : ∀ c ∈ s.C, c.length ≤ most

theorem count_set {α : Type} [BEq α] [LawfulBEq α] (a : α) : ∀ (C : List (List α)) (g : Nat) (c c' : List α), C[g]? = some c → (C.set g c').flatten.count a + c.count a = C.flatten.count a + c'.count a
  | [], g, c, c', h => by simp at h
  | y :: r, 0, c, c', h => by
    simp at h; subst h
    simp [List.count_append]; omega
  | y :: r, g + 1, c, c', h => by
    have := count_set a r g c c' (by simpa using h)
    simp [List.count_append]; omega
theorem count_take_drop {α : Type} [BEq α] [LawfulBEq α] (a : α) (l : List α) (k : Nat) : (l.take k).count a + (l.drop k).count a = l.count a := by
  rw [← List.count_append, List.take_append_drop]
theorem rev_take (M : List Int) (n : Nat) : M.reverse.take n = (M.drop (M.length - n)).reverse := by
  rw [List.take_reverse]
theorem count_own (most : Nat) (c M : List Int) (a : Int) : (own most c M).count a + (mid most c M).count a = c.count a + M.count a := by
  unfold own mid
  rw [rev_take, List.count_append, List.count_reverse]
  have := count_take_drop a M (M.length - pulls most c M)
  omega
theorem own_nil {most : Nat} (h1 : 1 ≤ most) {c M : List Int} (h : own most c M = []) : c = [] ∧ M = [] := by
  unfold own pulls room at h
  simp only [List.append_eq_nil_iff] at h
  obtain ⟨rfl, h⟩ := h
  refine ⟨rfl, ?_⟩
  rw [if_pos rfl] at h
  cases M with
  | nil => rfl
  | cons x r =>
    have := congrArg List.length h
    simp at this
theorem mem_cnt {s : St} {a : Int} : 1 ≤ cnt s a ↔ a ∈ s.M ∨ ∃ c ∈ s.C, a ∈ c := by
  unfold cnt
  constructor
  · intro h
    have h2 : 0 < s.M.count a ∨ 0 < s.C.flatten.count a := by omega
    rcases h2 with h2 | h2
    · exact .inl (List.count_pos_iff.1 h2)
    · right
      have := List.count_pos_iff.1 h2
      simpa using this
  · rintro (h | ⟨c, hc, h⟩)
    · have := List.count_pos_iff.2 h; omega
    · have : 0 < s.C.flatten.count a := List.count_pos_iff.2 (List.mem_flatten.2 ⟨c, hc, h⟩)
      omega
theorem last_mem {o : List Int} (h : o ≠ []) : o = o.dropLast ++ [o.getLastD 0] := by
  have := List.dropLast_concat_getLast h
  rw [List.getLastD_eq_getLast?, List.getLast?_eq_some_getLast h]
  exact this.symm
theorem getD_set {α : Type} (l : List α) (i j : Nat) (t d : α) (h : i < l.length) : (l.set i t).getD j d = if i = j then t else l.getD j d := by
  by_cases e : i = j
  · subst e; simp [h]
  · simp [List.getD, e]
theorem Inv.last {size most : Nat} {s : St} (v : Inv size most s) {g : Nat} {c : List Int} (hg : s.C[g]? = some c) {o : List Int} (ho : o = own most c s.M) (h0 : o ≠ []) :
    0 ≤ o.getLastD 0 ∧ o.getLastD 0 < s.f := by
  have hm : o.getLastD 0 ∈ o := by
    have := last_mem h0
    generalize o.getLastD 0 = x at *
    rw [this]; simp
  apply v.bound
  apply mem_cnt.2
  generalize o.getLastD 0 = x at *
  rw [ho] at hm
  unfold own at hm
  rcases List.mem_append.1 hm with h | h
  · exact .inr ⟨c, List.mem_of_getElem? hg, h⟩
  · left
    have := List.mem_of_mem_take h
    simpa using this
theorem Inv.len {size most : Nat} {s : St} (v : Inv size most s) {c : List Int} (hc : c ∈ s.C) : c.length ≤ most := v.caches c hc
theorem own_len {most : Nat} (h1 : 1 ≤ most) {c M : List Int} (hc : c.length ≤ most) : (own most c M).length ≤ most := by
  unfold own pulls room
  by_cases h : c = []
  · subst h; simp; omega
  · simp [h]; exact hc
def ind (x a : Int) : Nat := if x = a then 1 else 0
theorem count_last {o : List Int} (h : o ≠ []) (a : Int) : o.count a = o.dropLast.count a + ind (o.getLastD 0) a := by
  conv => lhs; rw [last_mem h]
  rw [List.count_append, List.count_singleton]
  unfold ind
  by_cases e : o.getLastD 0 = a <;> simp [e]
theorem cnt_took {size most : Nat} {s : St} {g : Nat} {c : List Int} (hg : s.C[g]? = some c) (h0 : own most c s.M ≠ []) (a : Int) :
    cnt (took s g (own most c s.M) (mid most c s.M)) a + ind ((own most c s.M).getLastD 0) a = cnt s a := by
  have e1 := count_set a s.C g c (own most c s.M).dropLast hg
  have e2 := count_own most c s.M a
  have e3 := count_last h0 a
  show (mid most c s.M).count a + (s.C.set g (own most c s.M).dropLast).flatten.count a + _ = s.M.count a + s.C.flatten.count a
  omega
theorem mem_set {α : Type} {l : List α} {g : Nat} {c x : α} (h : x ∈ l.set g c) : x ∈ l ∨ x = c := List.mem_or_eq_of_mem_set h
theorem Inv.took {size most : Nat} {s : St} (v : Inv size most s) {g : Nat} {c : List Int} (hg : s.C[g]? = some c) (h0 : own most c s.M ≠ []) :
    Inv size most (took s g (own most c s.M) (mid most c s.M)) := by
  have hb := v.last hg rfl h0
  have hcn := cnt_took (size := size) hg h0
  have hcc := own_len v.m1 (M := s.M) (v.caches c (List.mem_of_getElem? hg))
  have hin : cnt s ((own most c s.M).getLastD 0) ≤ 1 := v.one _
  refine ⟨v.m1, v.m2, v.s1, by simpa [Po.took] using v.hl, v.fl, fun a => by have := hcn a; have := v.one a; omega, fun a ha => v.bound a (by have := hcn a; omega), ?_, ?_⟩
  · intro x hx
    have hx1 := hcn (x : Int)
    have hx2 := v.one (x : Int)
    have hx3 := v.home x hx
    have hfl := v.fl
    have hxl := hcn ((own most c s.M).getLastD 0)
    show (s.H.set ((own most c s.M).getLastD 0).toNat false).getD x false = _
    rw [getD_set _ _ _ _ _ (by rw [v.hl]; omega)]
    unfold ind at hx1 hxl
    rw [if_pos rfl] at hxl
    by_cases e : ((own most c s.M).getLastD 0).toNat = x
    · rw [if_pos e]
      have e2 : (own most c s.M).getLastD 0 = (x : Int) := by omega
      rw [if_pos e2] at hx1
      simp; omega
    · rw [if_neg e]
      have e2 : (own most c s.M).getLastD 0 ≠ (x : Int) := by omega
      rw [if_neg e2] at hx1
      rw [hx3]
      simp only [decide_eq_decide]; omega
  · intro d hd
    rcases mem_set hd with h | rfl
    · exact v.caches d h
    · simp; omega
theorem Inv.fresh {size most : Nat} {s : St} (v : Inv size most s) (h : s.f < size) : Inv size most ⟨s.C, s.M, s.f + 1, s.H⟩ :=
  ⟨v.m1, v.m2, v.s1, v.hl, h, v.one, fun a ha => by have := v.bound a ha; exact ⟨this.1, by simp; omega⟩, v.home, v.caches⟩
theorem cnt_gave {most : Nat} {s : St} {g : Nat} {c : List Int} (hg : s.C[g]? = some c) (x a : Int) : cnt (gave most s g c x) a = cnt s a + ind x a := by
  have e1 := count_set a s.C g c (c.take (c.length - puts most c) ++ [x]) hg
  have e2 := count_take_drop a c (c.length - puts most c)
  have e3 : [x].count a = ind x a := by unfold ind; rw [List.count_singleton]; by_cases e : x = a <;> simp [e]
  show (s.M ++ c.reverse.take (puts most c)).count a + (s.C.set g (c.take (c.length - puts most c) ++ [x])).flatten.count a = s.M.count a + s.C.flatten.count a + _
  rw [List.count_append, rev_take, List.count_reverse]
  rw [List.count_append, e3] at e1
  omega
theorem Inv.live {size most : Nat} {s : St} (v : Inv size most s) (x : Int) : live s.f s.H x = (decide (0 ≤ x) && decide (x < s.f) && decide (cnt s x = 0)) := by
  unfold Po.live
  by_cases h1 : 0 ≤ x
  · by_cases h2 : x < s.f
    · have := v.home x.toNat (by have := v.fl; omega)
      rw [this, Int.toNat_of_nonneg h1]
      simp only [h1, h2, decide_true, Bool.true_and]
      rw [Bool.eq_iff_iff]
      simp
    · simp [h2]
  · simp [h1]
theorem Inv.gave {size most : Nat} {s : St} (v : Inv size most s) {g : Nat} {c : List Int} (hg : s.C[g]? = some c) {x : Int} (hx : Po.live s.f s.H x = true) :
    Inv size most (gave most s g c x) := by
  rw [v.live] at hx
  simp only [Bool.and_eq_true, decide_eq_true_eq] at hx
  obtain ⟨⟨hx0, hx1⟩, hx2⟩ := hx
  have hcn := cnt_gave (most := most) hg x
  have hcl := v.caches c (List.mem_of_getElem? hg)
  refine ⟨v.m1, v.m2, v.s1, by simpa [Po.gave] using v.hl, v.fl, ?_, ?_, ?_, ?_⟩
  · intro a
    rw [hcn]
    have := v.one a
    unfold ind
    split
    · rename_i e; subst e; omega
    · omega
  · intro a ha
    rw [hcn] at ha
    unfold ind at ha
    split at ha
    · rename_i e; subst e; exact ⟨hx0, hx1⟩
    · exact v.bound a (by omega)
  · intro y hy
    rw [hcn]
    have hfl := v.fl
    show (s.H.set x.toNat true).getD y false = _
    rw [getD_set _ _ _ _ _ (by rw [v.hl]; omega), v.home y hy]
    unfold ind
    by_cases e : x.toNat = y
    · rw [if_pos e, if_pos (show x = (y : Int) by omega)]; simp
    · rw [if_neg e, if_neg (show x ≠ (y : Int) by omega)]; simp
  · intro d hd
    rcases mem_set hd with h | rfl
    · exact v.caches d h
    · have := v.m1
      simp only [List.length_append, List.length_take, List.length_singleton]
      unfold puts
      split <;> omega
theorem Inv.take {size most : Nat} {s : St} (v : Inv size most s) (g : Int) : Inv size most (take size most s g).1 := by
  unfold Po.take
  split
  · rename_i ht
    simp only [taker, Bool.and_eq_true, decide_eq_true_eq] at ht
    have hg : s.C[g.toNat]? = some (s.C.getD g.toNat []) := by
      rw [List.getD_eq_getElem?_getD, List.getElem?_eq_getElem (by omega)]; simp
    split
    · split
      · rename_i h; exact v.fresh h
      · exact v
    · rename_i h; exact v.took hg h
  · exact v
theorem Inv.give {size most : Nat} {s : St} (v : Inv size most s) (g x : Int) : Inv size most (give most s g x).1 := by
  unfold Po.give
  split
  · rename_i ht
    simp only [taker, Bool.and_eq_true, decide_eq_true_eq] at ht
    have hg : s.C[g.toNat]? = some (s.C.getD g.toNat []) := by
      rw [List.getD_eq_getElem?_getD, List.getElem?_eq_getElem (by omega)]; simp
    exact v.gave hg ht.2
  · exact v

def sumc (L : List Int) : Nat → Nat
  | 0 => 0
  | k + 1 => sumc L k + L.count (k : Int)
theorem sumc_nil (k : Nat) : sumc [] k = 0 := by induction k with
  | zero => rfl
  | succ k ih => simp [sumc, ih]
theorem sumc_cons (y : Int) (r : List Int) (k : Nat) : sumc (y :: r) k = sumc r k + if 0 ≤ y ∧ y < k then 1 else 0 := by
  induction k with
  | zero =>
    rw [if_neg (by omega)]; rfl
  | succ k ih =>
    have e1 : sumc (y :: r) (k + 1) = sumc (y :: r) k + (y :: r).count (k : Int) := rfl
    have e2 : sumc r (k + 1) = sumc r k + r.count (k : Int) := rfl
    rw [e1, e2, ih, List.count_cons]
    by_cases e : y = (k : Int)
    · rw [if_neg (by omega), if_pos (by simpa using e), if_pos (by omega)]; omega
    · have e3 : (y == (k : Int)) = false := by simpa using e
      rw [e3, if_neg (show ¬ (false = true) by decide)]
      by_cases h : 0 ≤ y ∧ y < k
      · rw [if_pos h, if_pos (by omega)]; omega
      · rw [if_neg h, if_neg (by omega)]; omega
theorem sumc_all (L : List Int) (k : Nat) (h : ∀ a ∈ L, 0 ≤ a ∧ a < k) : sumc L k = L.length := by
  induction L with
  | nil => exact sumc_nil k
  | cons y r ih =>
    rw [sumc_cons, ih (fun a ha => h a (by simp [ha])), if_pos (h y (by simp))]; simp
theorem outs_sum (H : List Bool) (L : List Int) (hone : ∀ a, L.count a ≤ 1) (k : Nat) (hk : k ≤ H.length) (hH : ∀ x : Nat, x < k → H.getD x false = decide (1 ≤ L.count (x : Int))) : outs H k + sumc L k = k := by
  induction k with
  | zero => simp [outs, sumc]
  | succ k ih =>
    have hx : H[k]? = some (H.getD k false) := by rw [List.getD_eq_getElem?_getD, List.getElem?_eq_getElem (by omega)]; simp
    rw [outs_succ H k _ hx, hH k (by omega), sumc]
    have := ih (by omega) (fun x hx => hH x (by omega))
    have := hone (k : Int)
    by_cases e : 1 ≤ L.count (k : Int)
    · simp [e]; omega
    · simp [e]; omega
theorem Inv.outs {size most : Nat} {s : St} (v : Inv size most s) : outs s.H s.f + (s.M.length + s.C.flatten.length) = s.f := by
  have hc : ∀ a, (s.M ++ s.C.flatten).count a = cnt s a := fun a => by rw [List.count_append]; rfl
  have h1 := outs_sum s.H (s.M ++ s.C.flatten) (fun a => by rw [hc]; exact v.one a) s.f (by rw [v.hl]; exact v.fl) (fun x hx => by rw [hc]; exact v.home x (by have := v.fl; omega))
  have h2 := sumc_all (s.M ++ s.C.flatten) s.f (fun a ha => v.bound a (by rw [← hc]; exact List.count_pos_iff.2 ha))
  rw [h2, List.length_append] at h1
  exact h1
theorem Inv.lens {size most : Nat} {s : St} (v : Inv size most s) : s.M.length ≤ 64 ∧ s.C.flatten.length ≤ 64 := by
  have := v.outs; have := v.fl; have := v.s1; omega
end Po
end Go.Proofs.Ytofnbflkhgammaa
