/-
  Package queue: its plain laws: what is kept of each thing and of each line, as functions of the rows.
  Conditions: none.
-/
import Derived.Test.YtofnbflkhgammaaCore
namespace Go.Proofs.Ytofnbflkhgammaa
set_option linter.unusedVariables false
set_option linter.unusedSimpArgs false
set_option linter.unnecessarySimpa false

namespace Qu
/-- the one behind x -/
def nxt : List Int → Int → Int
  | [], _ => -1
  | a :: l, x => if a = x then l.headD (-1) else nxt l x
/-- the one ahead of x; p: ahead of the row -/
def prvA : Int → List Int → Int → Int
  | _, [], _ => -1
  | p, a :: l, x => if a = x then p else prvA a l x
def prv (l : List Int) (x : Int) : Int := prvA (-1) l x
def loc : List (List Int) → Int → Option Nat
  | [], _ => none
  | l :: r, x => if x ∈ l then some 0 else (loc r x).map (· + 1)
def tc (R : List (List Int)) (x : Int) : Int × Int × Int :=
  match loc R x with
  | some k => (k, nxt (R.getD k []) x, prv (R.getD k []) x)
  | none => (-1, -1, -1)
def th (n : Nat) (R : List (List Int)) : List (Int × Int × Int) := (List.range n).map fun (x : Nat) => tc R (x : Int)
def lc (l : List Int) : Int × Int × Int := (l.headD (-1), l.getLastD (-1), (l.length : Int))
def ln (R : List (List Int)) : List (Int × Int × Int) := R.map lc
structure Inv (n : Nat) (R : List (List Int)) : Prop where
  n64 : n ≤ 64
  r64 : R.length ≤ 64
  one : ∀ a, R.flatten.count a ≤ 1
  bound : ∀ a, a ∈ R.flatten → 0 ≤ a ∧ a < n

theorem nxt_left {a b : List Int} {y : Int} (h : y ∈ a) (hd : a.count y ≤ 1) : nxt (a ++ b) y = if a.getLastD (-1) = y then b.headD (-1) else nxt a y := by
  induction a with
  | nil => simp at h
  | cons z r ih =>
    by_cases e : z = y
    · subst e
      rw [List.count_cons_self] at hd
      have hr : z ∉ r := fun hm => by have := List.count_pos_iff.2 hm; omega
      cases r with
      | nil => simp [nxt]
      | cons u s =>
        have hl : (z :: u :: s).getLastD (-1) ≠ z := by
          rw [List.getLastD_eq_getLast?, List.getLast?_cons_cons]
          intro hc
          apply hr
          rw [← hc, List.getLast?_eq_some_getLast (by simp)]
          exact List.getLast_mem _
        rw [if_neg hl]
        simp [nxt]
    · have hm : y ∈ r := by
        rcases List.mem_cons.1 h with h | h
        · exact absurd h.symm e
        · exact h
      rw [List.count_cons_of_ne (by simpa using e)] at hd
      have := ih hm hd
      cases r with
      | nil => simp at hm
      | cons u s =>
        rw [List.cons_append, nxt, if_neg e, this]
        rw [show (z :: u :: s).getLastD (-1) = (u :: s).getLastD (-1) by simp [List.getLastD_eq_getLast?]]
        rw [show nxt (z :: u :: s) y = nxt (u :: s) y by rw [nxt, if_neg e]]
theorem nxt_right {a b : List Int} {y : Int} (h : y ∉ a) : nxt (a ++ b) y = nxt b y := by
  induction a with
  | nil => rfl
  | cons z r ih =>
    simp only [List.mem_cons, not_or] at h
    rw [List.cons_append, nxt, if_neg (fun e => h.1 e.symm), ih h.2]
theorem prvA_left {a b : List Int} {y : Int} (h : y ∈ a) : ∀ p, prvA p (a ++ b) y = prvA p a y := by
  induction a with
  | nil => simp at h
  | cons z r ih =>
    intro p
    rw [List.cons_append, prvA, prvA]
    by_cases e : z = y
    · rw [if_pos e, if_pos e]
    · rw [if_neg e, if_neg e]
      rcases List.mem_cons.1 h with h | h
      · exact absurd h.symm e
      · exact ih h z
theorem prv_left {a b : List Int} {y : Int} (h : y ∈ a) : prv (a ++ b) y = prv a y := prvA_left h (-1)
theorem prvA_right {a b : List Int} {y : Int} (h : y ∉ a) : ∀ p, prvA p (a ++ b) y = prvA (a.getLastD p) b y := by
  induction a with
  | nil => intro p; rfl
  | cons z r ih =>
    intro p
    simp only [List.mem_cons, not_or] at h
    rw [List.cons_append, prvA, if_neg (fun e => h.1 e.symm), ih h.2, List.getLastD_cons]
theorem prvA_head {b : List Int} {y p q : Int} (h : y ∈ b) : prvA p b y = if b.headD (-1) = y then p else prvA q b y := by
  cases b with
  | nil => simp at h
  | cons z r =>
    show prvA p (z :: r) y = if z = y then p else prvA q (z :: r) y
    rw [prvA, prvA]
    by_cases e : z = y
    · rw [if_pos e, if_pos e]
    · rw [if_neg e, if_neg e, if_neg e]

theorem loc_some {R : List (List Int)} {x : Int} {k : Nat} (h : loc R x = some k) : k < R.length ∧ x ∈ R.getD k [] := by
  induction R generalizing k with
  | nil => simp [loc] at h
  | cons l r ih =>
    rw [loc] at h
    split at h
    · rename_i hm
      obtain rfl := Option.some.inj h
      exact ⟨by simp, by simpa using hm⟩
    · obtain ⟨j, hj, rfl⟩ := Option.map_eq_some_iff.1 h
      have := ih hj
      exact ⟨by simp; omega, by simpa using this.2⟩
theorem loc_none {R : List (List Int)} {x : Int} : loc R x = none ↔ x ∉ R.flatten := by
  induction R with
  | nil => simp [loc]
  | cons l r ih =>
    rw [loc]
    by_cases h : x ∈ l
    · rw [if_pos h]; simp [h]
    · rw [if_neg h]
      simp only [Option.map_eq_none_iff, List.flatten_cons, List.mem_append, h, false_or]
      exact ih
theorem loc_uniq {R : List (List Int)} {x : Int} (h1 : R.flatten.count x ≤ 1) {k : Nat} (hk : k < R.length) (hx : x ∈ R.getD k []) : loc R x = some k := by
  induction R generalizing k with
  | nil => simp at hk
  | cons l r ih =>
    rw [loc]
    rw [List.flatten_cons, List.count_append] at h1
    cases k with
    | zero => rw [if_pos (by simpa using hx)]
    | succ k =>
      have hx' : x ∈ r.getD k [] := by simpa using hx
      have hk' : k < r.length := by simpa using hk
      have hf : x ∈ r.flatten := by
        rw [List.getD_eq_getElem?_getD, List.getElem?_eq_getElem hk'] at hx'
        exact List.mem_flatten.2 ⟨r[k], List.getElem_mem hk', by simpa using hx'⟩
      have h2 := List.count_pos_iff.2 hf
      have hl : x ∉ l := fun h => by have := List.count_pos_iff.2 h; omega
      rw [if_neg hl, ih (by omega) hk' hx']; rfl
theorem count_set (a : Int) : ∀ (C : List (List Int)) (g : Nat) (c c' : List Int), C[g]? = some c → (C.set g c').flatten.count a + c.count a = C.flatten.count a + c'.count a
  | [], g, c, c', h => by simp at h
  | y :: r, 0, c, c', h => by
    simp at h; subst h
    simp [List.count_append]; omega
  | y :: r, g + 1, c, c', h => by
    have := count_set a r g c c' (by simpa using h)
    simp [List.count_append]; omega
theorem getD_some {R : List (List Int)} {k : Nat} (h : k < R.length) : R[k]? = some (R.getD k []) := by
  rw [List.getD_eq_getElem?_getD, List.getElem?_eq_getElem h]; rfl
theorem count_le {R : List (List Int)} {k : Nat} (h : k < R.length) (a : Int) : (R.getD k []).count a ≤ R.flatten.count a := by
  have := count_set a R k _ [] (getD_some h)
  simp at this ⊢; omega
theorem getD_set {R : List (List Int)} {k j : Nat} {l : List Int} (h : k < R.length) : (R.set k l).getD j [] = if k = j then l else R.getD j [] := by
  by_cases e : k = j
  · subst e; simp [h]
  · simp [List.getD, e]
/-- another row at k -/
theorem loc_set {n : Nat} {R : List (List Int)} {k : Nat} {l' : List Int} (v : Inv n R) (v' : Inv n (R.set k l')) (hk : k < R.length) (y : Int) :
    loc (R.set k l') y = if y ∈ l' then some k else if loc R y = some k then none else loc R y := by
  by_cases h : y ∈ l'
  · rw [if_pos h]
    exact loc_uniq (v'.one y) (by simpa using hk) (by rw [getD_set hk, if_pos rfl]; exact h)
  · rw [if_neg h]
    cases hl : loc (R.set k l') y with
    | none =>
      split
      · rfl
      · rename_i h2
        have hf := loc_none.1 hl
        cases hr : loc R y with
        | none => rfl
        | some j =>
          obtain ⟨hj, hjm⟩ := loc_some hr
          have hkj : k ≠ j := fun e => h2 (by rw [hr, e])
          exact absurd (List.mem_flatten.2 ⟨R.getD j [], List.mem_of_getElem? (i := j) (by rw [List.getElem?_set_ne hkj]; exact getD_some hj), hjm⟩) hf
    | some j =>
      obtain ⟨hj, hjm⟩ := loc_some hl
      rw [getD_set hk] at hjm
      split at hjm
      · exact absurd hjm h
      · rename_i hkj
        have hj2 : j < R.length := by simpa using hj
        have := loc_uniq (v.one y) hj2 hjm
        rw [this, if_neg (by simpa using fun e => hkj e.symm)]

theorem th_len (n : Nat) (R : List (List Int)) : (th n R).length = n := by simp [th]
theorem th_get {n : Nat} {R : List (List Int)} {x : Nat} (h : x < n) : (th n R)[x]? = some (tc R (x : Int)) := by simp [th, h]
theorem th_ext {n : Nat} {R : List (List Int)} {l : List (Int × Int × Int)} (hl : l.length = n) (h : ∀ x : Nat, x < n → l[x]? = some (tc R (x : Int))) : l = th n R := by
  apply List.ext_getElem?
  intro i
  by_cases hi : i < n
  · rw [h i hi, th_get hi]
  · rw [List.getElem?_eq_none (by omega), List.getElem?_eq_none (by rw [th_len]; omega)]
theorem ln_set (R : List (List Int)) (k : Nat) (l : List Int) : ln (R.set k l) = (ln R).set k (lc l) := by simp [ln, List.map_set]
theorem ln_get {R : List (List Int)} {k : Nat} (h : k < R.length) : (ln R)[k]? = some (lc (R.getD k [])) := by
  simp only [ln, List.getElem?_map, getD_some h, Option.map_some]

theorem tc_of {n : Nat} {R : List (List Int)} (v : Inv n R) {k : Nat} (hk : k < R.length) {y : Int} (hy : y ∈ R.getD k []) : tc R y = ((k : Int), nxt (R.getD k []) y, prv (R.getD k []) y) := by
  unfold tc; rw [loc_uniq (v.one y) hk hy]
theorem tc_none {R : List (List Int)} {y : Int} (h : loc R y = none) : tc R y = (-1, -1, -1) := by unfold tc; rw [h]
theorem tc_set_other {n : Nat} {R : List (List Int)} {k : Nat} {l' : List Int} (v : Inv n R) (v' : Inv n (R.set k l')) (hk : k < R.length) {y : Int} (h1 : y ∉ l') (h2 : y ∉ R.getD k []) : tc (R.set k l') y = tc R y := by
  have h := loc_set v v' hk y
  rw [if_neg h1] at h
  have h3 : loc R y ≠ some k := fun e => h2 (loc_some e).2
  rw [if_neg h3] at h
  unfold tc
  rw [h]
  cases hl : loc R y with
  | none => rfl
  | some j =>
    have hj : k ≠ j := fun e => h3 (by rw [hl, e])
    simp only [getD_set hk, if_neg hj]
theorem tc_set_in {n : Nat} {R : List (List Int)} {k : Nat} {l' : List Int} (v : Inv n R) (v' : Inv n (R.set k l')) (hk : k < R.length) {y : Int} (h1 : y ∈ l') : tc (R.set k l') y = ((k : Int), nxt l' y, prv l' y) := by
  have := tc_of v' (k := k) (by simpa using hk) (y := y) (by rw [getD_set hk, if_pos rfl]; exact h1)
  rwa [getD_set hk, if_pos rfl] at this
theorem tc_set_gone {n : Nat} {R : List (List Int)} {k : Nat} {l' : List Int} (v : Inv n R) (v' : Inv n (R.set k l')) (hk : k < R.length) {y : Int} (h1 : y ∉ l') (h2 : y ∈ R.getD k []) : tc (R.set k l') y = (-1, -1, -1) := by
  have h := loc_set v v' hk y
  rw [if_neg h1, if_pos (loc_uniq (v.one y) hk h2)] at h
  exact tc_none h

theorem mem_flat {R : List (List Int)} {k : Nat} (hk : k < R.length) {y : Int} (hy : y ∈ R.getD k []) : y ∈ R.flatten :=
  List.mem_flatten.2 ⟨_, List.mem_of_getElem? (getD_some hk), hy⟩
theorem push_inv {n : Nat} {R : List (List Int)} {k : Nat} {x : Int} (v : Inv n R) (hk : k < R.length) (h0 : 0 ≤ x) (h1 : x < n) (hx : loc R x = none) : Inv n (R.set k (R.getD k [] ++ [x])) := by
  have hf := loc_none.1 hx
  refine ⟨v.n64, by simpa using v.r64, fun a => ?_, fun a ha => ?_⟩
  · have h := count_set a R k _ (R.getD k [] ++ [x]) (getD_some hk)
    have h2 := v.one a
    rw [List.count_append, List.count_singleton] at h
    by_cases e : x = a
    · subst e
      have : R.flatten.count x = 0 := List.count_eq_zero.2 hf
      simp at h; simp; omega
    · simp [e] at h; simp; omega
  · have h := count_set a R k _ (R.getD k [] ++ [x]) (getD_some hk)
    have h2 := List.count_pos_iff.2 ha
    rw [List.count_append, List.count_singleton] at h
    by_cases e : x = a
    · subst e; exact ⟨h0, h1⟩
    · have e2 : (x == a) = false := by simpa using e
      rw [e2] at h
      apply v.bound
      apply List.count_pos_iff.1
      simp only [Bool.false_eq_true, if_false] at h
      omega
theorem push_th {n : Nat} {R : List (List Int)} {k : Nat} {x : Int} (v : Inv n R) (hk : k < R.length) (h0 : 0 ≤ x) (h1 : x < n) (hx : loc R x = none) :
    th n (R.set k (R.getD k [] ++ [x])) = if R.getD k [] = [] then (th n R).set x.toNat ((k : Int), -1, -1)
      else ((th n R).set x.toNat ((k : Int), -1, (R.getD k []).getLastD (-1))).set ((R.getD k []).getLastD (-1)).toNat ((k : Int), x, prv (R.getD k []) ((R.getD k []).getLastD (-1))) := by
  have v' := push_inv v hk h0 h1 hx
  have hf := loc_none.1 hx
  have hxl : x ∉ R.getD k [] := fun h => hf (mem_flat hk h)
  have ho := v.one
  have hb := v.bound
  have hcl := fun a => count_le hk (R := R) a
  have hmf := fun a => mem_flat hk (R := R) (y := a)
  have hin := fun y => tc_set_in v v' hk (y := y)
  have hot := fun y => tc_set_other v v' hk (y := y)
  have hof := fun y => tc_of v hk (y := y)
  generalize R.getD k [] = l at *
  symm
  have hxx : tc (R.set k (l ++ [x])) x = ((k : Int), -1, l.getLastD (-1)) := by
    rw [hin x (by simp), nxt_right hxl, prv, prvA_right hxl]
    simp [nxt, prvA]
  split
  · rename_i hl
    subst hl
    refine th_ext (by simp [th_len]) (fun y hy => ?_)
    by_cases e : x.toNat = y
    · have : (y : Int) = x := by omega
      rw [e, List.getElem?_set_self (by rw [th_len]; exact hy), this, hxx]; rfl
    · rw [List.getElem?_set_ne e, th_get hy]
      rw [hot (y : Int) (by simp; omega) (by simp)]
  · rename_i hl
    have hlm : l.getLastD (-1) ∈ l := by
      rw [List.getLastD_eq_getLast?, List.getLast?_eq_some_getLast hl]; exact List.getLast_mem hl
    have hlb := hb _ (hmf _ hlm)
    have hlx : l.getLastD (-1) ≠ x := fun e => hxl (e ▸ hlm)
    refine th_ext (by simp [th_len]) (fun y hy => ?_)
    by_cases e1 : (l.getLastD (-1)).toNat = y
    · have ey : (y : Int) = l.getLastD (-1) := by omega
      rw [e1, List.getElem?_set_self (by simp [th_len]; exact hy), ey, hin _ (List.mem_append_left _ hlm)]
      rw [nxt_left hlm (by have := hcl (l.getLastD (-1)); have := ho (l.getLastD (-1)); omega), if_pos rfl, prv_left hlm]
      rfl
    · rw [List.getElem?_set_ne e1]
      by_cases e : x.toNat = y
      · have : (y : Int) = x := by omega
        rw [e, List.getElem?_set_self (by rw [th_len]; exact hy), this, hxx]
      · rw [List.getElem?_set_ne e, th_get hy]
        by_cases hm : (y : Int) ∈ l
        · rw [hin _ (by simp [hm]), hof _ hm, nxt_left hm (by have := hcl (y : Int); have := ho (y : Int); omega), if_neg (by omega), prv_left hm]
        · rw [hot (y : Int) (by simp [hm]; omega) hm]

theorem split_at {l : List Int} {x : Int} (h : x ∈ l) : ∃ a b, l = a ++ x :: b ∧ x ∉ a := by
  induction l with
  | nil => simp at h
  | cons z r ih =>
    by_cases e : z = x
    · exact ⟨[], r, by simp [e], by simp⟩
    · rcases List.mem_cons.1 h with h | h
      · exact absurd h.symm e
      · obtain ⟨a, b, rfl, hn⟩ := ih h
        exact ⟨z :: a, b, rfl, by simp [hn]; exact fun h => e h.symm⟩
theorem drop_inv {n : Nat} {R : List (List Int)} {k : Nat} {x : Int} {a b : List Int} (v : Inv n R) (hk : k < R.length) (hl : R.getD k [] = a ++ x :: b) : Inv n (R.set k (a ++ b)) := by
  refine ⟨v.n64, by simpa using v.r64, fun y => ?_, fun y hy => ?_⟩
  · have h := count_set y R k _ (a ++ b) (getD_some hk)
    have := v.one y
    rw [hl, List.count_append, List.count_append, List.count_cons] at h
    omega
  · have h := count_set y R k _ (a ++ b) (getD_some hk)
    have h2 := List.count_pos_iff.2 hy
    rw [hl, List.count_append, List.count_append, List.count_cons] at h
    exact v.bound y (List.count_pos_iff.1 (by omega))
theorem drop_th {n : Nat} {R : List (List Int)} {k : Nat} {x : Int} {a b : List Int} (v : Inv n R) (hk : k < R.length) (hl : R.getD k [] = a ++ x :: b) :
    th n (R.set k (a ++ b)) =
      ((if b = [] then (if a = [] then th n R else (th n R).set (a.getLastD (-1)).toNat ((k : Int), b.headD (-1), prv a (a.getLastD (-1))))
        else (if a = [] then th n R else (th n R).set (a.getLastD (-1)).toNat ((k : Int), b.headD (-1), prv a (a.getLastD (-1)))).set (b.headD (-1)).toNat ((k : Int), nxt b (b.headD (-1)), a.getLastD (-1))).set x.toNat (-1, -1, -1)) := by
  have v' := drop_inv v hk hl
  have ho : ∀ y, (a ++ x :: b).count y ≤ 1 := fun y => by rw [← hl]; exact Nat.le_trans (count_le hk y) (v.one y)
  have hb : ∀ y, y ∈ a ++ x :: b → 0 ≤ y ∧ y < n := fun y hy => v.bound y (mem_flat hk (by rw [hl]; exact hy))
  have hin := fun y => tc_set_in v v' hk (y := y)
  have hot := fun y => tc_set_other v v' hk (y := y)
  have hgo := fun y => tc_set_gone v v' hk (y := y)
  have hof := fun y => tc_of v hk (y := y)
  rw [hl] at hot hgo hof
  have cnt : ∀ y, a.count y + ((if x = y then 1 else 0) + b.count y) ≤ 1 := fun y => by
    have := ho y
    rw [List.count_append, List.count_cons] at this
    by_cases e : x = y
    · subst e; simp at this ⊢; omega
    · have e2 : (x == y) = false := by simpa using e
      rw [e2] at this
      rw [if_neg e]; simp at this; omega
  have hxa : x ∉ a := fun h => by have := List.count_pos_iff.2 h; have := cnt x; rw [if_pos rfl] at this; omega
  have hxb : x ∉ b := fun h => by have := List.count_pos_iff.2 h; have := cnt x; rw [if_pos rfl] at this; omega
  have hab : ∀ y, y ∈ a → y ∉ b := fun y h1 h2 => by
    have := List.count_pos_iff.2 h1; have := List.count_pos_iff.2 h2; have := cnt y; omega
  have ca : ∀ y, a.count y ≤ 1 := fun y => by have := cnt y; omega
  have hla : a ≠ [] → a.getLastD (-1) ∈ a := fun h => by
    rw [List.getLastD_eq_getLast?, List.getLast?_eq_some_getLast h]; exact List.getLast_mem h
  have hhb : b ≠ [] → b.headD (-1) ∈ b := fun h => by cases b with
    | nil => exact absurd rfl h
    | cons z r => simp
  have hxb0 := hb x (by simp)
  symm
  refine th_ext (by split <;> split <;> simp [th_len]) (fun y hy => ?_)
  by_cases ex : x.toNat = y
  · have eyx : (y : Int) = x := by omega
    rw [ex, List.getElem?_set_self (by split <;> split <;> (simp [th_len]; exact hy)), eyx, hgo x (by simp [hxa, hxb]) (by simp)]
  · rw [List.getElem?_set_ne ex]
    have hyx : x ≠ (y : Int) := by omega
    have key : ∀ T : List (Int × Int × Int), T.length = n → (∀ z : Nat, z < n → T[z]? = if a ≠ [] ∧ a.getLastD (-1) = (z : Int) then some ((k : Int), b.headD (-1), prv a (a.getLastD (-1))) else some (tc R (z : Int))) →
        (if b = [] then T else T.set (b.headD (-1)).toNat ((k : Int), nxt b (b.headD (-1)), a.getLastD (-1)))[y]? = some (tc (R.set k (a ++ b)) (y : Int)) := by
      intro T hT hTz
      by_cases hya : (y : Int) ∈ a
      · have hyb := hab _ hya
        have e1 : ∀ h : b ≠ [], (b.headD (-1)).toNat ≠ y := fun h e => by
          have := hb _ (List.mem_append_right _ (List.mem_cons_of_mem _ (hhb h)) : b.headD (-1) ∈ a ++ x :: b)
          exact hyb (by have := hhb h; rwa [show b.headD (-1) = (y : Int) by omega] at this)
        have e2 : (if b = [] then T else T.set (b.headD (-1)).toNat ((k : Int), nxt b (b.headD (-1)), a.getLastD (-1)))[y]? = T[y]? := by
          split
          · rfl
          · rename_i h; rw [List.getElem?_set_ne (e1 h)]
        rw [e2, hTz y hy, hin _ (by simp [hya]), nxt_left hya (ca _)]
        have hane : a ≠ [] := fun h => by rw [h] at hya; simp at hya
        by_cases e3 : a.getLastD (-1) = (y : Int)
        · rw [if_pos ⟨hane, e3⟩, if_pos e3, prv_left hya, e3]
        · rw [if_neg (fun h => e3 h.2), if_neg e3, hof _ (by simp [hya]), nxt_left hya (ca _), if_neg e3, prv_left hya, prv_left hya]
      · have e0 : T[y]? = some (tc R (y : Int)) := by
          rw [hTz y hy, if_neg]
          rintro ⟨h1, h2⟩
          exact hya (by have := hla h1; rwa [h2] at this)
        by_cases hyb : (y : Int) ∈ b
        · have hbne : b ≠ [] := fun h => by rw [h] at hyb; simp at hyb
          rw [if_neg hbne, hin _ (by simp [hyb]), nxt_right hya, prv, prvA_right hya, prvA_head (q := x) hyb]
          have hof2 := hof (y : Int) (by simp [hyb])
          rw [nxt_right hya, prv, prvA_right hya, prvA, if_neg hyx, nxt, if_neg hyx] at hof2
          by_cases e3 : b.headD (-1) = (y : Int)
          · rw [if_pos e3, show (b.headD (-1)).toNat = y by omega, List.getElem?_set_self (by rw [hT]; exact hy), e3]
          · rw [if_neg e3, List.getElem?_set_ne (by have := hb _ (List.mem_append_right _ (List.mem_cons_of_mem _ (hhb hbne)) : b.headD (-1) ∈ a ++ x :: b); omega), e0, hof2]
        · have e1 : (if b = [] then T else T.set (b.headD (-1)).toNat ((k : Int), nxt b (b.headD (-1)), a.getLastD (-1)))[y]? = T[y]? := by
            split
            · rfl
            · rename_i h
              have := hb _ (List.mem_append_right _ (List.mem_cons_of_mem _ (hhb h)) : b.headD (-1) ∈ a ++ x :: b)
              rw [List.getElem?_set_ne (fun e => hyb (by have := hhb h; rwa [show b.headD (-1) = (y : Int) by omega] at this))]
          rw [e1, e0, hot _ (by simp [hya, hyb]) (by simp [hya, hyb]; exact fun e => hyx e.symm)]
    apply key
    · split <;> simp [th_len]
    · intro z hz
      by_cases ha0 : a = []
      · rw [if_pos ha0, if_neg (fun h => h.1 ha0), th_get hz]
      · rw [if_neg ha0]
        have := hb _ (List.mem_append_left _ (hla ha0) : a.getLastD (-1) ∈ a ++ x :: b)
        by_cases e3 : a.getLastD (-1) = (z : Int)
        · rw [if_pos ⟨ha0, e3⟩, show (a.getLastD (-1)).toNat = z by omega, List.getElem?_set_self (by rw [th_len]; exact hz)]
        · rw [if_neg (fun h => e3 h.2), List.getElem?_set_ne (by omega), th_get hz]
theorem len_split (c : Int) (l : List Int) : l.length = (l.filter (fun a => a ≠ c)).length + l.count c := by
  induction l with
  | nil => rfl
  | cons x r ih =>
    rw [List.count_cons, List.filter_cons]
    by_cases e : x = c
    · subst e; simp at ih ⊢; omega
    · have e2 : (x == c) = false := by simpa using e
      simp [e, e2] at ih ⊢; omega
/-- a row without repeats of things below n is no longer than n -/
theorem len_bound {l : List Int} {n : Nat} (h1 : ∀ a, l.count a ≤ 1) (h2 : ∀ a ∈ l, 0 ≤ a ∧ a < (n : Int)) : l.length ≤ n := by
  induction n generalizing l with
  | zero =>
    cases l with
    | nil => simp
    | cons x r => have := h2 x (by simp); omega
  | succ n ih =>
    have h3 := ih (l := l.filter (fun a => a ≠ (n : Int))) (fun a => Nat.le_trans (List.Sublist.count_le a List.filter_sublist) (h1 a)) (fun a ha => by
      simp only [List.mem_filter, decide_eq_true_eq] at ha
      have := h2 a ha.1
      omega)
    have h4 := len_split (n : Int) l
    have := h1 (n : Int)
    omega
end Qu
end Go.Proofs.Ytofnbflkhgammaa
