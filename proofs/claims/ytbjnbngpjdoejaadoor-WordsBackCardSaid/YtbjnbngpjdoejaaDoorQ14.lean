/-
  Texts WrO WrP WrQ RdA of this claim, put together: what they show stands at their heads.
  Conditions: none but those that each theorem states.
-/
import Derived.Test.YtbjnbngpjdoejaaDoorQ13
import Derived.Lib.Atoi
import Derived.Lib.IndexMore
import Derived.Lib.Split
import Derived.Lib.AtoiAll
namespace Go.Proofs.YtbjnbngpjdoejaaDoor
set_option linter.unusedVariables false
set_option linter.unusedSimpArgs false
set_option linter.unnecessarySimpa false
namespace Wr
def tryW : W := [116, 114, 121]
def kindOf (x : W) : Int :=
  if x = Wd.kind 1 then 1 else if x = Wd.kind 2 then 2 else if x = Wd.kind 3 then 3 else if x = Wd.kind 6 then 6 else if x = Wd.kind 7 then 7 else if x = Wd.kind 8 then 8 else if x = Wd.kind 9 then 9 else 0
def kindRest : List W → Int × List W
  | [] => (0, [])
  | a :: r => if a = tryW then (match r with
      | b :: r' => if b = Wd.kind 2 then (4, r') else if b = Wd.kind 3 then (5, r') else (0, r)
      | [] => (0, [])) else (kindOf a, r)
def readK (k : Int) (rest : List W) : Option Pn.Op :=
  if k = 9 then (cased rest).map fun x => ⟨9, 0, 0, 0, x.1, x.2⟩
  else match rest with
    | [a] => if Pn.hasV k then none else (digs a).map fun x => if k = 1 then ⟨1, 0, x, 0, [], false⟩ else ⟨k, x, 0, 0, [], false⟩
    | [a, b] => if Pn.hasV k then (match digs a, digs b with | some x, some y => some ⟨k, x, 0, y, [], false⟩ | _, _ => none) else none
    | _ => none
def read (s : W) : Option Pn.Op :=
  if (kindRest (split 32 s)).1 = 0 then none else match readK (kindRest (split 32 s)).1 (kindRest (split 32 s)).2 with
    | some o => if Pn.rightOp o then some o else none
    | none => none
theorem kindOf_back {x : W} {k : Int} (h : kindOf x = k) (hk : k ≠ 0) : (1 ≤ k ∧ k ≤ 9) ∧ kw k = [x] := by
  unfold kindOf at h
  repeat' split at h
  all_goals first | (rename_i e; subst h; exact ⟨by omega, by rw [e]; decide⟩) | (exact absurd h.symm hk)
theorem kindRest_back {w : List W} {k : Int} {r : List W} (h : kindRest w = (k, r)) (hk : k ≠ 0) : (1 ≤ k ∧ k ≤ 9) ∧ w = kw k ++ r := by
  unfold kindRest at h
  split at h
  · simp at h; exact absurd h.1.symm hk
  · split at h
    · rename_i a r0 ha
      split at h
      · split at h
        · rename_i e
          simp at h
          obtain ⟨rfl, rfl⟩ := h
          exact ⟨by omega, by rw [ha, e]; rfl⟩
        · split at h
          · rename_i e
            simp at h
            obtain ⟨rfl, rfl⟩ := h
            exact ⟨by omega, by rw [ha, e]; rfl⟩
          · simp at h; exact absurd h.1.symm hk
      · simp at h; exact absurd h.1.symm hk
    · simp at h
      obtain ⟨h1, rfl⟩ := h
      obtain ⟨b, e⟩ := kindOf_back h1 hk
      exact ⟨b, by rw [e]; rfl⟩
theorem kindRest_of {k : Int} (h : 1 ≤ k ∧ k ≤ 9) (r : List W) : kindRest (kw k ++ r) = (k, r) := by
  have : k = 1 ∨ k = 2 ∨ k = 3 ∨ k = 4 ∨ k = 5 ∨ k = 6 ∨ k = 7 ∨ k = 8 ∨ k = 9 := by omega
  rcases this with rfl | rfl | rfl | rfl | rfl | rfl | rfl | rfl | rfl <;> rfl
theorem readK_back {k : Int} {r : List W} {o : Pn.Op} (hk : 1 ≤ k ∧ k ≤ 9) (h : readK k r = some o) : o.kind = k ∧ wordsOf o = kw k ++ r := by
  unfold readK at h
  split at h
  · rename_i e
    subst e
    cases hc : cased r with
    | none => rw [hc] at h; cases h
    | some x =>
      rw [hc] at h
      have h := Option.some.inj h
      subst h
      refine ⟨rfl, ?_⟩
      rw [cased_back (cs := x.1) (e := x.2) hc]
      rfl
  · rename_i n9
    split at h
    · split at h
      · cases h
      · rename_i a hv
        cases hd : digs a with
        | none => rw [hd] at h; cases h
        | some x =>
          rw [hd] at h
          have h : (if k = 1 then (⟨1, 0, x, 0, [], false⟩ : Pn.Op) else ⟨k, x, 0, 0, [], false⟩) = o := Option.some.inj h
          have ia := (itoa_digs hd).1
          have nv : ¬ (k = 2 ∨ k = 4) := by unfold Pn.hasV at hv; simpa using hv
          by_cases h1 : k = 1
          · rw [if_pos h1] at h
            subst h h1
            simp [wordsOf, ia]
          · rw [if_neg h1] at h
            subst h
            simp [wordsOf, ia, h1, n9, nv]
    · split at h
      · rename_i a b hv
        split at h
        · rename_i x y hx hy
          simp only [Option.some.injEq] at h
          subst h
          have nv : k = 2 ∨ k = 4 := by unfold Pn.hasV at hv; simpa using hv
          have h1 : ¬ k = 1 := by omega
          simp [wordsOf, (itoa_digs hx).1, (itoa_digs hy).1, h1, n9, nv]
        · cases h
      · cases h
    · cases h
theorem read_back {s : W} {o : Pn.Op} (h : read s = some o) : Pn.rightOp o = true ∧ s = Wd.op1 o := by
  unfold read at h
  split at h
  · cases h
  · rename_i hk
    split at h
    · rename_i o' ho
      split at h
      · rename_i hr
        simp at h
        subst h
        obtain ⟨k, r, hq⟩ : ∃ k r, kindRest (split 32 s) = (k, r) := ⟨_, _, rfl⟩
        rw [hq] at ho hk
        obtain ⟨b, e⟩ := kindRest_back hq hk
        obtain ⟨e1, e2⟩ := readK_back b ho
        refine ⟨hr, ?_⟩
        rw [op1_join (by rw [e1]; exact b), e2, ← e, join_split]
      · cases h
    · cases h
theorem read_op {o : Pn.Op} (h : Pn.rightOp o = true) : read (Wd.op1 o) = some o := by
  have R := h
  unfold Pn.rightOp at R
  rw [decide_eq_true_iff] at R
  obtain ⟨r1, r2, r3, r4, r5, r6, r7, r8, r9, rc, rv, rn, rs, r14⟩ := R
  have hw := split_op h
  have hk : kindRest (split 32 (Wd.op1 o)) = (o.kind, if o.kind = 1 then [Lib.itoa o.n] else if o.kind = 9 then o.cases.flatMap csw ++ elw o.els else Lib.itoa o.ch :: (if o.kind = 2 ∨ o.kind = 4 then [Lib.itoa o.v] else [])) := by
    rw [hw]
    exact kindRest_of ⟨r1, r2⟩ _
  unfold read
  rw [hk]
  simp only
  rw [if_neg (by omega)]
  obtain ⟨x, hx, ex⟩ := digs_int (n := o.n) r5 (by omega)
  obtain ⟨y, hy, ey⟩ := digs_int (n := o.ch) r3 (by omega)
  obtain ⟨z, hz, ez⟩ := digs_int (n := o.v) r7 (by omega)
  have key : readK o.kind (if o.kind = 1 then [Lib.itoa o.n] else if o.kind = 9 then o.cases.flatMap csw ++ elw o.els else Lib.itoa o.ch :: (if o.kind = 2 ∨ o.kind = 4 then [Lib.itoa o.v] else [])) = some o := by
    have hcs : ∀ c ∈ o.cases, okC c := fun c hc => by
      have := r14 c hc
      unfold Pn.rightCs at this
      rw [decide_eq_true_iff] at this
      unfold okC
      refine ⟨by omega, by omega, by omega, by omega, fun e => ?_⟩
      simp_all
    obtain ⟨kd, ch, n, v, cs, els⟩ := o
    simp only at *
    by_cases h9 : kd = 9
    · subst h9
      have a1 := rc (by rfl)
      have a2 := rv (by rfl)
      have a3 := rn (by omega)
      subst a1 a2 a3
      rw [if_neg (by omega), if_pos rfl]
      unfold readK
      rw [if_pos rfl, cased_of hcs]
      rfl
    · obtain ⟨rfl, rfl⟩ := rs h9
      unfold readK
      rw [if_neg h9, if_neg h9]
      by_cases h1 : kd = 1
      · subst h1
        have a1 := rc (by rfl)
        have a2 := rv (by rfl)
        subst a1 a2
        simp [Pn.hasV, hx, ex]
      · have a3 := rn h1
        subst a3
        by_cases hv : kd = 2 ∨ kd = 4
        · have hv' : Pn.hasV kd = true := by unfold Pn.hasV; simpa using hv
          simp [h1, hv, hv', hy, hz, ey, ez]
        · have hv' : Pn.hasV kd = false := by unfold Pn.hasV; simpa using hv
          have a2 := rv hv'
          subst a2
          simp [h1, hv, hv', hy, ey]
  rw [key]
  simp [h]
end Wr
end Go.Proofs.YtbjnbngpjdoejaaDoor
namespace Go.Proofs.YtbjnbngpjdoejaaDoor
set_option linter.unusedVariables false
set_option linter.unusedSimpArgs false
set_option linter.unnecessarySimpa false
namespace Wr
theorem dv {k : Nat} (h : k < 10) : Lib.digitVal (48 + k).toUInt8 = some k := by
  have := ch_nat h
  have : k = 0 ∨ k = 1 ∨ k = 2 ∨ k = 3 ∨ k = 4 ∨ k = 5 ∨ k = 6 ∨ k = 7 ∨ k = 8 ∨ k = 9 := by omega
  rcases this with rfl | rfl | rfl | rfl | rfl | rfl | rfl | rfl | rfl | rfl <;> rfl
theorem atoi_itoa {n : Nat} (h : n < 1000) : Lib.atoi (Lib.itoa n) = some (n : Int) := by
  have sg : ∀ k : Nat, k < 10 → ((48 + k).toUInt8 == 45) = false ∧ ((48 + k).toUInt8 == 43) = false := fun k hk => by
    have : k = 0 ∨ k = 1 ∨ k = 2 ∨ k = 3 ∨ k = 4 ∨ k = 5 ∨ k = 6 ∨ k = 7 ∨ k = 8 ∨ k = 9 := by omega
    rcases this with rfl | rfl | rfl | rfl | rfl | rfl | rfl | rfl | rfl | rfl <;> exact ⟨rfl, rfl⟩
  rw [itoa_nat]
  by_cases h1 : n < 10
  · obtain ⟨a, b⟩ := sg n h1
    rw [dec1 h1]
    simp only [Lib.atoi, a, b, Lib.decNat, Lib.decFrom, dv h1]
    simp
  · by_cases h2 : n < 100
    · have l1 : n / 10 < 10 := by omega
      have l2 : n % 10 < 10 := by omega
      obtain ⟨a, b⟩ := sg _ l1
      rw [dec2 (by omega) h2]
      simp only [Lib.atoi, a, b, Lib.decNat, Lib.decFrom, dv l1, dv l2]
      simp; omega
    · have l1 : n / 100 < 10 := by omega
      have l2 : n / 10 % 10 < 10 := by omega
      have l3 : n % 10 < 10 := by omega
      obtain ⟨a, b⟩ := sg _ l1
      rw [dec3 (by omega) h]
      simp only [Lib.atoi, a, b, Lib.decNat, Lib.decFrom, dv l1, dv l2, dv l3]
      simp; omega
theorem idx_no {d : UInt8} : ∀ {a : List UInt8}, d ∉ a → Lib.index a [d] = -1
  | [], _ => rfl
  | c :: a, h => by
    have h1 : ¬ d = c := fun e => h (by simp [e])
    have ih := idx_no (a := a) fun e => h (List.mem_cons_of_mem _ e)
    unfold Lib.index
    rw [if_neg (by simp [List.isPrefixOf, h1]), ih]
    rfl
theorem idx_at {d : UInt8} : ∀ {a s : List UInt8}, d ∉ a → Lib.index (a ++ d :: s) [d] = a.length
  | [], s, _ => by
    show Lib.index (d :: s) [d] = 0
    unfold Lib.index
    rw [if_pos (by simp [List.isPrefixOf])]
  | c :: a, s, h => by
    have h1 : ¬ d = c := fun e => h (by simp [e])
    have ih := idx_at (a := a) (s := s) fun e => h (List.mem_cons_of_mem _ e)
    rw [List.cons_append]
    unfold Lib.index
    rw [if_neg (by simp [List.isPrefixOf, h1]), ih]
    have : ((a.length : Int) == -1) = false := by simp
    rw [this]
    simp
theorem cut_no {d : UInt8} {a : List UInt8} (h : d ∉ a) : Lib.cut a [d] = (a, [], false) := by
  unfold Lib.cut
  rw [idx_no h]
  rfl
theorem cut_at {d : UInt8} {a s : List UInt8} (h : d ∉ a) : Lib.cut (a ++ d :: s) [d] = (a, s, true) := by
  unfold Lib.cut
  rw [idx_at h, if_pos (by omega)]
  simp
def spl (sep : List UInt8) : Nat → List UInt8 → List (List UInt8)
  | 0, s => [s]
  | k + 1, s => if Lib.index s sep = -1 then [s] else s.take (Lib.index s sep).toNat :: spl sep k (s.drop ((Lib.index s sep).toNat + sep.length))
theorem splitB_spl (sep : List UInt8) : ∀ (k : Nat) (s : List UInt8), (Lib.splitB ⟨sep.toArray⟩ 0 k ⟨s.toArray⟩) = (spl sep k s).map fun l => ⟨l.toArray⟩
  | 0, s => rfl
  | k + 1, s => by
    have ix : Lib.indexB ⟨s.toArray⟩ ⟨sep.toArray⟩ = Lib.index s sep := by simp [Lib.indexB]
    have room := Lib.index_room s sep
    have ge := Lib.index_ge s sep
    unfold Lib.splitB spl
    rw [ix]
    by_cases h : Lib.index s sep = -1
    · rw [if_pos (by simp [h]), if_pos h]; rfl
    · rw [if_neg (by simpa using h), if_neg h, List.map_cons]
      have e1 : (ByteArray.mk s.toArray).extract 0 ((Lib.index s sep).toNat + 0) = ⟨(s.take (Lib.index s sep).toNat).toArray⟩ := by
        apply ByteArray.ext; simp
      have e2 : (ByteArray.mk s.toArray).extract ((Lib.index s sep).toNat + (ByteArray.mk sep.toArray).size) (ByteArray.mk s.toArray).size = ⟨(s.drop ((Lib.index s sep).toNat + sep.length)).toArray⟩ := by
        apply ByteArray.ext; simp [ByteArray.size]
        exact List.take_of_length_le (by simp)
      rw [e1, e2, splitB_spl sep k]
theorem spl_join {d : UInt8} : ∀ (k : Nat) (l : List (List UInt8)), (∀ p ∈ l, d ∉ p) → l ≠ [] → l.length ≤ k + 1 → spl [d] k (join d l) = l
  | _, [], _, h, _ => absurd rfl h
  | 0, [a], h, _, _ => by simp [spl, join]
  | 0, a :: b :: r, h, _, hl => by simp at hl
  | k + 1, [a], h, _, _ => by
    have e : join d [a] = a := by simp [join]
    rw [e]
    unfold spl
    rw [idx_no (h a (List.mem_cons_self ..)), if_pos rfl]
  | k + 1, a :: b :: r, h, _, hl => by
    have ih := spl_join k (b :: r) (fun p hp => h p (List.mem_cons_of_mem _ hp)) (by simp) (by simp at hl ⊢; omega)
    have e : join d (a :: b :: r) = a ++ d :: join d (b :: r) := by simp [join]
    rw [e]
    unfold spl
    rw [idx_at (h a (List.mem_cons_self ..)), if_neg (by omega)]
    have e1 : (a ++ d :: join d (b :: r)).take ((a.length : Int)).toNat = a := by simp
    have e2 : (a ++ d :: join d (b :: r)).drop (((a.length : Int)).toNat + [d].length) = join d (b :: r) := by simp
    rw [e1, e2, ih]
/-! ### pieces between bars -/
theorem pre3 {c x : UInt8} {l : List UInt8} (h : x ≠ 124) : [32, 124, 32].isPrefixOf (c :: x :: l) = false := by
  have : (124 == x) = false := by simpa using fun e : 124 = x => h e.symm
  simp [List.isPrefixOf, this]
theorem idx3_at : ∀ {a s : List UInt8}, 124 ∉ a → Lib.index (a ++ Wd.bar ++ s) Wd.bar = a.length
  | [], s, _ => by
    show Lib.index (32 :: 124 :: 32 :: s) [32, 124, 32] = 0
    unfold Lib.index
    rw [if_pos (by simp [List.isPrefixOf])]
  | c :: a, s, h => by
    have ha : 124 ∉ a := fun e => h (List.mem_cons_of_mem _ e)
    have ih := idx3_at (a := a) (s := s) ha
    obtain ⟨x, l, e, hx⟩ : ∃ x l, a ++ Wd.bar ++ s = x :: l ∧ x ≠ 124 := by
      cases a with
      | nil => exact ⟨32, 124 :: 32 :: s, rfl, by decide⟩
      | cons y r => exact ⟨y, r ++ Wd.bar ++ s, by simp, fun e => ha (by simp [e])⟩
    have e0 : c :: a ++ Wd.bar ++ s = c :: (a ++ Wd.bar ++ s) := by simp
    rw [e0]
    unfold Lib.index
    rw [if_neg (by rw [e]; show ¬ [32, 124, 32].isPrefixOf (c :: x :: l) = true; rw [pre3 hx]; simp), ih]
    have : ((a.length : Int) == -1) = false := by simp
    rw [this]
    simp
theorem idx3_no : ∀ {a : List UInt8}, 124 ∉ a → Lib.index a Wd.bar = -1
  | [], _ => rfl
  | c :: a, h => by
    have ha : 124 ∉ a := fun e => h (List.mem_cons_of_mem _ e)
    have ih := idx3_no ha
    unfold Lib.index
    have hp : ¬ (Wd.bar.isPrefixOf (c :: a) = true) := by
      cases a with
      | nil => simp [Wd.bar, List.isPrefixOf]
      | cons x l => show ¬ [32, 124, 32].isPrefixOf (c :: x :: l) = true; rw [pre3 (fun e => ha (by simp [e]))]; simp
    rw [if_neg hp, ih]
    rfl
def join3 : List (List UInt8) → List UInt8
  | [] => []
  | a :: r => a ++ r.flatMap fun b => Wd.bar ++ b
theorem spl_bar : ∀ (k : Nat) (l : List (List UInt8)), (∀ p ∈ l, (124 : UInt8) ∉ p) → l ≠ [] → l.length ≤ k + 1 → spl Wd.bar k (join3 l) = l
  | _, [], _, h, _ => absurd rfl h
  | 0, [a], h, _, _ => by simp [spl, join3]
  | 0, a :: b :: r, h, _, hl => by simp at hl
  | k + 1, [a], h, _, _ => by
    have e : join3 [a] = a := by simp [join3]
    rw [e]
    unfold spl
    rw [idx3_no (h a (List.mem_cons_self ..)), if_pos rfl]
  | k + 1, a :: b :: r, h, _, hl => by
    have ih := spl_bar k (b :: r) (fun p hp => h p (List.mem_cons_of_mem _ hp)) (by simp) (by simp at hl ⊢; omega)
    have e : join3 (a :: b :: r) = a ++ Wd.bar ++ join3 (b :: r) := by simp [join3]
    rw [e]
    unfold spl
    rw [idx3_at (h a (List.mem_cons_self ..)), if_neg (by omega)]
    have e1 : (a ++ Wd.bar ++ join3 (b :: r)).take ((a.length : Int)).toNat = a := by simp
    have e2 : (a ++ Wd.bar ++ join3 (b :: r)).drop (((a.length : Int)).toNat + Wd.bar.length) = join3 (b :: r) := by
      rw [Int.toNat_natCast, ← List.length_append, List.drop_left]
    rw [e1, e2, ih]
end Wr
end Go.Proofs.YtbjnbngpjdoejaaDoor
namespace Go.Proofs.YtbjnbngpjdoejaaDoor
set_option linter.unusedVariables false
set_option linter.unusedSimpArgs false
set_option linter.unnecessarySimpa false
namespace Wr
def atV (s : W) : Int := match Lib.atoiAll s with
  | .ok v => v
  | Lib.NumEnd.syntax => 0
  | .range => Lib.atoiSat s
theorem pu_step {acc k : Nat} (hk : k < 10) (ha : acc < 1000) (r : W) : Lib.parseUint10 acc ((48 + k).toUInt8 :: r) = Lib.parseUint10 (acc * 10 + k) r := by
  have a := ch_nat hk
  have e : acc * 10 + (48 + k - 48) = acc * 10 + k := by omega
  rw [Lib.parseUint10, a, if_pos (by omega), if_neg (by omega), if_neg (by omega), e]
theorem at_all {c : UInt8} {r : W} {u : Nat} (hc : 48 ≤ c.toNat) (h : Lib.parseUint10 0 (c :: r) = .ok u) (hu : u < 1000) : atV (c :: r) = (u : Int) := by
  have n1 : ¬ (c.toNat = 43 ∨ c.toNat = 45) := by omega
  have n2 : ¬ c.toNat = 45 := by omega
  have e : Lib.atoiAll (c :: r) = .ok (u : Int) := by
    have m : Lib.parseMag (c :: r) = .ok u := by unfold Lib.parseMag; rw [if_neg (by simp), h]
    unfold Lib.atoiAll
    simp only [if_neg n1, m]
    rw [if_neg (by omega), if_neg (by omega), if_neg n2]
  unfold atV
  rw [e]
theorem atV_itoa {n : Nat} (h : n < 1000) : atV (Lib.itoa n) = (n : Int) := by
  rw [itoa_nat]
  by_cases h1 : n < 10
  · rw [dec1 h1]
    exact at_all (by rw [ch_nat h1]; omega) (by rw [pu_step h1 (by omega), Lib.parseUint10]; simp) h
  · by_cases h2 : n < 100
    · rw [dec2 (by omega) h2]
      exact at_all (by rw [ch_nat (by omega)]; omega) (by
        rw [pu_step (by omega) (by omega), pu_step (by omega) (by omega), Lib.parseUint10]
        congr 1; omega) h
    · rw [dec3 (by omega) h]
      exact at_all (by rw [ch_nat (by omega)]; omega) (by
        rw [pu_step (by omega) (by omega), pu_step (by omega) (by omega), pu_step (by omega) (by omega), Lib.parseUint10]
        congr 1; omega) h
theorem atV_int {n : Int} (h0 : 0 ≤ n) (h : n < 1000) : atV (Lib.itoa n) = n := by
  have := atV_itoa (n := n.toNat) (by omega)
  rwa [Int.toNat_of_nonneg h0] at this
theorem atV_isI (s : W) : -9223372036854775808 ≤ atV s ∧ atV s ≤ 9223372036854775807 := by
  unfold atV
  split
  · rename_i v hv
    unfold Lib.atoiAll at hv
    split at hv
    · cases hv
    · rename_i c r
      simp only at hv
      rcases hm : Lib.parseMag (if c.toNat = 43 ∨ c.toNat = 45 then r else c :: r) with u | _ | _
      · have := Lib.parseMag_lt hm
        rw [hm] at hv
        simp only at hv
        split at hv
        · cases hv
        · split at hv
          · cases hv
          · injection hv with hv
            subst hv
            split <;> omega
      · rw [hm] at hv; cases hv
      · rw [hm] at hv; cases hv
  · omega
  · unfold Lib.atoiSat; split <;> omega
def nums (rest : W) : Int × Int :=
  (if 1 < (spl [32] 3 rest).length then atV ((spl [32] 3 rest).getD 1 []) else 0, if 2 < (spl [32] 3 rest).length then atV ((spl [32] 3 rest).getD 2 []) else 0)
def behind (p s : W) : Option W := if p.isPrefixOf s then some (s.drop p.length) else none
def caseOf (s : W) : Pn.Cs := match behind (Wd.kind 2) s with
  | some r => ⟨true, (nums r).1, (nums r).2⟩
  | none => ⟨false, (nums ((behind (Wd.kind 3) s).getD s)).1, (nums ((behind (Wd.kind 3) s).getD s)).2⟩
def casesOf (l : List W) : List Pn.Cs := (l.filter (· != elseW)).map caseOf
def elseOf (l : List W) : Bool := l.any (· == elseW)
def cand (k : Int) (rest : W) : Pn.Op :=
  if k = 1 then ⟨1, 0, (nums rest).1, 0, [], false⟩
  else if k = 9 then ⟨9, 0, 0, 0, casesOf (spl Wd.bar 8 rest).tail, elseOf (spl Wd.bar 8 rest).tail⟩
  else ⟨k, (nums rest).1, 0, (nums rest).2, [], false⟩
def look (line : W) : List Int → Option Pn.Op
  | [] => none
  | k :: ks => match behind (Wd.kind k) line with
    | some rest => if Wd.op (cand k rest) = line then some (cand k rest) else look line ks
    | none => look line ks
theorem behind_app (p s : W) : behind p (p ++ s) = some s := by
  unfold behind
  rw [if_pos (by simp)]
  simp
theorem nums1 {a : Int} (h0 : 0 ≤ a) (h : a < 1000) : nums (Wd.num a) = (a, 0) := by
  have e : Wd.num a = join 32 [[], Lib.itoa a] := by simp [join, Wd.num]
  have s : spl [32] 3 (Wd.num a) = [[], Lib.itoa a] := by
    rw [e]
    exact spl_join 3 _ (by intro p hp; simp at hp; rcases hp with rfl | rfl; simp; exact no_blank h0 h) (by simp) (by simp)
  unfold nums
  rw [s]
  simp [atV_int h0 h]
theorem nums2 {a b : Int} (h0 : 0 ≤ a) (h : a < 1000) (k0 : 0 ≤ b) (k : b < 1000) : nums (Wd.num a ++ Wd.num b) = (a, b) := by
  have e : Wd.num a ++ Wd.num b = join 32 [[], Lib.itoa a, Lib.itoa b] := by simp [join, Wd.num]
  have s : spl [32] 3 (Wd.num a ++ Wd.num b) = [[], Lib.itoa a, Lib.itoa b] := by
    rw [e]
    exact spl_join 3 _ (by intro p hp; simp at hp; rcases hp with rfl | rfl | rfl; simp; exact no_blank h0 h; exact no_blank k0 k) (by simp) (by simp)
  unfold nums
  rw [s]
  simp [atV_int h0 h, atV_int k0 k]
theorem no_bar {n : Int} (h0 : 0 ≤ n) (h : n < 1000) : (124 : UInt8) ∉ Wd.num n := by
  intro hm
  have hm : (124 : UInt8) ∈ Lib.itoa n := by simpa [Wd.num] using hm
  obtain ⟨k, rfl⟩ : ∃ k : Nat, n = k := ⟨n.toNat, by omega⟩
  have hk : k < 1000 := by omega
  have ne : ∀ j : Nat, j < 10 → (124 : UInt8) ≠ (48 + j).toUInt8 := fun j hj e => by
    have := congrArg UInt8.toNat e
    rw [ch_nat hj] at this
    simp at this; omega
  rw [itoa_nat] at hm
  by_cases h1 : k < 10
  · rw [dec1 h1] at hm
    simp only [List.mem_singleton] at hm
    exact ne _ h1 hm
  · by_cases h2 : k < 100
    · rw [dec2 (by omega) h2] at hm
      simp only [List.mem_cons, List.not_mem_nil, or_false] at hm
      rcases hm with hm | hm
      · exact ne _ (by omega) hm
      · exact ne _ (by omega) hm
    · rw [dec3 (by omega) hk] at hm
      simp only [List.mem_cons, List.not_mem_nil, or_false] at hm
      rcases hm with hm | hm | hm
      · exact ne _ (by omega) hm
      · exact ne _ (by omega) hm
      · exact ne _ (by omega) hm
theorem cas_no {c : Pn.Cs} (h : okC c) : (124 : UInt8) ∉ Wd.cas c := by
  obtain ⟨a, b, d, e, f⟩ := h
  have n1 := no_bar a b
  have n2 := no_bar d e
  have k2 : (124 : UInt8) ∉ Wd.kind 2 := by decide
  have k3 : (124 : UInt8) ∉ Wd.kind 3 := by decide
  unfold Wd.cas
  split
  · simp [n1, n2, k2]
  · simp [n1, k3]
theorem cas_else (c : Pn.Cs) : (Wd.cas c != elseW) = true := by
  have e : ∃ x r, Wd.cas c = x :: r ∧ x ≠ 101 := by
    unfold Wd.cas
    split
    · exact ⟨115, _, rfl, by decide⟩
    · exact ⟨114, _, rfl, by decide⟩
  obtain ⟨x, r, e, hx⟩ := e
  rw [e]
  simp [elseW, hx]
theorem caseOf_cas {c : Pn.Cs} (h : okC c) : caseOf (Wd.cas c) = c := by
  obtain ⟨a, b, d, e, f⟩ := h
  obtain ⟨sd, ch, v⟩ := c
  simp only at a b d e f
  unfold Wd.cas
  cases sd with
  | true =>
    simp only [if_true]
    unfold caseOf
    rw [List.append_assoc, behind_app]
    simp only
    rw [nums2 a b d e]
  | false =>
    have f := f rfl
    subst f
    simp only [Bool.false_eq_true, if_false]
    unfold caseOf
    have hb : behind (Wd.kind 2) (Wd.kind 3 ++ Wd.num ch) = none := by
      unfold behind
      rw [if_neg (by rw [show Wd.kind 3 = 114 :: [101, 99, 118] from rfl, show Wd.kind 2 = 115 :: [101, 110, 100] from rfl]; simp [List.isPrefixOf])]
    rw [hb, behind_app]
    simp only [Option.getD_some]
    rw [nums1 a b]
theorem parts_of {cs : List Pn.Cs} {e : Bool} (h : ∀ c ∈ cs, okC c) (hl : cs.length ≤ 6) : (spl Wd.bar 8 (Wd.cass cs ++ (if e then Wd.els else []))).tail = cs.map Wd.cas ++ (if e then [elseW] else []) := by
  have j : Wd.cass cs ++ (if e then Wd.els else []) = join3 ([] :: (cs.map Wd.cas ++ (if e then [elseW] else []))) := by
    unfold join3 Wd.cass
    cases e <;> simp [Wd.els, Wd.bar, elseW, List.flatMap_map]
  rw [j, spl_bar 8 _ _ (by simp) (by cases e <;> simp <;> omega)]
  · rfl
  · intro p hp
    simp only [List.mem_cons, List.mem_append, List.mem_map] at hp
    rcases hp with rfl | ⟨c, hc, rfl⟩ | hp
    · simp
    · exact cas_no (h c hc)
    · cases e with
      | true => simp at hp; subst hp; decide
      | false => simp at hp
theorem filt (cs : List Pn.Cs) (e : Bool) : ((cs.map Wd.cas ++ (if e then [elseW] else [])).filter (· != elseW)) = cs.map Wd.cas ∧ elseOf (cs.map Wd.cas ++ (if e then [elseW] else [])) = e := by
  have h1 : (cs.map Wd.cas).filter (· != elseW) = cs.map Wd.cas := by
    rw [List.filter_eq_self]
    intro a ha
    obtain ⟨c, _, rfl⟩ := List.mem_map.1 ha
    exact cas_else c
  have h2 : (cs.map Wd.cas).any (· == elseW) = false := by
    rw [List.any_eq_false]
    intro a ha
    obtain ⟨c, _, rfl⟩ := List.mem_map.1 ha
    have := cas_else c
    simpa using this
  unfold elseOf
  rw [List.filter_append, List.any_append, h1, h2]
  cases e <;> simp
theorem okC_of {o : Pn.Op} (h : Pn.rightOp o = true) : ∀ c ∈ o.cases, okC c := fun c hc => by
  unfold Pn.rightOp at h
  rw [decide_eq_true_iff] at h
  have := h.2.2.2.2.2.2.2.2.2.2.2.2.2 c hc
  unfold Pn.rightCs at this
  rw [decide_eq_true_iff] at this
  exact ⟨by omega, by omega, by omega, by omega, this.2.2.2.2⟩
theorem cand_op {o : Pn.Op} (h : Pn.rightOp o = true) : ∃ r, behind (Wd.kind o.kind) (Wd.op1 o) = some r ∧ cand o.kind r = o := by
  have hc := okC_of h
  have R := h
  unfold Pn.rightOp at R
  rw [decide_eq_true_iff] at R
  obtain ⟨r1, r2, r3, r4, r5, r6, r7, r8, r9, rc, rv, rn, rs, r14⟩ := R
  obtain ⟨kd, ch, n, v, cs, els⟩ := o
  simp only at *
  by_cases h1 : kd = 1
  · subst h1
    have a1 := rc (by rfl)
    have a2 := rv (by rfl)
    obtain ⟨rfl, rfl⟩ := rs (by omega)
    subst a1 a2
    refine ⟨Wd.num n, ?_, ?_⟩
    · unfold Wd.op1
      rw [if_pos rfl]
      exact behind_app _ _
    · unfold cand
      rw [if_pos rfl, nums1 r5 (by omega)]
  · have a3 := rn h1
    subst a3
    by_cases h9 : kd = 9
    · subst h9
      have a1 := rc (by rfl)
      have a2 := rv (by rfl)
      subst a1 a2
      refine ⟨Wd.cass cs ++ (if els then Wd.els else []), ?_, ?_⟩
      · unfold Wd.op1
        rw [if_neg h1, if_pos rfl, List.append_assoc]
        exact behind_app _ _
      · unfold cand
        rw [if_neg h1, if_pos rfl, parts_of hc r9]
        obtain ⟨f1, f2⟩ := filt cs els
        unfold casesOf
        rw [f1, f2, List.map_map]
        have : cs.map (caseOf ∘ Wd.cas) = cs := by
          rw [List.map_congr_left (g := id) fun c hc' => by simpa using caseOf_cas (hc c hc')]
          simp
        rw [this]
    · obtain ⟨rfl, rfl⟩ := rs h9
      refine ⟨Wd.num ch ++ (if kd = 2 ∨ kd = 4 then Wd.num v else []), ?_, ?_⟩
      · unfold Wd.op1
        rw [if_neg h1, if_neg h9]
        exact behind_app _ _
      · unfold cand
        rw [if_neg h1, if_neg h9]
        by_cases hv : kd = 2 ∨ kd = 4
        · rw [if_pos hv, nums2 r3 (by omega) r7 (by omega)]
        · have a2 := rv (by unfold Pn.hasV; simpa using hv)
          subst a2
          rw [if_neg hv, List.append_nil, nums1 r3 (by omega)]
theorem kind_ne {k : Int} (h : 1 ≤ k ∧ k ≤ 9) : Wd.kind k ≠ [] := by
  have : k = 1 ∨ k = 2 ∨ k = 3 ∨ k = 4 ∨ k = 5 ∨ k = 6 ∨ k = 7 ∨ k = 8 ∨ k = 9 := by omega
  rcases this with rfl | rfl | rfl | rfl | rfl | rfl | rfl | rfl | rfl <;> decide
theorem look_some {line : W} {o : Pn.Op} : ∀ {ks : List Int}, (∀ k ∈ ks, 1 ≤ k ∧ k ≤ 9) → look line ks = some o → read line = some o
  | [], _, h => by cases h
  | k :: ks, hk, h => by
    have ih := look_some (line := line) (o := o) (ks := ks) fun x hx => hk x (List.mem_cons_of_mem _ hx)
    unfold look at h
    split at h
    · rename_i rest hb
      split at h
      · rename_i he
        simp only [Option.some.injEq] at h
        subst h
        have hr : Pn.rightOp (cand k rest) = true := by
          cases hr : Pn.rightOp (cand k rest) with
          | true => rfl
          | false =>
            exfalso
            have e0 : line = [] := by rw [← he]; unfold Wd.op; rw [hr]; rfl
            rw [e0] at hb
            have := kind_ne (hk k (List.mem_cons_self ..))
            unfold behind at hb
            split at hb
            · rename_i hp
              cases hw : Wd.kind k with
              | nil => exact this hw
              | cons x r => rw [hw] at hp; simp [List.isPrefixOf] at hp
            · cases hb
        have e1 : line = Wd.op1 (cand k rest) := by
          rw [← he]; unfold Wd.op; rw [hr]; simp [he]
        have := read_op hr
        rwa [← e1] at this
      · exact ih h
    · exact ih h
theorem look_op {line : W} {o : Pn.Op} (h : read line = some o) : ∀ {ks : List Int}, (∀ k ∈ ks, 1 ≤ k ∧ k ≤ 9) → o.kind ∈ ks → look line ks = some o
  | [], _, hm => by cases hm
  | k :: ks, hk, hm => by
    obtain ⟨hr, e⟩ := read_back h
    by_cases hh : look line (k :: ks) = none
    · exfalso
      by_cases hk0 : k = o.kind
      · obtain ⟨r, h1, h2⟩ := cand_op hr
        subst hk0
        unfold look at hh
        rw [e, h1] at hh
        simp only at hh
        rw [h2] at hh
        have : Wd.op o = Wd.op1 o := by unfold Wd.op; rw [hr]; rfl
        rw [if_pos this] at hh
        cases hh
      · have ih := look_op h (ks := ks) (fun x hx => hk x (List.mem_cons_of_mem _ hx)) (by
          rcases List.mem_cons.1 hm with h' | h'
          · exact absurd h'.symm hk0
          · exact h')
        unfold look at hh
        split at hh
        · split at hh
          · cases hh
          · rw [ih] at hh; cases hh
        · rw [ih] at hh; cases hh
    · obtain ⟨o', ho'⟩ := Option.ne_none_iff_exists'.1 hh
      have := look_some hk ho'
      rw [h] at this
      rw [ho', ← this]
theorem look_read (line : W) : look line [1, 2, 3, 4, 5, 6, 7, 8, 9] = read line := by
  have hk : ∀ k ∈ ([1, 2, 3, 4, 5, 6, 7, 8, 9] : List Int), 1 ≤ k ∧ k ≤ 9 := by decide
  cases h : read line with
  | some o =>
    refine look_op h hk ?_
    obtain ⟨hr, _⟩ := read_back h
    unfold Pn.rightOp at hr
    rw [decide_eq_true_iff] at hr
    have : o.kind = 1 ∨ o.kind = 2 ∨ o.kind = 3 ∨ o.kind = 4 ∨ o.kind = 5 ∨ o.kind = 6 ∨ o.kind = 7 ∨ o.kind = 8 ∨ o.kind = 9 := by omega
    simpa using this
  | none =>
    cases h2 : look line [1, 2, 3, 4, 5, 6, 7, 8, 9] with
    | none => rfl
    | some o => rw [look_some hk h2] at h; cases h
end Wr
end Go.Proofs.YtbjnbngpjdoejaaDoor
namespace Go.Proofs.YtbjnbngpjdoejaaDoor
open Go.RowKit
set_option linter.unusedVariables false
set_option linter.unusedSimpArgs false
set_option linter.unnecessarySimpa false
namespace Wr
def glue (a : W) : List W → List W
  | [] => []
  | x :: r => (a ++ x) :: r
theorem glue_glue (a b : W) (l : List W) : glue a (glue b l) = glue (a ++ b) l := by cases l <;> simp [glue]
theorem glue_nil {l : List W} : glue [] l = l := by cases l <;> simp [glue]
theorem split_at {d c : UInt8} {s : W} {i : Nat} (h : s[i]? = some c) : split d (s.drop i) = if c = d then [] :: split d (s.drop (i + 1)) else glue [c] (split d (s.drop (i + 1))) := by
  obtain ⟨hi, rfl⟩ := List.getElem?_eq_some_iff.1 h
  rw [List.drop_eq_getElem_cons hi]
  rw [split]
  split
  · rfl
  · obtain ⟨a, r, e⟩ := split_cons d (s.drop (i + 1))
    rw [e]; rfl
def SpI (d : UInt8) (s : W) (acc : List W) (i0 i : Nat) : Prop := i0 ≤ i ∧ i ≤ s.length ∧ acc.length ≤ i ∧ split d s = acc ++ glue ((s.take i).drop i0) (split d (s.drop i))
theorem SpI.start (d : UInt8) (s : W) : SpI d s [] 0 0 := ⟨Nat.le_refl _, Nat.zero_le _, Nat.le_refl _, by simp [glue_nil]⟩
theorem SpI.hit {d : UInt8} {s : W} {acc : List W} {i0 i : Nat} (h : SpI d s acc i0 i) (hd : s[i]? = some d) : SpI d s (acc ++ [(s.take i).drop i0]) (i + 1) (i + 1) := by
  obtain ⟨h1, h2, h3, h4⟩ := h
  have hi := (List.getElem?_eq_some_iff.1 hd).1
  refine ⟨Nat.le_refl _, hi, by simp; omega, ?_⟩
  rw [split_at hd, if_pos rfl] at h4
  obtain ⟨a, r, e⟩ := split_cons d (s.drop (i + 1))
  have hz : (s.take (i + 1)).drop (i + 1) = [] := by simp
  rw [h4, hz, glue_nil]
  simp [glue]
theorem SpI.miss {d c : UInt8} {s : W} {acc : List W} {i0 i : Nat} (h : SpI d s acc i0 i) (hc : s[i]? = some c) (hd : c ≠ d) : SpI d s acc i0 (i + 1) := by
  obtain ⟨h1, h2, h3, h4⟩ := h
  have hi := (List.getElem?_eq_some_iff.1 hc).1
  refine ⟨by omega, hi, by omega, ?_⟩
  rw [split_at hc, if_neg hd, glue_glue] at h4
  rw [h4]
  congr 2
  rw [List.take_add_one, hc]
  rw [List.drop_append_of_le_length (by simp; omega)]
  rfl
theorem SpI.fin {d : UInt8} {s : W} {acc : List W} {i0 : Nat} (h : SpI d s acc i0 s.length) : split d s = acc ++ [s.drop i0] := by
  obtain ⟨h1, h2, h3, h4⟩ := h
  rw [h4]
  simp [split, glue]
def digN (s : W) : Int := match digs s with
  | some n => n
  | none => -1
end Wr
namespace Fl
set_option maxRecDepth 100000
set_option maxHeartbeats 4000000
abbrev eW (x : Wr.W) : List A := [sA x]
abbrev uB (b : UInt8) : A := .v (.int .u8 b.toNat)
set_option maxHeartbeats 2000000 in
theorem c_split (s : Wr.W) (d : UInt8) (hs : s.length ≤ 3000) : Pure Tryd.prog 16 [.c (sA s), .c (uB d)] (.c (.r 1 ((Wr.split d s).map eW))) := by
  have US := Tryd.underlying9
  refine Con.intro Tryd.func16 rfl rfl rfl (fun ok e => ?_)
  repeat (first
      | (refine K.assign ?_; refine JO.q rfl rfl (Nat.le_of_ble_eq_true rfl) (Qt.assign rfl) ?_)
      | (refine K.lit ?_; (refine JO.lit0 rfl (Nat.le_of_ble_eq_true rfl) ?_; intro _))
      | refine JO.nil ?_
      | refine J.seq ?_
      | refine J.region ?_
      | refine J.block ?_)
  refine J.loop (ι := { q : (List Wr.W × Nat × Nat) × Value // Wr.SpI d s q.1.1 q.1.2.1 q.1.2.2 }) (fun q => [(0, .c (sA s)), (1, .c (uB d)), (7, .c (nI q.1.1.2.2)), (6, .c (nI q.1.1.2.1)), (5, .c (.v q.1.2))]) (fun q => [.row q.1.2 9 1 (q.1.1.1.map eW)]) (fun q => s.length - q.1.1.2.2) ⟨(([], 0, 0), _), Wr.SpI.start d s⟩ (fun X h => h.weak ⟨rfl, rfl, rfl, rfl, rfl, trivial⟩) (fun q ih => ?_)
  obtain ⟨⟨⟨acc, i0, i⟩, v⟩, hI⟩ := q
  simp only at hI ih ⊢
  have hI' := hI
  obtain ⟨h1, h2, h3, _⟩ := hI'
  by_cases hi : i < s.length
  · have t1 : decide ((i : Int) < (s.length : Int)) = true := decide_eq_true (by omega)
    obtain ⟨x, hx⟩ : ∃ x, s[i]? = some x := ⟨_, List.getElem?_eq_getElem hi⟩
    by_cases hd : x = d
    · subst hd
      have t2 : ((x.toNat : Int) == (x.toNat : Int)) = true := by simp
      have e2 := hI.hit hx
      repeat (first
          | refine JO.q rfl rfl (Nat.le_of_ble_eq_true rfl) (Qt.strI rfl rfl US (by omega) (by rw [Int.toNat_natCast]; exact hx)) ?_
          | (refine K.move ?_; refine JO.q rfl rfl (Nat.le_of_ble_eq_true rfl) (Qt.move rfl) ?_)
          | (refine K.assign ?_; refine JO.q rfl rfl (Nat.le_of_ble_eq_true rfl) (Qt.assign rfl) ?_)
          | (refine K.binOp ?_; first | refine JO.q rfl rfl (Nat.le_of_ble_eq_true rfl) (Qt.cmp rfl rfl (congrArg some t1)) ?_ | refine JO.q rfl rfl (Nat.le_of_ble_eq_true rfl) (Qt.cmp rfl rfl (congrArg some t2)) ?_ | refine JO.q rfl rfl (Nat.le_of_ble_eq_true rfl) (Qt.ari rfl rfl rfl (w64 (by omega) (by omega))) ?_)
          | (refine K.bi ?_; (refine JO.q rfl rfl (Nat.le_of_ble_eq_true rfl) (Qt.strL rfl US) ?_))
          | (refine K.lit ?_; (refine JO.lit1 rfl (Nat.le_of_ble_eq_true rfl) rfl rfl rfl rfl rfl ?_; intro _))
          | (refine K.slice ?_; refine JO.q rfl rfl (Nat.le_of_ble_eq_true rfl) ((Qt.strS rfl US rfl rfl (by (omega)) (by (omega)) (by (omega)))) ?_)
          | (refine K.bi ?_; ((refine JO.ld (Ld.appOw (Nat.le_of_ble_eq_true rfl) rfl rfl .ownC (by (simp; omega))) rfl (fun _ => ?_))))
          | refine JO.nil ?_
          | refine J.seq ?_
          | refine J.region ?_
          | refine J.block ?_
          | refine J.inBlock ?_
          | refine J.skip ?_
          | refine J.cond_t rfl ?_)
      refine J.dropN 1 ?_
      refine J.congL ?_ ((ih ⟨((acc ++ [(s.take i).drop i0], i + 1, i + 1), _), e2⟩ (by simp only; omega)).weak ⟨rfl, rfl, rfl, rfl, rfl, trivial⟩)
      simp
    · have t2 : ((x.toNat : Int) == (d.toNat : Int)) = false := by
        rw [beq_eq_false_iff_ne]
        intro e
        exact hd (UInt8.toNat_inj.1 (by omega))
      have e2 := hI.miss hx hd
      repeat (first
          | refine JO.q rfl rfl (Nat.le_of_ble_eq_true rfl) (Qt.strI rfl rfl US (by omega) (by rw [Int.toNat_natCast]; exact hx)) ?_
          | (refine K.move ?_; refine JO.q rfl rfl (Nat.le_of_ble_eq_true rfl) (Qt.move rfl) ?_)
          | (refine K.assign ?_; refine JO.q rfl rfl (Nat.le_of_ble_eq_true rfl) (Qt.assign rfl) ?_)
          | (refine K.binOp ?_; first | refine JO.q rfl rfl (Nat.le_of_ble_eq_true rfl) (Qt.cmp rfl rfl (congrArg some t1)) ?_ | refine JO.q rfl rfl (Nat.le_of_ble_eq_true rfl) (Qt.cmp rfl rfl (congrArg some t2)) ?_ | refine JO.q rfl rfl (Nat.le_of_ble_eq_true rfl) (Qt.ari rfl rfl rfl (w64 (by omega) (by omega))) ?_)
          | (refine K.bi ?_; (refine JO.q rfl rfl (Nat.le_of_ble_eq_true rfl) (Qt.strL rfl US) ?_))
          | refine JO.nil ?_
          | refine J.seq ?_
          | refine J.region ?_
          | refine J.block ?_
          | refine J.inBlock ?_
          | refine J.skip ?_
          | refine J.cond_t rfl ?_
          | refine J.cond_f rfl ?_)
      exact (ih ⟨((acc, i0, i + 1), _), e2⟩ (by simp only; omega)).weak ⟨rfl, rfl, rfl, rfl, rfl, trivial⟩
  · obtain rfl : i = s.length := by omega
    have t1 : decide ((s.length : Int) < (s.length : Int)) = false := decide_eq_false (by omega)
    have e2 := hI.fin
    repeat (first
        | (refine K.move ?_; refine JO.q rfl rfl (Nat.le_of_ble_eq_true rfl) (Qt.move rfl) ?_)
        | (refine K.assign ?_; refine JO.q rfl rfl (Nat.le_of_ble_eq_true rfl) (Qt.assign rfl) ?_)
        | (refine K.binOp ?_; (refine JO.q rfl rfl (Nat.le_of_ble_eq_true rfl) (Qt.cmp rfl rfl (congrArg some t1)) ?_))
        | (refine K.bi ?_; (refine JO.q rfl rfl (Nat.le_of_ble_eq_true rfl) (Qt.strL rfl US) ?_))
        | (refine K.lit ?_; (refine JO.lit1 rfl (Nat.le_of_ble_eq_true rfl) rfl rfl rfl rfl rfl ?_; intro _))
        | (refine K.slice ?_; refine JO.q rfl rfl (Nat.le_of_ble_eq_true rfl) ((Qt.strS rfl US rfl rfl (by (omega)) (by (omega)) (by (omega)))) ?_)
        | (refine K.bi ?_; ((refine JO.ld (Ld.appOw (Nat.le_of_ble_eq_true rfl) rfl rfl .ownC (by (simp; omega))) rfl (fun _ => ?_))))
        | refine JO.nil ?_
        | refine J.seq ?_
        | refine J.region ?_
        | refine J.exit rfl ?_
        | refine J.cond_f rfl ?_)
    refine J.frzS 4 rfl ?_
    refine J.ret Tryd.func16 rfl (.cons (.tmp rfl) .nil) () (.of_eq ?_) [] .nil rfl rfl
    rw [e2]; simp [oneD]
theorem digs_all {s : Wr.W} (h1 : 1 ≤ s.length) (h3 : s.length ≤ 3) (h0 : 1 < s.length → s.headD 0 ≠ 48) : Wr.digs s = if s.all Wr.dig = true then some (Wr.val s 0) else none := by
  unfold Wr.digs
  by_cases h : s.all Wr.dig = true
  · rw [if_pos ⟨h1, h3, h0, h⟩, if_pos h]
  · rw [if_neg (fun e => h e.2.2.2), if_neg h]
theorem val_take {s : Wr.W} {i : Nat} {x : UInt8} (h : s[i]? = some x) : Wr.val (s.take (i + 1)) 0 = Wr.val (s.take i) 0 * 10 + (x.toNat - 48) := by
  rw [List.take_add_one, h]
  have key : ∀ (l : Wr.W) (n : Nat), Wr.val (l ++ [x]) n = Wr.val l n * 10 + (x.toNat - 48) := by
    intro l
    induction l with
    | nil => intro n; rfl
    | cons c l ih => intro n; exact ih _
  exact key _ _
theorem val_le {s : Wr.W} : ∀ {l : Wr.W} {n : Nat}, l.all Wr.dig = true → Wr.val l n < (n + 1) * 10 ^ l.length
  | [], n, _ => by simp [Wr.val]
  | c :: l, n, h => by
    simp only [List.all_cons, Bool.and_eq_true] at h
    have ih := val_le (s := s) (l := l) (n := n * 10 + (c.toNat - 48)) h.2
    have hc := h.1
    unfold Wr.dig at hc
    rw [decide_eq_true_iff] at hc
    have : Wr.val (c :: l) n = Wr.val l (n * 10 + (c.toNat - 48)) := rfl
    rw [this, List.length_cons, Nat.pow_succ]
    calc Wr.val l (n * 10 + (c.toNat - 48)) < (n * 10 + (c.toNat - 48) + 1) * 10 ^ l.length := ih
      _ ≤ ((n + 1) * 10) * 10 ^ l.length := Nat.mul_le_mul_right _ (by omega)
      _ = (n + 1) * (10 ^ l.length * 10) := by rw [Nat.mul_assoc, Nat.mul_comm 10]
theorem digs_none {s : Wr.W} (h : s.length < 1 ∨ 3 < s.length ∨ (1 < s.length ∧ s.headD 0 = 48)) : Wr.digN s = -1 := by
  unfold Wr.digN Wr.digs
  rw [if_neg (by
    rintro ⟨a, b, c, d⟩
    rcases h with h | h | ⟨h, e⟩
    · omega
    · omega
    · exact c h e)]
set_option maxHeartbeats 2000000 in
theorem c_digits (s : Wr.W) (hs : s.length ≤ 3000) : Pure Tryd.prog 49 [.c (sA s)] (.c (nI (Wr.digN s))) := by
  have US := Tryd.underlying9
  refine Con.intro Tryd.func49 rfl rfl rfl (fun ok e => ?_)
  refine J.seq (J.region ?_)
  repeat  ((refine K.assign ?_; refine JO.q rfl rfl (Nat.le_of_ble_eq_true rfl) (Qt.assign rfl) ?_))
  refine JO.nil (J.seq ?_)
  refine J.jn1 (ι := { u : Unit // 1 ≤ s.length ∧ s.length ≤ 3 ∧ (1 < s.length → s.headD 0 ≠ 48) }) (fun _ => [(0, .c (sA s))]) (fun _ => []) (fun x => ?_) (fun KK rest => ?_)
  · obtain ⟨_, h1, h3, h0⟩ := x
    have ha := digs_all h1 h3 h0
    repeat (first
        | (refine K.assign ?_; refine JO.q rfl rfl (Nat.le_of_ble_eq_true rfl) (Qt.assign rfl) ?_)
        | refine JO.nil ?_
        | refine J.seq ?_
        | refine J.region ?_
        | refine J.block ?_)
    refine J.loop (ι := { i : Nat // i ≤ s.length ∧ (s.take i).all Wr.dig = true }) (fun q => [(0, .c (sA s)), (4, .c (nI q.1)), (3, .c (nI (Wr.val (s.take q.1) 0)))]) (fun q => []) (fun q => s.length - q.1) ⟨0, by simp⟩ (fun X h => h.weak ⟨rfl, rfl, rfl, trivial⟩) (fun q ih => ?_)
    obtain ⟨i, hI, hd⟩ := q
    simp only at hI hd ih ⊢
    have vl := val_le (s := s) (n := 0) hd
    have vb : Wr.val (s.take i) 0 < 1000 := by
      refine Nat.lt_of_lt_of_le vl ?_
      have : 10 ^ (s.take i).length ≤ 10 ^ 3 := Nat.pow_le_pow_right (by omega) (by simp; omega)
      omega
    by_cases hi : i < s.length
    · have t1 : decide ((i : Int) < (s.length : Int)) = true := decide_eq_true (by omega)
      obtain ⟨x, hx⟩ : ∃ x, s[i]? = some x := ⟨_, List.getElem?_eq_getElem hi⟩
      have xb : x.toNat < 256 := x.toNat_lt
      have none_ : Wr.dig x = false → Wr.digN s = -1 := fun h => by
        unfold Wr.digN
        rw [ha, if_neg]
        intro e
        have := List.all_eq_true.1 e x (List.mem_of_getElem? hx)
        rw [h] at this; cases this
      have IX : s[((i : Nat) : Int).toNat]? = some x := by rw [Int.toNat_natCast]; exact hx
      by_cases g1 : x.toNat < 48
      · have t2 : decide ((x.toNat : Int) < 48) = true := decide_eq_true (by omega)
        rw [none_ (by unfold Wr.dig; exact decide_eq_false (by omega))]
        repeat (first
            | refine JO.q rfl rfl (Nat.le_of_ble_eq_true rfl) (Qt.strI rfl rfl US (by omega) (IX)) ?_
            | (refine K.move ?_; refine JO.q rfl rfl (Nat.le_of_ble_eq_true rfl) (Qt.move rfl) ?_)
            | (refine K.assign ?_; refine JO.q rfl rfl (Nat.le_of_ble_eq_true rfl) (Qt.assign rfl) ?_)
            | (refine K.binOp ?_; first | refine JO.q rfl rfl (Nat.le_of_ble_eq_true rfl) (Qt.cmp rfl rfl (congrArg some t1)) ?_ | refine JO.q rfl rfl (Nat.le_of_ble_eq_true rfl) (Qt.cmp rfl rfl (congrArg some t2)) ?_)
            | (refine K.bi ?_; (refine JO.q rfl rfl (Nat.le_of_ble_eq_true rfl) (Qt.strL rfl US) ?_))
            | (refine K.pick ?_; refine JO.q rfl rfl (Nat.le_of_ble_eq_true rfl) (Qt.pick rfl rfl) ?_)
            | refine JO.nil ?_
            | refine J.seq ?_
            | refine J.region ?_
            | refine J.block ?_
            | refine J.skip ?_
            | refine J.cond_t rfl ?_
            | refine JO.no rfl rfl (Nat.le_of_ble_eq_true rfl) ?_)
        exact J.ret Tryd.func49 rfl (.cons (.tmp rfl) .nil) () (by (exact .refl)) [] .nil rfl rfl
      · have t2 : decide ((x.toNat : Int) < 48) = false := decide_eq_false (by omega)
        by_cases g2 : 57 < x.toNat
        · have t3 : decide ((57 : Int) < (x.toNat : Int)) = true := decide_eq_true (by omega)
          rw [none_ (by unfold Wr.dig; exact decide_eq_false (by omega))]
          repeat (first
              | refine JO.q rfl rfl (Nat.le_of_ble_eq_true rfl) (Qt.strI rfl rfl US (by omega) (IX)) ?_
              | (refine K.move ?_; refine JO.q rfl rfl (Nat.le_of_ble_eq_true rfl) (Qt.move rfl) ?_)
              | (refine K.assign ?_; refine JO.q rfl rfl (Nat.le_of_ble_eq_true rfl) (Qt.assign rfl) ?_)
              | (refine K.binOp ?_; first | refine JO.q rfl rfl (Nat.le_of_ble_eq_true rfl) (Qt.cmp rfl rfl (congrArg some t1)) ?_ | refine JO.q rfl rfl (Nat.le_of_ble_eq_true rfl) (Qt.cmp rfl rfl (congrArg some t2)) ?_ | refine JO.q rfl rfl (Nat.le_of_ble_eq_true rfl) (Qt.cmp rfl rfl (congrArg some t3)) ?_)
              | (refine K.bi ?_; (refine JO.q rfl rfl (Nat.le_of_ble_eq_true rfl) (Qt.strL rfl US) ?_))
              | (refine K.pick ?_; refine JO.q rfl rfl (Nat.le_of_ble_eq_true rfl) (Qt.pick rfl rfl) ?_)
              | refine JO.nil ?_
              | refine J.seq ?_
              | refine J.region ?_
              | refine J.block ?_
              | refine J.skip ?_
              | refine J.cond_t rfl ?_)
          exact J.ret Tryd.func49 rfl (.cons (.tmp rfl) .nil) () (by (exact .refl)) [] .nil rfl rfl
        · have t3 : decide ((57 : Int) < (x.toNat : Int)) = false := decide_eq_false (by omega)
          have vt := val_take hx
          have dd : (s.take (i + 1)).all Wr.dig = true := by
            rw [List.take_add_one, hx, List.all_append, hd]
            simp [Wr.dig]; omega
          have w1 : IntKind.i64.wrap ((Wr.val (s.take i) 0 : Int) * 10) = (Wr.val (s.take i) 0 : Int) * 10 := w64 (by omega) (by omega)
          have w2 : IntKind.i64.wrap ((Wr.val (s.take i) 0 : Int) * 10 + (x.toNat : Int)) = (Wr.val (s.take i) 0 : Int) * 10 + (x.toNat : Int) := w64 (by omega) (by omega)
          have w3 : IntKind.i64.wrap ((Wr.val (s.take i) 0 : Int) * 10 + (x.toNat : Int) - 48) = (Wr.val (s.take (i + 1)) 0 : Int) := by rw [w64 (by omega) (by omega)]; omega
          have w4 : IntKind.i64.wrap (x.toNat : Int) = (x.toNat : Int) := w64 (by omega) (by omega)
          repeat (first
              | refine JO.q rfl rfl (Nat.le_of_ble_eq_true rfl) (Qt.strI rfl rfl US (by omega) (IX)) ?_
              | (refine K.move ?_; refine JO.q rfl rfl (Nat.le_of_ble_eq_true rfl) (Qt.move rfl) ?_)
              | (refine K.assign ?_; refine JO.q rfl rfl (Nat.le_of_ble_eq_true rfl) (Qt.assign rfl) ?_)
              | (refine K.binOp ?_; first | refine JO.q rfl rfl (Nat.le_of_ble_eq_true rfl) (Qt.cmp rfl rfl (congrArg some t1)) ?_ | refine JO.q rfl rfl (Nat.le_of_ble_eq_true rfl) (Qt.cmp rfl rfl (congrArg some t2)) ?_ | refine JO.q rfl rfl (Nat.le_of_ble_eq_true rfl) (Qt.cmp rfl rfl (congrArg some t3)) ?_ | refine JO.q rfl rfl (Nat.le_of_ble_eq_true rfl) (Qt.ari rfl rfl rfl w1) ?_ | refine JO.q rfl rfl (Nat.le_of_ble_eq_true rfl) (Qt.ari rfl rfl rfl w2) ?_ | refine JO.q rfl rfl (Nat.le_of_ble_eq_true rfl) (Qt.ari rfl rfl rfl w3) ?_ | refine JO.q rfl rfl (Nat.le_of_ble_eq_true rfl) (Qt.ari rfl rfl rfl (w64 (by omega) (by omega))) ?_)
              | (refine K.bi ?_; (refine JO.q rfl rfl (Nat.le_of_ble_eq_true rfl) (Qt.strL rfl US) ?_))
              | (refine K.pick ?_; refine JO.q rfl rfl (Nat.le_of_ble_eq_true rfl) (Qt.pick rfl rfl) ?_)
              | (refine K.convert ?_; (refine JO.q rfl rfl (Nat.le_of_ble_eq_true rfl) (Qt.conv rfl w4) ?_))
              | refine JO.nil ?_
              | refine J.seq ?_
              | refine J.region ?_
              | refine J.block ?_
              | refine J.inBlock ?_
              | refine J.skip ?_
              | refine J.cond_t rfl ?_
              | refine J.cond_f rfl ?_)
          exact (ih ⟨i + 1, by omega, dd⟩ (by simp only; omega)).weak ⟨rfl, rfl, rfl, trivial⟩
    · obtain rfl : i = s.length := by omega
      have t1 : decide ((s.length : Int) < (s.length : Int)) = false := decide_eq_false (by omega)
      rw [List.take_length] at hd ⊢
      rw [if_pos hd] at ha
      repeat (first
          | (refine K.move ?_; refine JO.q rfl rfl (Nat.le_of_ble_eq_true rfl) (Qt.move rfl) ?_)
          | (refine K.assign ?_; refine JO.q rfl rfl (Nat.le_of_ble_eq_true rfl) (Qt.assign rfl) ?_)
          | (refine K.binOp ?_; (refine JO.q rfl rfl (Nat.le_of_ble_eq_true rfl) (Qt.cmp rfl rfl (congrArg some t1)) ?_))
          | (refine K.bi ?_; (refine JO.q rfl rfl (Nat.le_of_ble_eq_true rfl) (Qt.strL rfl US) ?_))
          | refine JO.nil ?_
          | refine J.seq ?_
          | refine J.region ?_
          | refine J.exit rfl ?_
          | refine J.cond_f rfl ?_)
      unfold Wr.digN
      rw [ha]
      exact J.ret Tryd.func49 rfl (.cons (.tmp rfl) .nil) () (by (exact .refl)) [] .nil rfl rfl
  · by_cases g1 : s.length < 1
    · have t1 : decide ((s.length : Int) < 1) = true := decide_eq_true (by omega)
      rw [digs_none (.inl g1)]
      repeat (first
          | (refine K.move ?_; refine JO.q rfl rfl (Nat.le_of_ble_eq_true rfl) (Qt.move rfl) ?_)
          | (refine K.assign ?_; refine JO.q rfl rfl (Nat.le_of_ble_eq_true rfl) (Qt.assign rfl) ?_)
          | (refine K.binOp ?_; (refine JO.q rfl rfl (Nat.le_of_ble_eq_true rfl) (Qt.cmp rfl rfl (congrArg some t1)) ?_))
          | (refine K.bi ?_; (refine JO.q rfl rfl (Nat.le_of_ble_eq_true rfl) (Qt.strL rfl US) ?_))
          | (refine K.pick ?_; refine JO.q rfl rfl (Nat.le_of_ble_eq_true rfl) (Qt.pick rfl rfl) ?_)
          | refine JO.nil ?_
          | refine J.seq ?_
          | refine J.region ?_
          | refine J.cond_t rfl ?_
          | refine JO.no rfl rfl (Nat.le_of_ble_eq_true rfl) ?_)
      exact J.ret Tryd.func49 rfl (.cons (.tmp rfl) .nil) () (by (exact .refl)) [] .nil rfl rfl
    · have t1 : decide ((s.length : Int) < 1) = false := decide_eq_false (by omega)
      by_cases g2 : 3 < s.length
      · have t2 : decide ((3 : Int) < (s.length : Int)) = true := decide_eq_true (by omega)
        rw [digs_none (.inr (.inl g2))]
        repeat (first
            | (refine K.move ?_; refine JO.q rfl rfl (Nat.le_of_ble_eq_true rfl) (Qt.move rfl) ?_)
            | (refine K.assign ?_; refine JO.q rfl rfl (Nat.le_of_ble_eq_true rfl) (Qt.assign rfl) ?_)
            | (refine K.binOp ?_; first | refine JO.q rfl rfl (Nat.le_of_ble_eq_true rfl) (Qt.cmp rfl rfl (congrArg some t1)) ?_ | refine JO.q rfl rfl (Nat.le_of_ble_eq_true rfl) (Qt.cmp rfl rfl (congrArg some t2)) ?_)
            | (refine K.bi ?_; (refine JO.q rfl rfl (Nat.le_of_ble_eq_true rfl) (Qt.strL rfl US) ?_))
            | (refine K.pick ?_; refine JO.q rfl rfl (Nat.le_of_ble_eq_true rfl) (Qt.pick rfl rfl) ?_)
            | refine JO.nil ?_
            | refine J.seq ?_
            | refine J.region ?_
            | refine J.cond_t rfl ?_
            | refine JO.no rfl rfl (Nat.le_of_ble_eq_true rfl) ?_)
        exact J.ret Tryd.func49 rfl (.cons (.tmp rfl) .nil) () (by (exact .refl)) [] .nil rfl rfl
      · have t2 : decide ((3 : Int) < (s.length : Int)) = false := decide_eq_false (by omega)
        by_cases g3 : 1 < s.length
        · have t3 : decide ((1 : Int) < (s.length : Int)) = true := decide_eq_true (by omega)
          obtain ⟨x, hx⟩ : ∃ x, s[0]? = some x := ⟨_, List.getElem?_eq_getElem (by omega)⟩
          have hh : s.headD 0 = x := by cases s with | nil => simp at hx | cons c r => simpa using hx
          have IX : s[((0 : Int)).toNat]? = some x := hx
          by_cases g4 : x = 48
          · have t4 : ((x.toNat : Int) == 48) = true := by rw [g4]; rfl
            rw [digs_none (.inr (.inr ⟨g3, hh.trans g4⟩))]
            repeat (first
                | refine JO.q rfl rfl (Nat.le_of_ble_eq_true rfl) (Qt.strI rfl rfl US (by omega) (IX)) ?_
                | (refine K.move ?_; refine JO.q rfl rfl (Nat.le_of_ble_eq_true rfl) (Qt.move rfl) ?_)
                | (refine K.assign ?_; refine JO.q rfl rfl (Nat.le_of_ble_eq_true rfl) (Qt.assign rfl) ?_)
                | (refine K.binOp ?_; first | refine JO.q rfl rfl (Nat.le_of_ble_eq_true rfl) (Qt.cmp rfl rfl (congrArg some t1)) ?_ | refine JO.q rfl rfl (Nat.le_of_ble_eq_true rfl) (Qt.cmp rfl rfl (congrArg some t2)) ?_ | refine JO.q rfl rfl (Nat.le_of_ble_eq_true rfl) (Qt.cmp rfl rfl (congrArg some t3)) ?_ | refine JO.q rfl rfl (Nat.le_of_ble_eq_true rfl) (Qt.cmp rfl rfl (congrArg some t4)) ?_)
                | (refine K.bi ?_; (refine JO.q rfl rfl (Nat.le_of_ble_eq_true rfl) (Qt.strL rfl US) ?_))
                | (refine K.pick ?_; refine JO.q rfl rfl (Nat.le_of_ble_eq_true rfl) (Qt.pick rfl rfl) ?_)
                | refine JO.nil ?_
                | refine J.seq ?_
                | refine J.region ?_
                | refine J.cond_t rfl ?_)
            exact J.ret Tryd.func49 rfl (.cons (.tmp rfl) .nil) () (by (exact .refl)) [] .nil rfl rfl
          · have t4 : ((x.toNat : Int) == 48) = false := by
              rw [beq_eq_false_iff_ne]
              intro e
              exact g4 (UInt8.toNat_inj.1 (by simp; omega))
            repeat (first
                | refine JO.q rfl rfl (Nat.le_of_ble_eq_true rfl) (Qt.strI rfl rfl US (by omega) (IX)) ?_
                | (refine K.move ?_; refine JO.q rfl rfl (Nat.le_of_ble_eq_true rfl) (Qt.move rfl) ?_)
                | (refine K.binOp ?_; first | refine JO.q rfl rfl (Nat.le_of_ble_eq_true rfl) (Qt.cmp rfl rfl (congrArg some t1)) ?_ | refine JO.q rfl rfl (Nat.le_of_ble_eq_true rfl) (Qt.cmp rfl rfl (congrArg some t2)) ?_ | refine JO.q rfl rfl (Nat.le_of_ble_eq_true rfl) (Qt.cmp rfl rfl (congrArg some t3)) ?_ | refine JO.q rfl rfl (Nat.le_of_ble_eq_true rfl) (Qt.cmp rfl rfl (congrArg some t4)) ?_)
                | (refine K.bi ?_; (refine JO.q rfl rfl (Nat.le_of_ble_eq_true rfl) (Qt.strL rfl US) ?_))
                | (refine K.pick ?_; refine JO.q rfl rfl (Nat.le_of_ble_eq_true rfl) (Qt.pick rfl rfl) ?_)
                | refine JO.nil ?_
                | refine J.seq ?_
                | refine J.region ?_
                | refine J.skip ?_
                | refine J.cond_f rfl ?_)
            exact (rest ⟨(), by omega, by omega, fun _ => by rw [hh]; exact g4⟩).weak ⟨rfl, trivial⟩
        · have t3 : decide ((1 : Int) < (s.length : Int)) = false := decide_eq_false (by omega)
          repeat (first
              | (refine K.move ?_; refine JO.q rfl rfl (Nat.le_of_ble_eq_true rfl) (Qt.move rfl) ?_)
              | (refine K.binOp ?_; first | refine JO.q rfl rfl (Nat.le_of_ble_eq_true rfl) (Qt.cmp rfl rfl (congrArg some t1)) ?_ | refine JO.q rfl rfl (Nat.le_of_ble_eq_true rfl) (Qt.cmp rfl rfl (congrArg some t2)) ?_ | refine JO.q rfl rfl (Nat.le_of_ble_eq_true rfl) (Qt.cmp rfl rfl (congrArg some t3)) ?_)
              | (refine K.bi ?_; (refine JO.q rfl rfl (Nat.le_of_ble_eq_true rfl) (Qt.strL rfl US) ?_))
              | (refine K.pick ?_; refine JO.q rfl rfl (Nat.le_of_ble_eq_true rfl) (Qt.pick rfl rfl) ?_)
              | refine JO.nil ?_
              | refine J.seq ?_
              | refine J.region ?_
              | refine J.skip ?_
              | refine J.cond_f rfl ?_
              | refine JO.no rfl rfl (Nat.le_of_ble_eq_true rfl) ?_)
          exact (rest ⟨(), by omega, by omega, fun h => absurd h g3⟩).weak ⟨rfl, trivial⟩
end Fl
end Go.Proofs.YtbjnbngpjdoejaaDoor
