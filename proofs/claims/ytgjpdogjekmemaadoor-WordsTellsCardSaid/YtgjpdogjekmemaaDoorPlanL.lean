/-
  The plain laws of plans: what bytes say, what ops say as bytes, and that one undoes the other.
  Conditions: none; no program stands here.
-/
import Derived.Test.YtgjpdogjekmemaaDoorCore
namespace Go.Proofs.YtgjpdogjekmemaaDoor
set_option linter.unusedVariables false
set_option linter.unusedSimpArgs false
set_option linter.unnecessarySimpa false
namespace Pn
structure Cs where
  send : Bool
  ch : Int
  v : Int
structure Op where
  kind : Int
  ch : Int
  n : Int
  v : Int
  cases : List Cs
  els : Bool
theorem Cs.ext {a b : Cs} (h1 : a.send = b.send) (h2 : a.ch = b.ch) (h3 : a.v = b.v) : a = b := by cases a; cases b; simp_all
theorem Op.ext {a b : Op} (h1 : a.kind = b.kind) (h2 : a.ch = b.ch) (h3 : a.n = b.n) (h4 : a.v = b.v) (h5 : a.cases = b.cases) (h6 : a.els = b.els) : a = b := by cases a; cases b; simp_all
instance : DecidableEq Cs := fun a b => decidable_of_iff (a.send = b.send ∧ a.ch = b.ch ∧ a.v = b.v) ⟨fun ⟨h1, h2, h3⟩ => Cs.ext h1 h2 h3, fun h => by subst h; simp⟩
instance : DecidableEq Op := fun a b => decidable_of_iff (a.kind = b.kind ∧ a.ch = b.ch ∧ a.n = b.n ∧ a.v = b.v ∧ a.cases = b.cases ∧ a.els = b.els) ⟨fun ⟨h1, h2, h3, h4, h5, h6⟩ => Op.ext h1 h2 h3 h4 h5 h6, fun h => by subst h; simp⟩
instance : Inhabited Cs := ⟨⟨false, 0, 0⟩⟩
instance : Inhabited Op := ⟨⟨0, 0, 0, 0, [], false⟩⟩

def hasCh (k : Int) : Bool := decide (2 ≤ k) && decide (k ≤ 8)
def hasV (k : Int) : Bool := (k == 2) || (k == 4)
def rightCs (c : Cs) : Bool := decide (0 ≤ c.ch ∧ c.ch ≤ 8 ∧ 0 ≤ c.v ∧ c.v ≤ 255 ∧ (c.send = false → c.v = 0))
def rightOp (o : Op) : Bool := decide (1 ≤ o.kind ∧ o.kind ≤ 9 ∧ 0 ≤ o.ch ∧ o.ch ≤ 8 ∧ 0 ≤ o.n ∧ o.n ≤ 4 ∧ 0 ≤ o.v ∧ o.v ≤ 255 ∧ o.cases.length ≤ 6 ∧
  (hasCh o.kind = false → o.ch = 0) ∧ (hasV o.kind = false → o.v = 0) ∧ (o.kind ≠ 1 → o.n = 0) ∧ (o.kind ≠ 9 → o.cases = [] ∧ o.els = false) ∧ ∀ c ∈ o.cases, rightCs c = true)
def rightOps (l : List Op) : Bool := decide (l.length ≤ 16 ∧ ∀ o ∈ l, rightOp o = true)
def right (p : List (List Op)) : Bool := decide (1 ≤ p.length ∧ p.length ≤ 8 ∧ ∀ l ∈ p, rightOps l = true)

def byte (l : List Int) (i : Nat) : Int := l.getD i 0
/-- k things, one behind the other -/
def runTo {α : Type} (f : Nat → α × Nat) (i0 : Nat) : Nat → List α × Nat
  | 0 => ([], i0)
  | k + 1 => ((runTo f i0 k).1 ++ [(f (runTo f i0 k).2).1], (f (runTo f i0 k).2).2)
def cs1 (l : List Int) (i : Nat) : Cs × Nat :=
  (⟨byte l i % 2 == 1, byte l (i + 1) % 9, if byte l i % 2 == 1 then byte l (i + 2) else 0⟩, if byte l i % 2 == 1 then i + 3 else i + 2)
def one (l : List Int) (i : Nat) : Op × Nat :=
  if byte l i % 9 = 0 then (⟨1, 0, byte l (i + 1) % 5, 0, [], false⟩, i + 2)
  else if byte l i % 9 = 1 ∨ byte l i % 9 = 3 then (⟨byte l i % 9 + 1, byte l (i + 1) % 9, 0, byte l (i + 2), [], false⟩, i + 3)
  else if byte l i % 9 = 8 then (⟨9, 0, 0, 0, (runTo (cs1 l) (i + 3) (byte l (i + 1) % 7).toNat).1, byte l (i + 2) % 2 == 1⟩, (runTo (cs1 l) (i + 3) (byte l (i + 1) % 7).toNat).2)
  else (⟨byte l i % 9 + 1, byte l (i + 1) % 9, 0, 0, [], false⟩, i + 2)
def ops (l : List Int) (i : Nat) : List Op × Nat := runTo (one l) (i + 1) (byte l i % 17).toNat
def dec (l : List Int) : List (List Op) × Nat := runTo (ops l) 1 (byte l 0 % 8 + 1).toNat

def flag (b : Bool) : Int := if b then 1 else 0
def encCs (c : Cs) : List Int := flag c.send :: c.ch :: (if c.send then [c.v] else [])
def encOp (o : Op) : List Int :=
  (o.kind - 1) :: ((if hasCh o.kind then [o.ch] else []) ++ (if o.kind == 1 then [o.n] else []) ++ (if hasV o.kind then [o.v] else []) ++
    (if o.kind == 9 then (o.cases.length : Int) :: flag o.els :: o.cases.flatMap encCs else []))
def encOps (l : List Op) : List Int := (l.length : Int) :: l.flatMap encOp
def enc (p : List (List Op)) : List Int := ((p.length : Int) - 1) :: p.flatMap encOps

/-! laws -/
theorem byte_range {l : List Int} (h : ∀ x ∈ l, 0 ≤ x ∧ x ≤ 255) (i : Nat) : 0 ≤ byte l i ∧ byte l i ≤ 255 := by
  unfold byte
  by_cases hi : i < l.length
  · simp only [List.getD, List.getElem?_eq_getElem hi, Option.getD_some]; exact h _ (List.getElem_mem hi)
  · simp [List.getD, List.getElem?_eq_none (show l.length ≤ i by omega)]
section
variable {α : Type} {f : Nat → α × Nat}
theorem runTo_len (i0 : Nat) : ∀ k, (runTo f i0 k).1.length = k
  | 0 => rfl
  | k + 1 => by unfold runTo; rw [List.length_append, runTo_len i0 k]; rfl
theorem runTo_all {P : α → Prop} (h : ∀ i, P (f i).1) (i0 : Nat) : ∀ k, ∀ x ∈ (runTo f i0 k).1, P x
  | 0 => by simp [runTo]
  | k + 1 => by
    intro x hx
    unfold runTo at hx
    rcases List.mem_append.1 hx with hx | hx
    · exact runTo_all h i0 k x hx
    · simp at hx; subst hx; exact h _
theorem runTo_size {e : α → List Int} (h : ∀ i, (f i).2 = i + (e (f i).1).length) (i0 : Nat) : ∀ k, (runTo f i0 k).2 = i0 + ((runTo f i0 k).1.flatMap e).length
  | 0 => by simp [runTo]
  | k + 1 => by
    unfold runTo
    rw [h, runTo_size h i0 k, List.flatMap_append, List.length_append]
    simp; omega
theorem runTo_le (h : ∀ i, i ≤ (f i).2) (i0 : Nat) : ∀ k, i0 ≤ (runTo f i0 k).2
  | 0 => Nat.le_refl _
  | k + 1 => Nat.le_trans (runTo_le h i0 k) (h _)
theorem runTo_ge {m : Nat} (h : ∀ i, (f i).2 ≤ i + m) (i0 : Nat) : ∀ k, (runTo f i0 k).2 ≤ i0 + k * m
  | 0 => by simp [runTo]
  | k + 1 => by
    have h1 := runTo_ge h i0 k
    have h2 := h (runTo f i0 k).2
    show (f (runTo f i0 k).2).2 ≤ _
    rw [Nat.add_mul]; omega
end
theorem runTo_enc {α : Type} (F : List Int → Nat → α × Nat) (e : α → List Int) (xs : List α)
    (h : ∀ x ∈ xs, ∀ pre post, F (pre ++ (e x ++ post)) pre.length = (x, pre.length + (e x).length)) (pre post : List Int) :
    runTo (F (pre ++ (xs.flatMap e ++ post))) pre.length xs.length = (xs, pre.length + (xs.flatMap e).length) := by
  have key : ∀ k, k ≤ xs.length → runTo (F (pre ++ (xs.flatMap e ++ post))) pre.length k = (xs.take k, pre.length + ((xs.take k).flatMap e).length) := by
    intro k
    induction k with
    | zero => intro _; simp [runTo]
    | succ k ih =>
      intro hk
      have hlt : k < xs.length := by omega
      have e1 : pre ++ (xs.flatMap e ++ post) = (pre ++ (xs.take k).flatMap e) ++ (e xs[k] ++ ((xs.drop (k + 1)).flatMap e ++ post)) := by
        have h1 : xs = xs.take k ++ xs[k] :: xs.drop (k + 1) := by rw [← List.drop_eq_getElem_cons hlt, List.take_append_drop]
        have h2 : xs.flatMap e = (xs.take k ++ xs[k] :: xs.drop (k + 1)).flatMap e := congrArg (List.flatMap e) h1
        rw [h2, List.flatMap_append, List.flatMap_cons]; simp only [List.append_assoc]
      unfold runTo
      rw [ih (by omega)]
      have h3 := h xs[k] (List.getElem_mem hlt) (pre ++ (xs.take k).flatMap e) ((xs.drop (k + 1)).flatMap e ++ post)
      rw [← e1, List.length_append] at h3
      rw [h3, List.take_succ_eq_append_getElem hlt, List.flatMap_append, List.length_append]
      simp [Nat.add_assoc]
  have := key xs.length (Nat.le_refl _)
  rwa [List.take_length] at this

theorem byte_at (pre : List Int) (x : Int) (post : List Int) : byte (pre ++ x :: post) pre.length = x := by simp [byte]
theorem byte_at1 (pre : List Int) (x y : Int) (post : List Int) : byte (pre ++ x :: y :: post) (pre.length + 1) = y := by
  have := byte_at (pre ++ [x]) y post
  simpa using this
theorem byte_at2 (pre : List Int) (x y z : Int) (post : List Int) : byte (pre ++ x :: y :: z :: post) (pre.length + 2) = z := by
  have := byte_at (pre ++ [x, y]) z post
  simpa using this

theorem cs1_size (l : List Int) (i : Nat) : (cs1 l i).2 = i + (encCs (cs1 l i).1).length := by
  unfold cs1 encCs
  split <;> simp_all
theorem cs1_right {l : List Int} (h : ∀ x ∈ l, 0 ≤ x ∧ x ≤ 255) (i : Nat) : rightCs (cs1 l i).1 = true := by
  have h2 := byte_range h (i + 2)
  unfold cs1 rightCs
  rw [decide_eq_true_iff]
  refine ⟨by simp; omega, by simp; omega, ?_, ?_, fun e => ?_⟩
  · simp only; split <;> omega
  · simp only; split <;> omega
  · simp only at e ⊢; rw [e]; rfl
theorem cs1_enc (c : Cs) (hr : rightCs c = true) (pre post : List Int) : cs1 (pre ++ (encCs c ++ post)) pre.length = (c, pre.length + (encCs c).length) := by
  unfold rightCs at hr
  rw [decide_eq_true_iff] at hr
  obtain ⟨h1, h2, h3, h4, h5⟩ := hr
  obtain ⟨s, ch, v⟩ := c
  simp only at h1 h2 h3 h4 h5
  have hm : ch % 9 = ch := Int.emod_eq_of_lt h1 (by omega)
  cases s with
  | true =>
    have e : pre ++ (encCs ⟨true, ch, v⟩ ++ post) = pre ++ 1 :: ch :: v :: post := by simp [encCs, flag]
    unfold cs1
    rw [e, byte_at, byte_at1, byte_at2, hm]
    simp [encCs]
  | false =>
    have hv := h5 rfl
    subst hv
    have e : pre ++ (encCs ⟨false, ch, 0⟩ ++ post) = pre ++ 0 :: ch :: post := by simp [encCs, flag]
    unfold cs1
    rw [e, byte_at, byte_at1, hm]
    simp [encCs]

theorem one_size {l : List Int} (h : ∀ x ∈ l, 0 ≤ x ∧ x ≤ 255) (i : Nat) : (one l i).2 = i + (encOp (one l i).1).length := by
  have h1 := byte_range h i
  have hm := Int.emod_nonneg (byte l i) (show (9 : Int) ≠ 0 by omega)
  have hm2 := Int.emod_lt_of_pos (byte l i) (show (0 : Int) < 9 by omega)
  unfold one
  split
  · simp [encOp, hasCh, hasV]
  · split
    · rename_i h3
      rcases h3 with h3 | h3 <;> simp [h3, encOp, hasCh, hasV]
    · split
      · have hl := runTo_len (f := cs1 l) (i + 3) (byte l (i + 1) % 7).toNat
        simp [encOp, hasCh, hasV]
        rw [runTo_size (cs1_size l)]
        simp [List.length_flatMap]; omega
      · rename_i a b c
        have hk1 : (byte l i % 9 + 1 == 1) = false := by simp; omega
        have hk9 : (byte l i % 9 + 1 == 9) = false := by simp; omega
        have hc : hasCh (byte l i % 9 + 1) = true := by simp [hasCh]; omega
        have hv : hasV (byte l i % 9 + 1) = false := by simp [hasV]; omega
        simp [encOp, hk1, hk9, hc, hv]
theorem one_right {l : List Int} (h : ∀ x ∈ l, 0 ≤ x ∧ x ≤ 255) (i : Nat) : rightOp (one l i).1 = true := by
  have h1 := byte_range h i
  have h2 := byte_range h (i + 2)
  have hm := Int.emod_nonneg (byte l i) (show (9 : Int) ≠ 0 by omega)
  have hm2 := Int.emod_lt_of_pos (byte l i) (show (0 : Int) < 9 by omega)
  have hn := Int.emod_nonneg (byte l (i + 1)) (show (9 : Int) ≠ 0 by omega)
  have hn2 := Int.emod_lt_of_pos (byte l (i + 1)) (show (0 : Int) < 9 by omega)
  have hp := Int.emod_nonneg (byte l (i + 1)) (show (5 : Int) ≠ 0 by omega)
  have hp2 := Int.emod_lt_of_pos (byte l (i + 1)) (show (0 : Int) < 5 by omega)
  have hq := Int.emod_nonneg (byte l (i + 1)) (show (7 : Int) ≠ 0 by omega)
  have hq2 := Int.emod_lt_of_pos (byte l (i + 1)) (show (0 : Int) < 7 by omega)
  unfold one rightOp
  rw [decide_eq_true_iff]
  split
  · simp [hasCh, hasV]; omega
  · split
    · rename_i h3
      rcases h3 with h3 | h3 <;> (simp [h3, hasCh, hasV]; omega)
    · split
      · have hl := runTo_len (f := cs1 l) (i + 3) (byte l (i + 1) % 7).toNat
        have ha := runTo_all (f := cs1 l) (P := fun c => rightCs c = true) (cs1_right h) (i + 3) (byte l (i + 1) % 7).toNat
        refine ⟨by simp, by simp, by simp, by simp, by simp, by simp, by simp, by simp, by simp only; omega, by simp, by simp, by simp, by simp, ha⟩
      · simp [hasCh, hasV]; omega
theorem one_enc (o : Op) (hr : rightOp o = true) (pre post : List Int) : one (pre ++ (encOp o ++ post)) pre.length = (o, pre.length + (encOp o).length) := by
  unfold rightOp at hr
  rw [decide_eq_true_iff] at hr
  obtain ⟨a1, a2, a3, a4, a5, a6, a7, a8, a9, b1, b2, b3, b4, b5⟩ := hr
  obtain ⟨k, ch, n, v, cs, els⟩ := o
  simp only at a1 a2 a3 a4 a5 a6 a7 a8 a9 b1 b2 b3 b4 b5
  have hk : (k - 1) % 9 = k - 1 := Int.emod_eq_of_lt (by omega) (by omega)
  have hm : ch % 9 = ch := Int.emod_eq_of_lt a3 (by omega)
  have hn : n % 5 = n := Int.emod_eq_of_lt a5 (by omega)
  by_cases h1 : k = 1
  · subst h1
    obtain ⟨rfl, rfl⟩ := b4 (by omega)
    have := b1 rfl; subst this
    have := b2 rfl; subst this
    have e : pre ++ (encOp ⟨1, 0, n, 0, [], false⟩ ++ post) = pre ++ 0 :: n :: post := by simp [encOp, hasCh, hasV]
    unfold one
    rw [e, byte_at, byte_at1, hn]
    simp [encOp, hasCh, hasV]
  have hn0 := b3 h1
  subst hn0
  by_cases h2 : k = 2 ∨ k = 4
  · obtain ⟨rfl, rfl⟩ := b4 (by omega)
    have hc : hasCh k = true := by simp [hasCh]; omega
    have hv : hasV k = true := by simp [hasV]; omega
    have h9 : (k == 9) = false := by simp; omega
    have h1' : (k == 1) = false := by simp; omega
    have e : pre ++ (encOp ⟨k, ch, 0, v, [], false⟩ ++ post) = pre ++ (k - 1) :: ch :: v :: post := by simp [encOp, hc, hv, h9, h1']
    unfold one
    rw [e, byte_at, byte_at1, byte_at2, hk, hm, if_neg (by omega), if_pos (by omega)]
    simp [encOp, hc, hv, h9, h1']
  · have hv : hasV k = false := by simp [hasV]; omega
    have := b2 hv; subst this
    by_cases h9 : k = 9
    · subst h9
      have := b1 rfl; subst this
      have e : pre ++ (encOp ⟨9, 0, 0, 0, cs, els⟩ ++ post) = pre ++ 8 :: (cs.length : Int) :: flag els :: (cs.flatMap encCs ++ post) := by simp [encOp, hasCh, hasV]
      have e2 : pre ++ 8 :: (cs.length : Int) :: flag els :: (cs.flatMap encCs ++ post) = (pre ++ [8, (cs.length : Int), flag els]) ++ (cs.flatMap encCs ++ post) := by simp
      have h7 : ((cs.length : Int) % 7).toNat = cs.length := by omega
      have hfl : (flag els % 2 == 1) = els := by cases els <;> rfl
      have hr := runTo_enc cs1 encCs cs (fun c hc pre post => cs1_enc c (b5 c hc) pre post) (pre ++ [8, (cs.length : Int), flag els]) post
      rw [← e2, show (pre ++ [8, (cs.length : Int), flag els]).length = pre.length + 3 by simp] at hr
      unfold one
      rw [e, byte_at, byte_at1, byte_at2, h7, hfl, hr]
      simp [encOp, hasCh, hasV]; omega
    · obtain ⟨rfl, rfl⟩ := b4 h9
      have hc : hasCh k = true := by simp [hasCh]; omega
      have h9' : (k == 9) = false := by simp; omega
      have h1' : (k == 1) = false := by simp; omega
      have e : pre ++ (encOp ⟨k, ch, 0, 0, [], false⟩ ++ post) = pre ++ (k - 1) :: ch :: post := by simp [encOp, hc, hv, h9', h1']
      unfold one
      rw [e, byte_at, byte_at1, hk, hm, if_neg (by omega), if_neg (by omega), if_neg (by omega)]
      simp [encOp, hc, hv, h9', h1']

theorem ops_size {l : List Int} (h : ∀ x ∈ l, 0 ≤ x ∧ x ≤ 255) (i : Nat) : (ops l i).2 = i + (encOps (ops l i).1).length := by
  unfold ops encOps
  rw [runTo_size (one_size h)]
  simp; omega
theorem ops_right {l : List Int} (h : ∀ x ∈ l, 0 ≤ x ∧ x ≤ 255) (i : Nat) : rightOps (ops l i).1 = true := by
  unfold ops rightOps
  rw [decide_eq_true_iff, runTo_len]
  exact ⟨by omega, runTo_all (one_right h) _ _⟩
theorem ops_enc (x : List Op) (hr : rightOps x = true) (pre post : List Int) : ops (pre ++ (encOps x ++ post)) pre.length = (x, pre.length + (encOps x).length) := by
  unfold rightOps at hr
  rw [decide_eq_true_iff] at hr
  have e : pre ++ (encOps x ++ post) = pre ++ (x.length : Int) :: (x.flatMap encOp ++ post) := by simp [encOps]
  have e2 : pre ++ (x.length : Int) :: (x.flatMap encOp ++ post) = (pre ++ [(x.length : Int)]) ++ (x.flatMap encOp ++ post) := by simp
  have h17 : ((x.length : Int) % 17).toNat = x.length := by omega
  have h := runTo_enc one encOp x (fun o ho pre post => one_enc o (hr.2 o ho) pre post) (pre ++ [(x.length : Int)]) post
  rw [← e2, show (pre ++ [(x.length : Int)]).length = pre.length + 1 by simp] at h
  unfold ops
  rw [e, byte_at, h17, h]
  simp [encOps]; omega
theorem dec_size {l : List Int} (h : ∀ x ∈ l, 0 ≤ x ∧ x ≤ 255) : (dec l).2 = (enc (dec l).1).length := by
  unfold dec enc
  rw [runTo_size (ops_size h)]
  simp; omega
theorem dec_right {l : List Int} (h : ∀ x ∈ l, 0 ≤ x ∧ x ≤ 255) : right (dec l).1 = true := by
  unfold dec right
  rw [decide_eq_true_iff, runTo_len]
  exact ⟨by omega, by omega, runTo_all (ops_right h) _ _⟩
theorem dec_enc (p : List (List Op)) (hr : right p = true) (post : List Int) : dec (enc p ++ post) = (p, (enc p).length) := by
  unfold right at hr
  rw [decide_eq_true_iff] at hr
  obtain ⟨h1, h2, h3⟩ := hr
  have h := runTo_enc ops encOps p (fun x hx pre post => ops_enc x (h3 x hx) pre post) [(p.length : Int) - 1] post
  have e : enc p ++ post = [(p.length : Int) - 1] ++ (p.flatMap encOps ++ post) := by simp [enc]
  have e0 : byte (enc p ++ post) 0 = (p.length : Int) - 1 := by rw [e]; rfl
  have h8 : (((p.length : Int) - 1) % 8 + 1).toNat = p.length := by omega
  unfold dec
  rw [e0, h8, e]
  simp only [List.length_cons, List.length_nil, Nat.zero_add] at h
  rw [h]
  simp [enc]; omega
/-- the bytes of what can be are bytes -/
theorem encCs_range (c : Cs) (hr : rightCs c = true) : ∀ x ∈ encCs c, 0 ≤ x ∧ x ≤ 255 := by
  unfold rightCs at hr
  rw [decide_eq_true_iff] at hr
  intro x hx
  unfold encCs flag at hx
  simp only [List.mem_cons] at hx
  rcases hx with rfl | rfl | hx
  · split <;> omega
  · omega
  · split at hx
    · simp at hx; omega
    · simp at hx
theorem encOp_range (o : Op) (hr : rightOp o = true) : ∀ x ∈ encOp o, 0 ≤ x ∧ x ≤ 255 := by
  unfold rightOp at hr
  rw [decide_eq_true_iff] at hr
  obtain ⟨a1, a2, a3, a4, a5, a6, a7, a8, a9, b1, b2, b3, b4, b5⟩ := hr
  intro x hx
  unfold encOp at hx
  simp only [List.mem_cons, List.mem_append] at hx
  rcases hx with rfl | ((hx | hx) | hx) | hx
  · omega
  · split at hx
    · simp at hx; omega
    · simp at hx
  · split at hx
    · simp at hx; omega
    · simp at hx
  · split at hx
    · simp at hx; omega
    · simp at hx
  · split at hx
    · simp only [List.mem_cons] at hx
      rcases hx with rfl | rfl | hx
      · omega
      · unfold flag; split <;> omega
      · obtain ⟨c, hc, hx⟩ := List.mem_flatMap.1 hx
        exact encCs_range c (b5 c hc) x hx
    · simp at hx
theorem enc_range (p : List (List Op)) (hr : right p = true) : ∀ x ∈ enc p, 0 ≤ x ∧ x ≤ 255 := by
  unfold right at hr
  rw [decide_eq_true_iff] at hr
  obtain ⟨h1, h2, h3⟩ := hr
  intro x hx
  unfold enc at hx
  rcases List.mem_cons.1 hx with rfl | hx
  · omega
  · obtain ⟨l, hl, hx⟩ := List.mem_flatMap.1 hx
    have h4 := h3 l hl
    unfold rightOps at h4
    rw [decide_eq_true_iff] at h4
    unfold encOps at hx
    rcases List.mem_cons.1 hx with rfl | hx
    · omega
    · obtain ⟨o, ho, hx⟩ := List.mem_flatMap.1 hx
      exact encOp_range o (h4.2 o ho) x hx
end Pn
end Go.Proofs.YtgjpdogjekmemaaDoor
