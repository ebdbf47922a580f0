/-
  Words, plain: the text of an op, of a plan, of a result.
  Conditions: none; nothing of the program stands here.
-/
import Derived.Test.YtgjpdogjekmemaaDoorFlt
import Derived.Test.YtgjpdogjekmemaaDoorFsa
import Derived.Lib.ItoaLen
namespace Go.Proofs.YtgjpdogjekmemaaDoor
open Go.RowKit
set_option linter.unusedVariables false
set_option linter.unusedSimpArgs false
set_option linter.unnecessarySimpa false
namespace Wd
def kinds : List (List UInt8) := [[], [109, 97, 107, 101], [115, 101, 110, 100], [114, 101, 99, 118], [116, 114, 121, 32, 115, 101, 110, 100], [116, 114, 121, 32, 114, 101, 99, 118], [99, 108, 111, 115, 101], [108, 101, 110], [99, 97, 112], [115, 101, 108, 101, 99, 116]]
def codes : List (List UInt8) := [[], [100, 111, 110, 101], [110, 111], [112, 97, 110, 105, 99, 32, 115, 101, 110, 100], [112, 97, 110, 105, 99, 32, 99, 108, 111, 115, 101], [112, 97, 110, 105, 99, 32, 110, 105, 108], [110, 111, 110, 101], [102, 117, 108, 108]]
def kind (k : Int) : List UInt8 := kinds.getD k.toNat []
def code (k : Int) : List UInt8 := codes.getD k.toNat []
def num (n : Int) : List UInt8 := 32 :: Lib.itoa n
def cas (c : Pn.Cs) : List UInt8 := if c.send then kind 2 ++ num c.ch ++ num c.v else kind 3 ++ num c.ch
def bar : List UInt8 := [32, 124, 32]
def els : List UInt8 := [32, 124, 32, 101, 108, 115, 101]
def cass (l : List Pn.Cs) : List UInt8 := l.flatMap fun c => bar ++ cas c
/-- an op that can be -/
def op1 (o : Pn.Op) : List UInt8 :=
  if o.kind = 1 then kind 1 ++ num o.n
  else if o.kind = 9 then kind 9 ++ cass o.cases ++ (if o.els then els else [])
  else kind o.kind ++ (num o.ch ++ (if o.kind = 2 ∨ o.kind = 4 then num o.v else []))
def op (o : Pn.Op) : List UInt8 := if Pn.rightOp o then op1 o else []
def ops (l : List Pn.Op) : List UInt8 := l.flatMap fun o => op o ++ [10]
def text (p : List (List Pn.Op)) : List UInt8 := if Pn.right p then p.flatMap fun l => [103, 111, 10] ++ ops l else []
def res (r : Md.Res) : List UInt8 :=
  if 1 ≤ r.code ∧ r.code ≤ 7 then
    if r.code = 1 then (code 1 ++ (if r.cs = -1 then [] else [32, 99, 97, 115, 101] ++ num r.cs) ++ num r.v) ++ (if r.ok then [32, 111, 107] else [32, 99, 108, 111, 115, 101, 100]) ++ num r.n
    else code r.code
  else [99, 111, 100, 101] ++ num r.code
theorem num_len (n : Int) (h0 : -9223372036854775808 ≤ n) (h1 : n ≤ 9223372036854775807) : (num n).length ≤ 22 := by
  have := Lib.itoa_length_le n h0 h1
  unfold num; simp; omega
theorem kind_len (k : Int) : (kind k).length ≤ 8 := by
  unfold kind
  rw [List.getD_eq_getElem?_getD]
  cases h : kinds[k.toNat]? with
  | none => simp
  | some l =>
    have hm := List.mem_of_getElem? h
    have : ∀ l ∈ kinds, l.length ≤ 8 := by decide
    exact this l hm
theorem cas_len (c : Pn.Cs) (h : (-9223372036854775808 ≤ c.ch ∧ c.ch ≤ 9223372036854775807) ∧ (-9223372036854775808 ≤ c.v ∧ c.v ≤ 9223372036854775807)) : (cas c).length ≤ 52 := by
  have a := num_len c.ch h.1.1 h.1.2
  have b := num_len c.v h.2.1 h.2.2
  have k2 := kind_len 2
  have k3 := kind_len 3
  unfold cas
  split <;> simp only [List.length_append] <;> omega
theorem cass_len : ∀ (l : List Pn.Cs), (∀ c ∈ l, (-9223372036854775808 ≤ c.ch ∧ c.ch ≤ 9223372036854775807) ∧ (-9223372036854775808 ≤ c.v ∧ c.v ≤ 9223372036854775807)) → (cass l).length ≤ l.length * 55
  | [], _ => by simp [cass]
  | c :: l, h => by
    have a := cas_len c (h c (List.mem_cons_self ..))
    have b := cass_len l fun x hx => h x (List.mem_cons_of_mem _ hx)
    have e : cass (c :: l) = (bar ++ cas c) ++ cass l := by simp [cass]
    rw [e]
    have : bar.length = 3 := rfl
    simp only [List.length_append, List.length_cons]
    omega
def blk (l : List Pn.Op) : List UInt8 := [103, 111, 10] ++ ops l
def txt (p : List (List Pn.Op)) : List UInt8 := p.flatMap blk
theorem txt_eq (p : List (List Pn.Op)) : text p = if Pn.right p then txt p else [] := rfl
theorem op_len {o : Pn.Op} (h : Pn.rightOp o = true) : (op o).length ≤ 400 := by
  unfold op
  rw [if_pos h]
  have R := h
  unfold Pn.rightOp at R
  rw [decide_eq_true_iff] at R
  obtain ⟨r1, r2, r3, r4, r5, r6, r7, r8, r9, -, -, -, -, r14⟩ := R
  have a := num_len o.n (by omega) (by omega)
  have b := num_len o.ch (by omega) (by omega)
  have d := num_len o.v (by omega) (by omega)
  have k := kind_len o.kind
  have k1 := kind_len 1
  have k9 := kind_len 9
  have c := cass_len o.cases fun x hx => by
    have := r14 x hx
    unfold Pn.rightCs at this
    rw [decide_eq_true_iff] at this
    omega
  have e : els.length = 7 := rfl
  unfold op1
  split
  · simp only [List.length_append]; omega
  · split
    · simp only [List.length_append]
      split
      · omega
      · simp only [List.length_nil]; omega
    · simp only [List.length_append]
      split
      · omega
      · simp only [List.length_nil]; omega
theorem ops_len : ∀ {l : List Pn.Op}, (∀ o ∈ l, Pn.rightOp o = true) → (ops l).length ≤ l.length * 401
  | [], _ => by simp [ops]
  | o :: l, h => by
    have a := op_len (h o (List.mem_cons_self ..))
    have b := ops_len (l := l) fun x hx => h x (List.mem_cons_of_mem _ hx)
    have e : ops (o :: l) = (op o ++ [10]) ++ ops l := by simp [ops]
    rw [e]
    simp only [List.length_append, List.length_cons, List.length_nil]
    omega
theorem txt_len : ∀ {p : List (List Pn.Op)}, (∀ l ∈ p, Pn.rightOps l = true) → (txt p).length ≤ p.length * 6500
  | [], _ => by simp [txt]
  | l :: p, h => by
    have a := h l (List.mem_cons_self ..)
    unfold Pn.rightOps at a
    rw [decide_eq_true_iff] at a
    have b := ops_len a.2
    have c := txt_len (p := p) fun x hx => h x (List.mem_cons_of_mem _ hx)
    have e : txt (l :: p) = ([103, 111, 10] ++ ops l) ++ txt p := by simp [txt, blk]
    rw [e]
    simp only [List.length_append, List.length_cons, List.length_nil]
    omega
theorem txt_take {p : List (List Pn.Op)} {k : Nat} {l : List Pn.Op} (h : p[k]? = some l) : txt (p.take (k + 1)) = (txt (p.take k) ++ [103, 111, 10]) ++ ops l := by
  rw [List.take_add_one, h]
  simp [txt, blk]
theorem ops_take {l : List Pn.Op} {k : Nat} {o : Pn.Op} (h : l[k]? = some o) : ops (l.take (k + 1)) = ops (l.take k) ++ (op o ++ [10]) := by
  rw [List.take_add_one, h]
  simp [ops]
end Wd
end Go.Proofs.YtgjpdogjekmemaaDoor
