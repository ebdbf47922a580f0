/-
  A comparison that is a function value, and its calls; swaps in rows.
  Conditions: none.
-/
import Derived.Test.YtgjpdogjekmemaaFlw
import Derived.Test.YtgjpdogjekmemaaBun
import Derived.Test.YtgjpdogjekmemaaSortL
import Derived.Laws.Entries
namespace Go.Proofs.Ytgjpdogjekmemaa
open Go.RowKit
set_option linter.unusedVariables false
set_option linter.unusedSimpArgs false
set_option linter.unnecessarySimpa false
namespace Fl
theorem J.joinS {P : Program} {c : Cx} {k : List Item} {f : Fm} {L : List Res} {I : Item} {ι : Type} (f' : ι → Fm) (L' : ι → List Res) (rest : ∀ x, J P c k (f' x) (L' x)) (h : ∀ K, (∀ x, J P c K (f' x) (L' x)) → J P c (I :: K) f L) : J P c (I :: k) f L := h k rest
theorem J.joinS2 {P : Program} {c : Cx} {k : List Item} {f : Fm} {L : List Res} {I I2 : Item} {ι : Type} (f' : ι → Fm) (L' : ι → List Res) (rest : ∀ x, J P c k (f' x) (L' x)) (h : ∀ K, (∀ x, J P c K (f' x) (L' x)) → J P c (I :: I2 :: K) f L) : J P c (I :: I2 :: k) f L := h k rest
theorem JO.joinS {P : Program} {c : Cx} {k : List Item} {f : Fm} {L : List Res} {I : Item} {ops : Array Oper} {l : List Oper} {ι : Type} (f' : ι → Fm) (L' : ι → List Res) (rest : ∀ x, J P c k (f' x) (L' x)) (h : ∀ K, (∀ x, J P c K (f' x) (L' x)) → JO P c ops l (I :: K) f L) : JO P c ops l (I :: k) f L := h k rest
/-- what cmp.Compare says of two numbers -/
def cq (m n : Int) : Int := if m < n then -1 else if m > n then 1 else 0
theorem cq_lt {m n : Int} {r : Bool} (h : decide (m < n) = r) : decide (cq m n < 0) = r := by
  subst h
  unfold cq
  split
  · simp [*]
  · split <;> simp [*]
/-- fv compares by key: it leaves all as it is -/
structure CmpFn (P : Program) (fv : Value) (C : List Res) {α : Type} (enc : α → List A) (key : α → Int) : Prop where
  ld : ∀ (c : Cx) (f : Fm) (L : List Res) (T : TypeId) (ps : String) (af : Array Edge) (gd : Option (Nat × Bool)) (t : Nat) (tys : Array TypeId) (x y z : Operand) (a b : α), (∃ E, L = E ++ C) → t < c.N → evD f x = some (.c (.v fv)) → evD f y = some (.agg (enc a)) → evD f z = some (.agg (enc b)) →
    Ld P c ⟨some t, .call ⟨.value x, #[y, z], tys⟩, T, ps, af, gd⟩ f L [] (fun _ : Unit => (t, .c (.v (.int .i64 (cq (key a) (key b))))) :: f) (fun _ => L)
section
variable {P : Program} {c : Cx} {k : List Item} {f : Fm} {L : List Res} {T X : TypeId} {ps : String} {af : Array Edge} {gd : Option (Nat × Bool)} {t : Nat}
theorem Ld.cmpV {fv : Value} {C : List Res} {α : Type} {enc : α → List A} {key : α → Int} (CF : CmpFn P fv C enc key) (a b : α) {tys : Array TypeId} {x y z : Operand} (hL : ∃ E, L = E ++ C) (ht : t < c.N) (hx : evD f x = some (.c (.v fv))) (hy : evD f y = some (.agg (enc a))) (hz : evD f z = some (.agg (enc b))) :
    Ld P c ⟨some t, .call ⟨.value x, #[y, z], tys⟩, T, ps, af, gd⟩ f L [] (fun _ : Unit => (t, .c (.v (.int .i64 (cq (key a) (key b))))) :: f) (fun _ => L) := CF.ld c f L T ps af gd t tys x y z a b hL ht hx hy hz
end
theorem s_at {α : Type} {enc : α → List A} {l : List α} {i : Nat} {x : α} (h : l[i]? = some x) : (l.map enc)[((i : Nat) : Int).toNat]? = some (enc x) := by rw [Int.toNat_natCast, List.getElem?_map, h]; rfl
theorem s_lt {α : Type} {enc : α → List A} {l : List α} {i : Nat} (h : i < l.length) : ((i : Nat) : Int) < ((l.map enc).length : Int) := by rw [List.length_map]; omega
theorem s_lt' {α : Type} {enc : α → List A} {l : List α} {i : Nat} {x : α} (h : l[i]? = some x) : ((i : Nat) : Int) < ((l.map enc).length : Int) := s_lt (List.getElem?_eq_some_iff.1 h).1
theorem s_sw {α : Type} {enc : α → List A} {l : List α} {i j : Nat} {x y : α} (hi : l[i]? = some x) (hj : l[j]? = some y) : ((l.map enc).set ((i : Nat) : Int).toNat (enc y)).set ((j : Nat) : Int).toNat (enc x) = (Ss.sw l i j).map enc := by
  rw [Ss.sw_some hi hj, Int.toNat_natCast, Int.toNat_natCast, List.map_set, List.map_set]
theorem s_half {m n : Nat} (h : m + n ≤ 4000000) : IntKind.i64.wrap (((m : Nat) : Int) + ((n : Nat) : Int)) = ((m + n : Nat) : Int) := by rw [w64 (by omega) (by omega)]; omega
theorem s_u64 {m : Nat} (h : m ≤ 4000000) : IntKind.u64.wrap ((m : Nat) : Int) = ((m : Nat) : Int) := by simp [IntKind.wrap, IntKind.bits, IntKind.signed]; omega
theorem s_shr {m : Nat} {w : World} {P : Program} {T : TypeId} (h : m ≤ 4000000) : (binOp .shr T (.int .u64 (m : Int)) (.int .u64 1)).run P w = .ok (.int .u64 ((m / 2 : Nat) : Int)) w := by
  rw [binOp_shr, shift_shr .u64 .u64 _ _ (by decide) (by decide)]
  rfl
end Fl
end Go.Proofs.Ytgjpdogjekmemaa
