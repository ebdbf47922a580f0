/-
  Walks told by plain data: calls of functions that are values; numbers' bits; a part of a row that is owned.
  Conditions: none.
-/
import Derived.Test.YtgjpdogjekmemaaFlB
namespace Go.Proofs.Ytgjpdogjekmemaa
open Go.RowKit
set_option linter.unusedVariables false
set_option linter.unusedSimpArgs false
set_option linter.unnecessarySimpa false
namespace Fl
section
variable {P : Program} {c : Cx} {k : List Item} {f : Fm} {L : List Res} {ops : Array Oper} {T X : TypeId} {ps : String} {af : Array Edge} {gd : Option (Nat × Bool)} {t : Nat}
/-- a call of a function that a slot holds, and that only reckons -/
theorem Ld.pureV {x : Operand} {F : FuncId} {args : List Operand} {tys : Array TypeId} {ds0 ds : List D} {d : D} [i : TyC P F] (hx : evD f x = some (.c (.v (.func (.func F) #[] #[])))) (hC : Pure P F ds d) (ht : t < c.N) (h : evDs f args = some ds0) (hle : LeDs ds0 ds) :
    Ld P c ⟨some t, .call ⟨.value x, args.toArray, tys⟩, T, ps, af, gd⟩ f L [] (fun _ : Unit => (t, d) :: f) (fun _ => L) := ⟨fun a w s K Q hK => by
  have h1 := (Ld.pure (P := P) (c := c) (T := T) (ps := ps) (af := af) (gd := gd) (L := L) (f := f) (tys := tys) hC ht h hle).go a w s K Q hK
  have e := s.val hx
  unfold Oper.wp at h1 ⊢
  rw [show execOp a.eval ⟨some t, .call ⟨.value x, args.toArray, tys⟩, T, ps, af, gd⟩ = execOp a.eval ⟨some t, .call ⟨.value (.func F), args.toArray, tys⟩, T, ps, af, gd⟩ by
    simp only [execOp, resolve, e]; rfl]
  exact h1⟩
/-- two numbers, and what the machine makes of them -/
theorem Qt.bin {op : BinOp} {x y : Operand} {X Y : Nat} {ka kb kc : IntKind} {m n r : Int} (h : evD f x = some (.c (.v (.int ka m)))) (hy : evD f y = some (.c (.v (.int kb n)))) (hr : ∀ w, (binOp op X (.int ka m) (.int kb n)).run P w = .ok (.int kc r) w) : Qt P c [] ⟨t, .binOp op X x y Y, T, ps, af, gd⟩ f L (.c (.v (.int kc r))) := ⟨fun a w s => by
  have rx := s.val h
  have ry := s.val hy
  refine ⟨.int kc r, by unfold RD RA; exact ⟨rfl, rfl⟩, fun w' k => ?_⟩
  simp [execOp, rx, ry, eqGuard_at_int, hr, Sem.run_bind]⟩
/-- the first elements of a row that is owned, as a slice -/
theorem Qt.sliceP {x hi : Operand} {X e sz b o N cap : Nat} {kd : IntKind} {n : Int} [i : TyS P X e sz] (h : evD f x = some (.c (.v (.slice (some ⟨b, o, none⟩) N cap)))) (hhi : evD f hi = some (.c (.v (.int kd n)))) (h0 : 0 ≤ n) (h1 : n ≤ N) (hN : N ≤ cap) : Qt P c [] ⟨t, .slice X x none (some hi) none, T, ps, af, gd⟩ f L (.c (.v (.slice (some ⟨b, o, none⟩) n.toNat cap))) := ⟨fun a w s => by
  have rx := s.val h
  have ry := s.val hhi
  refine ⟨_, by unfold RD RA; exact ⟨rfl, rfl⟩, fun w' k => ?_⟩
  have hsb : (Instr.sliceBounds true N cap (none : Option Value) (some (.int kd n)) none).run P w' = .ok (0, n.toNat, cap) w' := by
    unfold Instr.sliceBounds
    simp only [Sem.run_bind, Sem.run_pure, Result.andThen_ok, Option.isSome_none, Bool.false_eq_true, ↓reduceIte, Instr.sliceBound, asIntOf]
    rw [if_pos ⟨h0, by omega⟩]
    simp
  simp only [execOp, Option.map_none, Option.map_some, Instr.sliceAt, Instr.slice, rx, ry, Sem.run_bind, run_underlying (tyElem.und i.h), Result.andThen_ok, hsb, tySize.run i.s, Sem.run_pure]
  by_cases hc : cap = 0
  · simp [hc]
  · simp [hc, Addr.add_mid]⟩
/-- an element of it -/
theorem Qt.indexP (v : Value) {x y : Operand} {X e sz j b o n' cap' N cap : Nat} {kd : IntKind} {n : Int} {l : List (List A)} [i : TyS P X e sz] [bx : RowAt L v e sz l j] (hv : v = .slice (some ⟨b, o, none⟩) N cap) (h : evD f x = some (.c (.v (.slice (some ⟨b, o, none⟩) n' cap')))) (hy : evD f y = some (.c (.v (.int kd n)))) (hn : 0 ≤ n) (hk : n < n') : Qt P c [] ⟨t, .indexAddr X x y, T, ps, af, gd⟩ f L (.ow v sz n.toNat 0) := ⟨fun a w s => by
  have rx := s.val h
  have ry := s.val hy
  refine ⟨.pointer (some ⟨b, o + n.toNat * sz, none⟩), by unfold RD; exact ⟨b, o, N, cap, hv, by rw [Nat.add_zero]⟩, fun w' k => ?_⟩
  simp only [execOp, rx, ry, Instr.indexAt, asIntOf, Sem.run_bind, Sem.run_pure, Result.andThen_ok, run_underlying (tyElem.und i.h), hn, hk, and_self, ↓reduceIte, tySize.run i.s, Addr.add_mid]⟩
end
end Fl
end Go.Proofs.Ytgjpdogjekmemaa
