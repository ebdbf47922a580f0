/-
  What the laws need, part B27.
  Conditions: none.
-/
import Derived.Test.YtdjhhbpedllnhaaGreatB2
set_option linter.unusedVariables false
set_option linter.unusedSimpArgs false
set_option linter.unnecessarySimpa false
set_option maxHeartbeats 2000000
namespace Go.Proofs.YtdjhhbpedllnhaaGreat
open Go.RowKit
namespace Fl
section
variable {P:Program} {c:Cx} {k:List Item} {f:Fm} {L:List aj} {ops:Array Oper} {T X:TypeId} {ps:String} {af:Array Edge} {gd:Option (Nat × Bool)} {t:Nat}
theorem Ld.LD {x:Operand} {F:FuncId} {args:List Operand} {tys:Array TypeId} {dh ds:List D} {d:D} [i:aG P F] (hx:bg f x=some (.c (.v (.func (.func F) #[] #[])))) (hC:Pure P F ds d) (ht:t < c.N) (h:iw f args=some dh) (hle:aJ dh ds) :
  Ld P c ⟨some t,.call ⟨.value x,args.toArray,tys⟩,T,ps,af,gd⟩ f L [] (fun _:Unit=>(t,d) :: f) (fun _=>L):=⟨fun a w s K Q hK=>by
 have h1:=(Ld.pure (P:=P) (c:=c) (T:=T) (ps:=ps) (af:=af) (gd:=gd) (L:=L) (f:=f) (tys:=tys) hC ht h hle).go a w s K Q hK;have e:=s.val hx;unfold Oper.wp at h1 ⊢;rw [show execOp a.eval ⟨some t,.call ⟨.value x,args.toArray,tys⟩,T,ps,af,gd⟩=execOp a.eval ⟨some t,.call ⟨.value (.func F),args.toArray,tys⟩,T,ps,af,gd⟩ by
  simp only [execOp,resolve,e];rfl]
 exact h1⟩
theorem Qt.bin {op:BinOp} {x y:Operand} {X Y:Nat} {ka kb kc:IntKind} {m n r:Int} (h:bg f x=some (.c (.v (.int ka m)))) (hy:bg f y=some (.c (.v (.int kb n)))) (hr:∀ w,(binOp op X (.int ka m) (.int kb n)).run P w=.ok (.int kc r) w):Qt P c [] ⟨t,.binOp op X x y Y,T,ps,af,gd⟩ f L (.c (.v (.int kc r))):=⟨fun a w s=>by
 have rx:=s.val h;have ry:=s.val hy;refine ⟨.int kc r,by unfold RD RA;exact ⟨rfl,rfl⟩,fun w' k=>?_⟩;simp [execOp,rx,ry,eqGuard_at_int,hr,Sem.run_bind]⟩
theorem Qt.Vu {x hi:Operand} {X e sz b o N cap:Nat} {kd:IntKind} {n:Int} [i:fu P X e sz] (h:bg f x=some (.c (.v (.slice (some ⟨b,o,none⟩) N cap)))) (xO:bg f hi=some (.c (.v (.int kd n)))) (h0:0≤n) (h1:n≤N) (hN:N≤cap):Qt P c [] ⟨t,.slice X x none (some hi) none,T,ps,af,gd⟩ f L (.c (.v (.slice (some ⟨b,o,none⟩) n.toNat cap))):=⟨fun a w s=>by
 have rx:=s.val h;have ry:=s.val xO;refine ⟨_,by unfold RD RA;exact ⟨rfl,rfl⟩,fun w' k=>?_⟩;have pY:(Instr.sliceBounds true N cap (none:Option Value) (some (.int kd n)) none).run P w'=.ok (0,n.toNat,cap) w':=by
  unfold Instr.sliceBounds;simp only [Sem.run_bind,Sem.run_pure,Result.andThen_ok,Option.isSome_none,Bool.false_eq_true,↓reduceIte,Instr.sliceBound,asIntOf];rw [if_pos ⟨h0,by omega⟩];simp
 simp only [execOp,Option.map_none,Option.map_some,Instr.sliceAt,Instr.slice,rx,ry,Sem.run_bind,run_underlying (ke.jA i.h),Result.andThen_ok,pY,iQ.run i.s,Sem.run_pure]
 by_cases hc:cap=0
 ·simp [hc]
 ·simp [hc,Addr.add_mid]⟩
end
end Fl
end Go.Proofs.YtdjhhbpedllnhaaGreat
