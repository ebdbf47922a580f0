/-
  What the laws need, part A7.
  Conditions: none.
-/
import Derived.Test.YtdjhhbpedllnhaaGreatA6
set_option linter.unusedVariables false
set_option linter.unusedSimpArgs false
set_option linter.unnecessarySimpa false
set_option maxHeartbeats 2000000
/-
  Moves that need no fact,told once for all (the proofs that follow name them by gn,ga,tk).
  Conditions: none.
-/
namespace Go.Proofs.YtdjhhbpedllnhaaGreat
open Go.RowKit
set_option linter.unusedVariables false
theorem az {c:Prop} [Decidable c] {α:Type} {a b:α} (h:¬ c:=by omega):ite c a b=b:=if_neg h
namespace Fl
open Sx
theorem qb {n m:Nat} (h:Nat.ble n m=true):n≤m:=Nat.le_of_ble_eq_true h
/-- what a function is handed is what it wants -/
theorem lq {ds wE:List D} (h:aW ds wE:=by (repeat (first | exact aW.nil | refine aW.cons (eU.agg (by (repeat (first | exact .nil | refine .cons .refl ?_)) <;> exact .nil)) ?_ | refine aW.cons eU.refl ?_)) <;> exact aW.nil):aW ds wE:=h
section
variable {P:Program} {c:Cx} {kk:List Item} {f:Fm} {L:List an} {ops:Array Oper} {l:List Oper} {T X Y:TypeId} {ps:String} {af:Array Edge} {gd:Option (Nat × Bool)} {t:Nat}
theorem jq {o:Oper} {d:D} (hd:o.dst=some t) (hw:ee ops o f=true) (ht:Nat.ble (t + 1) c.N=true) {U:List Nat} (q:Qt P c U o f L d) (h:JO P c ops l kk ((t,d) :: f) L):JO P c ops (o :: l) kk f L:=JO.q hd hw (qb ht) q h
theorem jp {F:FuncId} {args:List Operand} {tys:Array TypeId} {dB ds:List D} {d:D} [i:aJ P F] (hC:Pure P F ds d) (hw:ee ops ⟨some t,.call ⟨.value (.func F),args.toArray,tys⟩,T,ps,af,gd⟩ f=true) (ht:Nat.ble (t + 1) c.N=true) (h:iR f args=some dB) (hle:aW dB ds) (hk:JO P c ops l kk ((t,d) :: f) L):JO P c ops (⟨some t,.call ⟨.value (.func F),args.toArray,tys⟩,T,ps,af,gd⟩ :: l) kk f L:=JO.pure hC hw (qb ht) h hle hk
theorem jx {x y:Operand} {e sz:Nat} {kd:IntKind} {n:Int} {r:List (List A)} {cs:List A} [i:fM P X e sz] (hw:ee ops ⟨some t,.indexAddr X x y,T,ps,af,gd⟩ f=true) (ht:Nat.ble (t + 1) c.N=true) (h:bg f x=some (.c (.r sz r))) (hy:bg f y=some (.c (.v (.int kd n)))) (hn:0≤n) (hk:r[n.toNat]?=some cs) (k:JO P c ops l kk ((t,.el cs 0) :: f) L):JO P c ops (⟨some t,.indexAddr X x y,T,ps,af,gd⟩ :: l) kk f L:=JO.q rfl hw (qb ht) (Qt.dc h hy hn hk) k
theorem jc {op:BinOp} {x y:Operand} {kd:IntKind} {m n:Int} {b b':Bool} (hw:ee ops ⟨some t,.binOp op X x y Y,T,ps,af,gd⟩ f=true) (ht:Nat.ble (t + 1) c.N=true) (h:bg f x=some (.c (.v (.int kd m)))) (hy:bg f y=some (.c (.v (.int kd n)))) (hF:b'=b) (hb:yg op m n=some b') (k:JO P c ops l kk ((t,.c (.v (.bool b))) :: f) L):JO P c ops (⟨some t,.binOp op X x y Y,T,ps,af,gd⟩ :: l) kk f L:=JO.q rfl hw (qb ht) (Qt.cmp h hy (hb.trans (congrArg some hF))) k
end
theorem Ep {s:ah} {g:Nat} (hg:g < s.gs.length):(s.gs.map eG)[((g:Int)).toNat]?=some (eG (aa s g)):=by
  unfold aa;rw [Int.toNat_natCast,List.getElem?_map,List.getD_eq_getElem?_getD,List.getElem?_eq_getElem hg];rfl
theorem Er {s:ah} {ch:Int} (h:aL s ch=true):(s.au.map eC)[(ch - 1).toNat]?=some (eC (cn s ch)):=by
  unfold aL at h;simp only [decide_eq_true_eq] at h;unfold cn;rw [List.getElem?_map,List.getD_eq_getElem?_getD,List.getElem?_eq_getElem (show (ch - 1).toNat < s.au.length by omega)];rfl
theorem Es {l:List Int} {k:Nat} {a:Int} (e:l[k]?=some a):(l.map fun n=>[nI n])[((k:Int)).toNat]?=some [nI a]:=by
  rw [Int.toNat_natCast,List.getElem?_map,e];rfl
section
variable {P:Program} {c:Cx} {kk:List Item} {f:Fm} {L:List an} {ops:Array Oper} {l:List Oper} {T X Y:TypeId} {ps:String} {af:Array Edge} {gd:Option (Nat × Bool)} {t:Nat}
theorem aR {F:FuncId} {args:List Operand} {tys:Array TypeId} {dB ds:List D} {d:D} [i:aJ P F] (hC:Pure P F ds d) (hk:JO P c ops l kk ((t,d) :: f) L) (hw:ee ops ⟨some t,.call ⟨.value (.func F),args.toArray,tys⟩,T,ps,af,gd⟩ f=true:=by exact rfl) (ht:Nat.ble (t + 1) c.N=true:=by exact rfl) (h:iR f args=some dB:=by exact rfl) (hle:aW dB ds:=by exact lq):JO P c ops (⟨some t,.call ⟨.value (.func F),args.toArray,tys⟩,T,ps,af,gd⟩ :: l) kk f L:=jp hC hw ht h hle hk
theorem aK {op:BinOp} {x y:Operand} {kd:IntKind} {m n:Int} {b b':Bool} (hF:b'=b) (k:JO P c ops l kk ((t,.c (.v (.bool b))) :: f) L) (hw:ee ops ⟨some t,.binOp op X x y Y,T,ps,af,gd⟩ f=true:=by exact rfl) (ht:Nat.ble (t + 1) c.N=true:=by exact rfl) (h:bg f x=some (.c (.v (.int kd m))):=by exact rfl) (hy:bg f y=some (.c (.v (.int kd n))):=by exact rfl) (hb:yg op m n=some b':=by exact rfl):JO P c ops (⟨some t,.binOp op X x y Y,T,ps,af,gd⟩ :: l) kk f L:=jc hw ht h hy hF hb k
theorem Q2 {ds wE:List D} (h:aW ds wE:=by (repeat (first | exact aW.nil | refine aW.cons (eU.agg (by (repeat (first | exact .nil | refine .cons .refl ?_ | refine .cons .nil ?_ | refine .cons .snoc ?_ | refine .cons .clone ?_)) <;> exact .nil)) ?_ | refine aW.cons eU.refl ?_ | refine aW.cons (eU.c mc.nil) ?_ | refine aW.cons (eU.c mc.snoc) ?_ | refine aW.cons (eU.c mc.clone) ?_)) <;> exact aW.nil):aW ds wE:=h
theorem mM {F:FuncId} {args:List Operand} {tys:Array TypeId} {dB ds:List D} {d:D} [i:aJ P F] (hC:Pure P F ds d) (hk:JO P c ops l kk ((t,d) :: f) L) (hw:ee ops ⟨some t,.call ⟨.value (.func F),args.toArray,tys⟩,T,ps,af,gd⟩ f=true:=by exact rfl) (ht:Nat.ble (t + 1) c.N=true:=by exact rfl) (h:iR f args=some dB:=by exact rfl) (hle:aW dB ds:=by exact Q2):JO P c ops (⟨some t,.call ⟨.value (.func F),args.toArray,tys⟩,T,ps,af,gd⟩ :: l) kk f L:=jp hC hw ht h hle hk
end
structure K0 (B:Prop):Prop where out:B
/-- one move that needs no fact,and names nothing -/
theorem gn {G B:Prop} (k:B) (h:K0 B→G:=by
  intro k
  first
    | (refine K.binOp ?_;refine jc rfl rfl rfl rfl (by assumption) rfl ?_;exact k.out)
    | (refine K.call ?_;refine jp (by assumption) rfl rfl rfl lq ?_;exact k.out)
    | (refine K.indexAddr ?_;refine jx rfl rfl rfl rfl (by omega) (Ep (by assumption)) ?_;exact k.out)
    | (refine K.indexAddr ?_;refine jx rfl rfl rfl rfl (by omega) (Er (by assumption)) ?_;exact k.out)
    | (refine K.indexAddr ?_;refine jx rfl rfl rfl rfl (by omega) (Es (by assumption)) ?_;exact k.out)
    | (refine K.indexAddr ?_;refine jx rfl rfl rfl rfl (by omega) (by assumption) ?_;exact k.out)
    | (refine K.fieldAddr ?_;refine JO.q rfl rfl (qb rfl) (Qt.fieldAddr rfl rfl) ?_;exact k.out)
    | (refine K.load ?_;refine JO.q rfl rfl (qb rfl) (Qt.wu rfl .el rfl) ?_;exact k.out)
    | (refine K.load ?_;refine JO.q rfl rfl (qb rfl) (Qt.wv rfl .el rfl) ?_;exact k.out)
    | (refine K.load ?_;refine JO.q rfl rfl (qb rfl) (Qt.uH rfl .el rfl rfl) ?_;exact k.out)
    | (refine K.load ?_;refine JO.q rfl rfl (qb rfl) (Qt.lf rfl (by exact rfl)) ?_;exact k.out)
    | (refine K.load ?_;refine JO.q rfl rfl (qb rfl) (Qt.Be rfl (by exact rfl)) ?_;exact k.out)
    | (refine K.load ?_;refine JO.q rfl rfl (qb rfl) (Qt.Bf rfl (by exact rfl) (by exact rfl)) ?_;exact k.out)
    | (refine K.move ?_;refine JO.q rfl rfl (qb rfl) (Qt.move rfl) ?_;exact k.out)
    | (refine K.store ?_;refine JO.ld (Ld.bh rfl rfl rfl (by exact rfl) (by exact rfl)) rfl (fun _=>?_);exact k.out)
    | (refine K.store ?_;refine JO.ld (Ld.di rfl rfl (by exact rfl)) rfl (fun _=>?_);exact k.out)
    | (refine K.store ?_;refine JO.ld (Ld.rI rfl rfl rfl (by exact rfl) (by exact rfl)) rfl (fun _=>?_);exact k.out)
    | (refine K.assign ?_;refine JO.q rfl rfl (qb rfl) (Qt.assign rfl) ?_;exact k.out)
    | (refine K.binOp ?_;refine JO.q rfl rfl (qb rfl) (Qt.cmp rfl rfl rfl) ?_;exact k.out)
    | (refine K.binOp ?_;refine JO.q rfl rfl (qb rfl) (Qt.Bi rfl rfl) ?_;exact k.out)
    | (refine K.binOp ?_;refine JO.q rfl rfl (qb rfl) (Qt.yh rfl rfl) ?_;exact k.out)
    | (refine K.unOp ?_;refine JO.q rfl rfl (qb rfl) (Qt.not rfl) ?_;exact k.out)
    | (refine K.bi ?_;refine JO.q rfl rfl (qb rfl) (Qt.wA rfl) ?_;exact k.out)
    | (refine K.bi ?_;refine JO.q rfl rfl (qb rfl) (Qt.wz rfl) ?_;exact k.out)
    | (refine K.bi ?_;refine JO.q rfl rfl (qb rfl) (Qt.Bj rfl) ?_;exact k.out)
    | (refine K.bi ?_;refine JO.q rfl rfl (qb rfl) (Qt.yj rfl) ?_;exact k.out)
    | (refine K.extract ?_;refine JO.q rfl rfl (qb rfl) (Qt.extract rfl rfl) ?_;exact k.out)
    | (refine K.pick ?_;refine JO.q rfl rfl (qb rfl) (Qt.pick rfl rfl) ?_;exact k.out)
    | (refine K.build ?_;refine JO.q rfl rfl (qb rfl) (Qt.build rfl (by kernel_rfl)) ?_;exact k.out)
    | (refine K.nilCheck ?_;refine JO.q rfl rfl (qb rfl) (Qt.nilCheck rfl rfl) ?_;exact k.out)
    | (refine K.field ?_;refine JO.q rfl rfl (qb rfl) (Qt.field rfl rfl (by kernel_rfl) rfl) ?_;exact k.out)
    | (refine K.convert ?_;refine JO.q rfl rfl (qb rfl) (Qt.conv rfl rfl) ?_;exact k.out)
    | (refine JO.nil ?_;exact k.out)
    | (refine J.seq ?_;exact k.out)
    | (refine J.region ?_;exact k.out)
    | (refine J.block ?_;exact k.out)
    | (refine J.inBlock ?_;exact k.out)
    | (refine J.skip ?_;exact k.out)
    | (refine J.exit rfl ?_;exact k.out)
    | (refine J.iy rfl ?_;exact k.out)
    | (refine J.gK rfl ?_;exact k.out)
    | (refine K.binOp ?_;refine jq rfl rfl rfl (Qt.cI rfl rfl rfl (eK (by omega) (by omega))) ?_;exact k.out)
    | (refine JO.no rfl rfl (qb rfl) ?_;exact k.out)):G:=h ⟨k⟩
/-- the same,or a block is made (then its number is to be named) -/
theorem ay {G B:Prop} (k:B) (h:K0 B→G:=by
  intro k
  first
    | (refine K.binOp ?_;refine jc rfl rfl rfl rfl (by assumption) rfl ?_;exact k.out)
    | (refine K.call ?_;refine jp (by assumption) rfl rfl rfl lq ?_;exact k.out)
    | (refine K.indexAddr ?_;refine jx rfl rfl rfl rfl (by omega) (Ep (by assumption)) ?_;exact k.out)
    | (refine K.indexAddr ?_;refine jx rfl rfl rfl rfl (by omega) (Er (by assumption)) ?_;exact k.out)
    | (refine K.indexAddr ?_;refine jx rfl rfl rfl rfl (by omega) (Es (by assumption)) ?_;exact k.out)
    | (refine K.indexAddr ?_;refine jx rfl rfl rfl rfl (by omega) (by assumption) ?_;exact k.out)
    | (refine K.fieldAddr ?_;refine JO.q rfl rfl (qb rfl) (Qt.fieldAddr rfl rfl) ?_;exact k.out)
    | (refine K.load ?_;refine JO.q rfl rfl (qb rfl) (Qt.wu rfl .el rfl) ?_;exact k.out)
    | (refine K.load ?_;refine JO.q rfl rfl (qb rfl) (Qt.wv rfl .el rfl) ?_;exact k.out)
    | (refine K.load ?_;refine JO.q rfl rfl (qb rfl) (Qt.uH rfl .el rfl rfl) ?_;exact k.out)
    | (refine K.load ?_;refine JO.q rfl rfl (qb rfl) (Qt.lf rfl (by exact rfl)) ?_;exact k.out)
    | (refine K.load ?_;refine JO.q rfl rfl (qb rfl) (Qt.Be rfl (by exact rfl)) ?_;exact k.out)
    | (refine K.load ?_;refine JO.q rfl rfl (qb rfl) (Qt.Bf rfl (by exact rfl) (by exact rfl)) ?_;exact k.out)
    | (refine K.move ?_;refine JO.q rfl rfl (qb rfl) (Qt.move rfl) ?_;exact k.out)
    | (refine K.store ?_;refine JO.ld (Ld.bh rfl rfl rfl (by exact rfl) (by exact rfl)) rfl (fun _=>?_);exact k.out)
    | (refine K.store ?_;refine JO.ld (Ld.di rfl rfl (by exact rfl)) rfl (fun _=>?_);exact k.out)
    | (refine K.store ?_;refine JO.ld (Ld.rI rfl rfl rfl (by exact rfl) (by exact rfl)) rfl (fun _=>?_);exact k.out)
    | (refine K.assign ?_;refine JO.q rfl rfl (qb rfl) (Qt.assign rfl) ?_;exact k.out)
    | (refine K.binOp ?_;refine JO.q rfl rfl (qb rfl) (Qt.cmp rfl rfl rfl) ?_;exact k.out)
    | (refine K.binOp ?_;refine JO.q rfl rfl (qb rfl) (Qt.Bi rfl rfl) ?_;exact k.out)
    | (refine K.binOp ?_;refine JO.q rfl rfl (qb rfl) (Qt.yh rfl rfl) ?_;exact k.out)
    | (refine K.unOp ?_;refine JO.q rfl rfl (qb rfl) (Qt.not rfl) ?_;exact k.out)
    | (refine K.bi ?_;refine JO.q rfl rfl (qb rfl) (Qt.wA rfl) ?_;exact k.out)
    | (refine K.bi ?_;refine JO.q rfl rfl (qb rfl) (Qt.wz rfl) ?_;exact k.out)
    | (refine K.bi ?_;refine JO.q rfl rfl (qb rfl) (Qt.Bj rfl) ?_;exact k.out)
    | (refine K.bi ?_;refine JO.q rfl rfl (qb rfl) (Qt.yj rfl) ?_;exact k.out)
    | (refine K.extract ?_;refine JO.q rfl rfl (qb rfl) (Qt.extract rfl rfl) ?_;exact k.out)
    | (refine K.pick ?_;refine JO.q rfl rfl (qb rfl) (Qt.pick rfl rfl) ?_;exact k.out)
    | (refine K.build ?_;refine JO.q rfl rfl (qb rfl) (Qt.build rfl (by kernel_rfl)) ?_;exact k.out)
    | (refine K.nilCheck ?_;refine JO.q rfl rfl (qb rfl) (Qt.nilCheck rfl rfl) ?_;exact k.out)
    | (refine K.field ?_;refine JO.q rfl rfl (qb rfl) (Qt.field rfl rfl (by kernel_rfl) rfl) ?_;exact k.out)
    | (refine K.convert ?_;refine JO.q rfl rfl (qb rfl) (Qt.conv rfl rfl) ?_;exact k.out)
    | (refine JO.nil ?_;exact k.out)
    | (refine J.seq ?_;exact k.out)
    | (refine J.region ?_;exact k.out)
    | (refine J.block ?_;exact k.out)
    | (refine J.inBlock ?_;exact k.out)
    | (refine J.skip ?_;exact k.out)
    | (refine J.exit rfl ?_;exact k.out)
    | (refine J.iy rfl ?_;exact k.out)
    | (refine J.gK rfl ?_;exact k.out)
    | (refine K.binOp ?_;refine jq rfl rfl rfl (Qt.cI rfl rfl rfl (eK (by omega) (by omega))) ?_;exact k.out)
    | (refine JO.alloc rfl (qb rfl) ?_;exact k.out)
    | (refine JO.box rfl (qb rfl) rfl rfl ?_;exact k.out)
    | (refine JO.gR rfl (qb rfl) ?_;exact k.out)
    | (refine JO.fO rfl (qb rfl) rfl rfl rfl rfl rfl ?_;exact k.out)
    | (refine JO.no rfl rfl (qb rfl) ?_;exact k.out)):G:=h ⟨k⟩
/-- one move that needs no fact,and stays in the region -/
theorem tu {G B:Prop} (k:B) (h:K0 B→G:=by
  intro k
  first
    | (refine K.binOp ?_;refine jc rfl rfl rfl rfl (by assumption) rfl ?_;exact k.out)
    | (refine K.call ?_;refine jp (by assumption) rfl rfl rfl lq ?_;exact k.out)
    | (refine K.indexAddr ?_;refine jx rfl rfl rfl rfl (by omega) (Ep (by assumption)) ?_;exact k.out)
    | (refine K.indexAddr ?_;refine jx rfl rfl rfl rfl (by omega) (Er (by assumption)) ?_;exact k.out)
    | (refine K.indexAddr ?_;refine jx rfl rfl rfl rfl (by omega) (Es (by assumption)) ?_;exact k.out)
    | (refine K.indexAddr ?_;refine jx rfl rfl rfl rfl (by omega) (by assumption) ?_;exact k.out)
    | (refine K.fieldAddr ?_;refine JO.q rfl rfl (qb rfl) (Qt.fieldAddr rfl rfl) ?_;exact k.out)
    | (refine K.load ?_;refine JO.q rfl rfl (qb rfl) (Qt.wu rfl .el rfl) ?_;exact k.out)
    | (refine K.load ?_;refine JO.q rfl rfl (qb rfl) (Qt.wv rfl .el rfl) ?_;exact k.out)
    | (refine K.load ?_;refine JO.q rfl rfl (qb rfl) (Qt.uH rfl .el rfl rfl) ?_;exact k.out)
    | (refine K.load ?_;refine JO.q rfl rfl (qb rfl) (Qt.lf rfl (by exact rfl)) ?_;exact k.out)
    | (refine K.load ?_;refine JO.q rfl rfl (qb rfl) (Qt.Be rfl (by exact rfl)) ?_;exact k.out)
    | (refine K.load ?_;refine JO.q rfl rfl (qb rfl) (Qt.Bf rfl (by exact rfl) (by exact rfl)) ?_;exact k.out)
    | (refine K.move ?_;refine JO.q rfl rfl (qb rfl) (Qt.move rfl) ?_;exact k.out)
    | (refine K.store ?_;refine JO.ld (Ld.bh rfl rfl rfl (by exact rfl) (by exact rfl)) rfl (fun _=>?_);exact k.out)
    | (refine K.store ?_;refine JO.ld (Ld.di rfl rfl (by exact rfl)) rfl (fun _=>?_);exact k.out)
    | (refine K.store ?_;refine JO.ld (Ld.rI rfl rfl rfl (by exact rfl) (by exact rfl)) rfl (fun _=>?_);exact k.out)
    | (refine K.assign ?_;refine JO.q rfl rfl (qb rfl) (Qt.assign rfl) ?_;exact k.out)
    | (refine K.binOp ?_;refine JO.q rfl rfl (qb rfl) (Qt.cmp rfl rfl rfl) ?_;exact k.out)
    | (refine K.binOp ?_;refine JO.q rfl rfl (qb rfl) (Qt.Bi rfl rfl) ?_;exact k.out)
    | (refine K.binOp ?_;refine JO.q rfl rfl (qb rfl) (Qt.yh rfl rfl) ?_;exact k.out)
    | (refine K.unOp ?_;refine JO.q rfl rfl (qb rfl) (Qt.not rfl) ?_;exact k.out)
    | (refine K.bi ?_;refine JO.q rfl rfl (qb rfl) (Qt.wA rfl) ?_;exact k.out)
    | (refine K.bi ?_;refine JO.q rfl rfl (qb rfl) (Qt.wz rfl) ?_;exact k.out)
    | (refine K.bi ?_;refine JO.q rfl rfl (qb rfl) (Qt.Bj rfl) ?_;exact k.out)
    | (refine K.bi ?_;refine JO.q rfl rfl (qb rfl) (Qt.yj rfl) ?_;exact k.out)
    | (refine K.extract ?_;refine JO.q rfl rfl (qb rfl) (Qt.extract rfl rfl) ?_;exact k.out)
    | (refine K.pick ?_;refine JO.q rfl rfl (qb rfl) (Qt.pick rfl rfl) ?_;exact k.out)
    | (refine K.build ?_;refine JO.q rfl rfl (qb rfl) (Qt.build rfl (by kernel_rfl)) ?_;exact k.out)
    | (refine K.nilCheck ?_;refine JO.q rfl rfl (qb rfl) (Qt.nilCheck rfl rfl) ?_;exact k.out)
    | (refine K.field ?_;refine JO.q rfl rfl (qb rfl) (Qt.field rfl rfl (by kernel_rfl) rfl) ?_;exact k.out)
    | (refine K.convert ?_;refine JO.q rfl rfl (qb rfl) (Qt.conv rfl rfl) ?_;exact k.out)
    | (refine K.binOp ?_;refine jq rfl rfl rfl (Qt.cI rfl rfl rfl (eK (by omega) (by omega))) ?_;exact k.out)
    | (refine JO.no rfl rfl (qb rfl) ?_;exact k.out)):G:=h ⟨k⟩
/-- a block is made -/
theorem ga {G:Prop} {B:Nat→Prop} (k:∀ b,B b) (h:(∀ b,B b)→G:=by
  intro k
  first
    | (refine JO.alloc rfl (qb rfl) ?_;intro b;exact k b)
    | (refine JO.box rfl (qb rfl) rfl rfl ?_;intro b;exact k b)
    | (refine JO.gR rfl (qb rfl) ?_;intro b;exact k b)
    | (refine JO.fO rfl (qb rfl) rfl rfl rfl rfl rfl ?_;intro b;exact k b)):G:=h k
/-- number i of a region that draws,which looks -/
def Tk (i:Nat) (B:Prop):Prop:=B
section
variable {P:Program} {c:Cx} {k:List Item} {f f0:Fm} {L L0:List an} {ops:Array Oper} {o:Oper} {m:Option Nat} {T:List Nat} {n t:Nat} {d:D} {aM:Array Bool} {U:List Nat}
theorem JD.iL {i:Nat} {B:Prop} (kk:Tk i B) (hi:ops[i]?=some o) (hd:o.dst=some t) (hk:yz .any ops m aM i=true) (hw:ee ops o f0=true) (ht:t < c.N) (q:Qt P c U o f0 L0 d) (hu:(U.all fun j=>!T.contains j)=true) (hB:B=JD P c ops m T n (aM.setIfInBounds i true) k ((t,d) :: f) L ((t,d) :: f0) L0):JD P c ops m T (n + 1) aM k f L f0 L0 :=
  JD.take i hi hd hk hw ht q hu (hB ▸ kk)
end
theorem tk (i:Nat) {G B:Prop} (k:Tk i B) (h:Tk i B→G:=by
  intro k
  first
    | exact JD.iL k rfl rfl (by kernel_rfl) rfl (qb rfl) (Qt.move rfl) rfl rfl
    | exact JD.iL k rfl rfl (by kernel_rfl) rfl (qb rfl) (Qt.assign rfl) rfl rfl
    | exact JD.iL k rfl rfl (by kernel_rfl) rfl (qb rfl) (Qt.fieldAddr rfl rfl) rfl rfl
    | exact JD.iL k rfl rfl (by kernel_rfl) rfl (qb rfl) (Qt.nilCheck rfl rfl) rfl rfl
    | exact JD.iL k rfl rfl (by kernel_rfl) rfl (qb rfl) (Qt.wu rfl .el rfl) rfl rfl
    | exact JD.iL k rfl rfl (by kernel_rfl) rfl (qb rfl) (Qt.wv rfl .el rfl) rfl rfl
    | exact JD.iL k rfl rfl (by kernel_rfl) rfl (qb rfl) (Qt.uH rfl .el rfl rfl) rfl rfl
    | exact JD.iL k rfl rfl (by kernel_rfl) rfl (qb rfl) (Qt.lf rfl (by exact rfl)) rfl rfl
    | exact JD.iL k rfl rfl (by kernel_rfl) rfl (qb rfl) (Qt.Be rfl (by exact rfl)) rfl rfl
    | exact JD.iL k rfl rfl (by kernel_rfl) rfl (qb rfl) (Qt.Bf rfl (by exact rfl) (by exact rfl)) rfl rfl
    | exact JD.iL k rfl rfl (by kernel_rfl) rfl (qb rfl) (Qt.extract rfl rfl) rfl rfl
    | exact JD.iL k rfl rfl (by kernel_rfl) rfl (qb rfl) (Qt.pick rfl rfl) rfl rfl
    | exact JD.iL k rfl rfl (by kernel_rfl) rfl (qb rfl) (Qt.not rfl) rfl rfl
    | exact JD.iL k rfl rfl (by kernel_rfl) rfl (qb rfl) (Qt.wA rfl) rfl rfl
    | exact JD.iL k rfl rfl (by kernel_rfl) rfl (qb rfl) (Qt.wz rfl) rfl rfl
    | exact JD.iL k rfl rfl (by kernel_rfl) rfl (qb rfl) (Qt.Bj rfl) rfl rfl
    | exact JD.iL k rfl rfl (by kernel_rfl) rfl (qb rfl) (Qt.yj rfl) rfl rfl
    | exact JD.iL k rfl rfl (by kernel_rfl) rfl (qb rfl) (Qt.cmp rfl rfl rfl) rfl rfl
    | exact JD.iL k rfl rfl (by kernel_rfl) rfl (qb rfl) (Qt.Bi rfl rfl) rfl rfl
    | exact JD.iL k rfl rfl (by kernel_rfl) rfl (qb rfl) (Qt.yh rfl rfl) rfl rfl
    | exact JD.iL k rfl rfl (by kernel_rfl) rfl (qb rfl) (Qt.build rfl (by kernel_rfl)) rfl rfl
    | exact JD.iL k rfl rfl (by kernel_rfl) rfl (qb rfl) (Qt.field rfl rfl (by kernel_rfl) rfl) rfl rfl
    | exact JD.iL k rfl rfl (by kernel_rfl) rfl (qb rfl) (Qt.conv rfl rfl) rfl rfl):G:=h k
theorem Tk.mk {i:Nat} {B:Prop} (h:B):Tk i B:=h
theorem la {cs ds:List A} (h:jr cs ds:=by (repeat (first | exact .nil | refine .cons .refl ?_)) <;> exact .nil):eU (.agg cs) (.agg ds):=.agg h
section
variable {P:Program} {c:Cx} {k:List Item} {f f0:Fm} {L L0:List an} {ops:Array Oper} {o:Oper} {m:Option Nat} {T:List Nat} {n t:Nat} {d:D} {aM:Array Bool} {U S:List Nat}
theorem jl (i:Nat) {ι:Type} {g:ι→D} {L':ι→List an} (hi:ops[i]?=some o) (hd:o.dst=some t) (hw:ee ops o f=true) (ht:Nat.ble (t + 1) c.N=true) (q:Ld P c o f L S (fun x=>(t,g x) :: f) L') (hS:Since T L0 L S) (h:∀ x,JD P c ops m T n (aM.setIfInBounds i true) k ((t,g x) :: f) (L' x) ((t,stays (g x)) :: f0) L0) (hr:Region.ready .any ops aM=[i]:=by kernel_rfl):JD P c ops m T (n + 1) aM k f L f0 L0:=JD.gD hr (JS.cK hi hd hw (qb ht) q hS h)
theorem jk (i:Nat) (hi:ops[i]?=some o) (hd:o.dst=some t) (hw:ee ops o f=true) (ht:Nat.ble (t + 1) c.N=true) (q:Qt P c U o f L d) (h:JD P c ops m T n (aM.setIfInBounds i true) k ((t,d) :: f) L ((t,stays d) :: f0) L0) (hr:Region.ready .any ops aM=[i]:=by kernel_rfl):JD P c ops m T (n + 1) aM k f L f0 L0:=JD.gD hr (JS.q hi hd hw (qb ht) q h)
theorem jt (i:Nat) {ι:Type} {f':ι→Fm} {L':ι→List an} (hi:ops[i]?=some o) (hw:ee ops o f=true) (q:Ld P c o f L S f' L') (h:∀ x,JW P c ops n (aM.setIfInBounds i true) k (f' x) (L' x)) (hr:Region.ready .any ops aM=[i]:=by kernel_rfl):JD P c ops (some i) T (n + 1) aM k f L f0 L0:=JD.gD hr (JS.last hi hw q h)
theorem c9 (i:Nat) {F:FuncId} {args:List Operand} {tys:Array TypeId} {dB ds:List D} {X:TypeId} {ps:String} {af:Array Edge} {gd:Option (Nat × Bool)} [aJ P F] (hC:Pure P F ds d) (h:JD P c ops m T n (aM.setIfInBounds i true) k ((t,d) :: f) L ((t,stays d) :: f0) L0) (hi:ops[i]?=some ⟨some t,.call ⟨.value (.func F),args.toArray,tys⟩,X,ps,af,gd⟩:=by exact rfl) (hw:ee ops ⟨some t,.call ⟨.value (.func F),args.toArray,tys⟩,X,ps,af,gd⟩ f=true:=by exact rfl) (ht:Nat.ble (t + 1) c.N=true:=by exact rfl) (he:iR f args=some dB:=by exact rfl) (hle:aW dB ds:=by exact lq) (hr:Region.ready .any ops aM=[i]:=by kernel_rfl):JD P c ops m T (n + 1) aM k f L f0 L0:=jl i hi rfl hw ht (Ld.pure hC (qb ht) he hle) .none (fun _=>h) hr
theorem bX (h:J P c k f L) (hl:Region.ready .any ops aM=[]:=by kernel_rfl):JD P c ops m T n aM k f L f0 L0:=JD.done hl h
theorem cu (h:J P c k f L) (hl:Region.ready .any ops aM=[]:=by kernel_rfl):JW P c ops n aM k f L:=JW.done hl h
end
section
variable {P:Program} {F:FuncId} {fn:Func} {ok:Nat→Prop} {e:World} {L0 L:List an} {post:Unit→D × List an} {N:Nat} {k:List Item} {f:Fm}
theorem aC (hf:P.funcs[F]?=some fn) {rs:List ResultVar} {ds:List D} {d:D} (iQ:fn.results=rs.toArray:=by exact rfl) (h:iI P f L rs ds:=by
  repeat (first | exact .nil | apply iI.cons (.tmp rfl) | apply iI.cons (.cell 0 rfl rfl rfl) | apply iI.cons (.cell 1 rfl rfl rfl) | apply iI.cons (.cell 2 rfl rfl rfl) | apply iI.cons (.cell 3 rfl rfl rfl) | apply iI.cons (.cell 4 rfl rfl rfl) | apply iI.cons (.cell 5 rfl rfl rfl) | apply iI.cons (.cell 6 rfl rfl rfl) | apply iI.cons (.cell 7 rfl rfl rfl) | apply iI.cons (.cell 8 rfl rfl rfl))) (hp:post ()=(d,[]):=by exact rfl) (hle:eU (qh ds) d:=by first | exact .refl | exact la):J P (cx F ok e L0 post N) (.code .ret :: k) f L:=J.ret hf iQ h () hle [] .nil rfl hp
end
end Fl
open Go.RowKit
theorem Q3:kz Tryz.prog 28 3 1 8 (.int .i64 0):=⟨Tryz.underlying28,by kernel_rfl,rfl,by decide,by decide⟩
def lB (w:World) (p:Value) (l:List Int) (S:List Nat):Prop :=
 ∃ b v T,p=.pointer (some ⟨b,0,none⟩)∧cr w b [v] 128∧Row w v 3 1 l.length (l.map (Value.int .i64)) T∧b∉T∧S=b :: T
theorem lB.aY {w w':World} {p:Value} {l:List Int} {S T:List Nat} (h:lB w p l S) (k:aq T w w') (hn:∀ x∈S,x∉T):lB w' p l S:=by
 obtain ⟨b,v,U,rfl,hb,hr,hd,rfl⟩:=h;exact ⟨b,v,U,rfl,hb.aY k (hn b (by simp)),hr.aY k (fun x hx=>hn x (by simp [hx])),hd,rfl⟩
theorem lB.lt {w:World} {p:Value} {l:List Int} {S:List Nat} (h:lB w p l S):∀ k∈S,k < w.heap.size:=by
 obtain ⟨b,v,U,rfl,hb,hr,hd,rfl⟩:=h;intro k hk;rcases List.mem_cons.1 hk with rfl | hk
 ·exact hb.lt
 ·exact hr.lt k hk
theorem lB.shape {w:World} {p:Value} {l:List Int} {S:List Nat} (h:lB w p l S):∃ b,p=.pointer (some ⟨b,0,none⟩):=by
 obtain ⟨b,v,U,rfl,_⟩:=h;exact ⟨b,rfl⟩
namespace Lt
def has (l:List Int) (i:Int):Bool:=decide (0≤i) && decide (i < l.length)
def owner (l:List Int) (i:Int):Int:=if has l i then l.getD i.toNat 0 else -1
def lC (l:List Int) (i ep:Int):Bool:=has l i && decide (0≤ep) && (l.getD i.toNat 0 == -1)
def lD (l:List Int) (i ep:Int):List Int:=if lC l i ep then l.set i.toNat ep else l
def nJ (l:List Int) (i ep:Int):Bool:=has l i && decide (0≤ep) && (l.getD i.toNat 0 == ep)
def oo (l:List Int) (i ep:Int):List Int:=if nJ l i ep then l.set i.toNat (-1) else l
end Lt
theorem Q4 (w:World) (p:Value) (l:List Int) (S:List Nat) (i:Int) (h:lB w p l S) :
  Calls Tryz.prog 61 #[p,.int .i64 i] w fun e w'=>e=.returned (.int .i64 (Lt.owner l i))∧w=w':=by
 obtain ⟨b,v,U,rfl,hb,hr,hd,rfl⟩:=h;have hm:=hr.le;unfold maxLen at hm;obtain ⟨ao,cap,rfl⟩:=hr.shape;have c0:w.cell? ⟨b,0,none⟩=some (.slice ao l.length cap):=hb.cell 0
 by_cases h1:0≤i
 ·by_cases h2:i < l.length
  ·obtain ⟨n,rfl⟩:=Int.eq_ofNat_of_zero_le h1;obtain ⟨g,off,rfl,_,_,hc,_⟩:=hr.cells (by omega);have c1:w.cell? ⟨g,off + n,none⟩=some (.int .i64 (l.getD n 0)):=by
    rw [hc n (by simpa using by omega)];simp [List.getD,show n < l.length by omega]
   have dS:Lt.owner l n=l.getD n 0:=by simp [Lt.owner,Lt.has,show n < l.length by omega]
   rw [dS];clear hb hr hd hc dS
   go_enter Tryz.func61,Tryz.ntmps61
   go_wp2
   go_ret
   exact ⟨rfl,rfl⟩
  ·have dS:Lt.owner l i=-1:=by simp [Lt.owner,Lt.has,h2]
   rw [dS];clear hb hr hd dS
   go_enter Tryz.func61,Tryz.ntmps61
   go_wp2
   go_ret
   exact ⟨rfl,rfl⟩
 ·have dS:Lt.owner l i=-1:=by simp [Lt.owner,Lt.has,h1]
  rw [dS];clear hb hr hd dS
  go_enter Tryz.func61,Tryz.ntmps61
  go_wp2
  go_ret
  exact ⟨rfl,rfl⟩
theorem Q5 (w:World) (p:Value) (l:List Int) (S:List Nat) (i ep:Int) (h:lB w p l S) :
  Calls Tryz.prog 108 #[p,.int .i64 i,.int .i64 ep] w fun e w'=>e=.returned (.bool (Lt.lC l i ep))∧lB w' p (Lt.lD l i ep) S∧aq S w w':=by
 have h0:=h;obtain ⟨b,v,U,rfl,hb,hr,hd,rfl⟩:=h;have hm:=hr.le;unfold maxLen at hm;obtain ⟨ao,cap,rfl⟩:=hr.shape;have c0:w.cell? ⟨b,0,none⟩=some (.slice ao l.length cap):=hb.cell 0
 by_cases hi:0≤i∧i < l.length
 ·obtain ⟨h1,h2⟩:=hi;obtain ⟨n,rfl⟩:=Int.eq_ofNat_of_zero_le h1;obtain ⟨g,off,rfl,rfl,_,hc,hf⟩:=hr.cells (by omega);have eY:=hr.stored n (by simpa using by omega) (.int .i64 ep);have c1:w.cell? ⟨g,off + n,none⟩=some (.int .i64 (l.getD n 0)):=by
   rw [hc n (by simpa using by omega)];simp [List.getD,show n < l.length by omega]
  have f1:=hf n;have mN:b≠g:=by simpa using hd
  have oY:=hb.other (a:=⟨g,off + n,none⟩) mN (.int .i64 ep)
  by_cases h3:0≤ep
  ·cases h4:(l.getD n 0 == (-1)) with
   | true =>
    have dS:Lt.lC l n ep=true:=by simp only [Lt.lC,Lt.has];simp only [Int.toNat_natCast,h4];simp;omega
    have iM:Lt.lD l n ep=l.set n ep:=by simp [Lt.lD,dS]
    rw [dS,iM];have h5:(l.getD n 0 != (-1))=false:=by simpa using h4
    have iQ:lB (w.setCell ⟨g,off + n,none⟩ (.int .i64 ep)) (.pointer (some ⟨b,0,none⟩)) (l.set n ep) [b,g] :=
     ⟨b,_,_,rfl,oY,by simpa using eY.1,by simpa using mN,rfl⟩
    have hk:=eY.2.mono (T:=[b,g]) (by simp);clear hb hr hd hc hf eY dS iM oY h0;generalize l.getD n 0=x at *
    go_enter Tryz.func108,Tryz.ntmps108
    go_wp2
    go_ret
    exact ⟨rfl,iQ,hk⟩
   | false =>
    have dS:Lt.lC l n ep=false:=by simp only [Lt.lC];simp only [Int.toNat_natCast,h4];simp
    have iM:Lt.lD l n ep=l:=by simp [Lt.lD,dS]
    rw [dS,iM];have h5:(l.getD n 0 != (-1))=true:=by simpa using h4
    clear hb hr hd hc hf eY dS iM oY;generalize l.getD n 0=x at *
    go_enter Tryz.func108,Tryz.ntmps108
    go_wp2
    go_ret
    exact ⟨rfl,h0,aq.refl _ _⟩
  ·have dS:Lt.lC l n ep=false:=by simp only [Lt.lC];simp [h3]
   have iM:Lt.lD l n ep=l:=by simp [Lt.lD,dS]
   rw [dS,iM];clear hb hr hd hc hf eY dS iM oY c1 f1
   go_enter Tryz.func108,Tryz.ntmps108
   go_wp2
   go_ret
   exact ⟨rfl,h0,aq.refl _ _⟩
 ·have dS:Lt.lC l i ep=false:=by
   have hh:Lt.has l i=false:=by simp only [Lt.has];rw [← Bool.not_eq_true];simp;omega
   simp [Lt.lC,hh]
  have iM:Lt.lD l i ep=l:=by simp [Lt.lD,dS]
  rw [dS,iM];clear hb hr hd dS iM
  by_cases h1:0≤i
  all_goals by_cases h2:i < l.length
  all_goals try omega
  all_goals clear hi
  all_goals go_enter Tryz.func108,Tryz.ntmps108
  all_goals go_wp2
  all_goals go_ret
  all_goals exact ⟨rfl,h0,aq.refl _ _⟩
theorem Q6 (w:World) (p:Value) (l:List Int) (S:List Nat) (i ep:Int) (h:lB w p l S) :
  Calls Tryz.prog 115 #[p,.int .i64 i,.int .i64 ep] w fun e w'=>e=.returned (.bool (Lt.nJ l i ep))∧lB w' p (Lt.oo l i ep) S∧aq S w w':=by
 have h0:=h;obtain ⟨b,v,U,rfl,hb,hr,hd,rfl⟩:=h;have hm:=hr.le;unfold maxLen at hm;obtain ⟨ao,cap,rfl⟩:=hr.shape;have c0:w.cell? ⟨b,0,none⟩=some (.slice ao l.length cap):=hb.cell 0
 by_cases hi:0≤i∧i < l.length
 ·obtain ⟨h1,h2⟩:=hi;obtain ⟨n,rfl⟩:=Int.eq_ofNat_of_zero_le h1;obtain ⟨g,off,rfl,rfl,_,hc,hf⟩:=hr.cells (by omega);have eY:=hr.stored n (by simpa using by omega) (.int .i64 (-1));have c1:w.cell? ⟨g,off + n,none⟩=some (.int .i64 (l.getD n 0)):=by
   rw [hc n (by simpa using by omega)];simp [List.getD,show n < l.length by omega]
  have f1:=hf n;have mN:b≠g:=by simpa using hd
  have oY:=hb.other (a:=⟨g,off + n,none⟩) mN (.int .i64 (-1))
  by_cases h3:0≤ep
  ·cases h4:(l.getD n 0 == ep) with
   | true =>
    have dS:Lt.nJ l n ep=true:=by simp only [Lt.nJ,Lt.has];simp only [Int.toNat_natCast,h4];simp;omega
    have iM:Lt.oo l n ep=l.set n (-1):=by simp [Lt.oo,dS]
    rw [dS,iM];have h5:(l.getD n 0 != ep)=false:=by simpa using h4
    have iQ:lB (w.setCell ⟨g,off + n,none⟩ (.int .i64 (-1))) (.pointer (some ⟨b,0,none⟩)) (l.set n (-1)) [b,g] :=
     ⟨b,_,_,rfl,oY,by simpa using eY.1,by simpa using mN,rfl⟩
    have hk:=eY.2.mono (T:=[b,g]) (by simp);clear hb hr hd hc hf eY dS iM oY h0;generalize l.getD n 0=x at *
    go_enter Tryz.func115,Tryz.ntmps115
    go_wp2
    go_ret
    exact ⟨rfl,iQ,hk⟩
   | false =>
    have dS:Lt.nJ l n ep=false:=by simp only [Lt.nJ];simp only [Int.toNat_natCast,h4];simp
    have iM:Lt.oo l n ep=l:=by simp [Lt.oo,dS]
    rw [dS,iM];have h5:(l.getD n 0 != ep)=true:=by simpa using h4
    clear hb hr hd hc hf eY dS iM oY;generalize l.getD n 0=x at *
    go_enter Tryz.func115,Tryz.ntmps115
    go_wp2
    go_ret
    exact ⟨rfl,h0,aq.refl _ _⟩
  ·have dS:Lt.nJ l n ep=false:=by simp only [Lt.nJ];simp [h3]
   have iM:Lt.oo l n ep=l:=by simp [Lt.oo,dS]
   rw [dS,iM];clear hb hr hd hc hf eY dS iM oY c1 f1
   go_enter Tryz.func115,Tryz.ntmps115
   go_wp2
   go_ret
   exact ⟨rfl,h0,aq.refl _ _⟩
 ·have dS:Lt.nJ l i ep=false:=by
   have hh:Lt.has l i=false:=by simp only [Lt.has];rw [← Bool.not_eq_true];simp;omega
   simp [Lt.nJ,hh]
  have iM:Lt.oo l i ep=l:=by simp [Lt.oo,dS]
  rw [dS,iM];clear hb hr hd dS iM
  by_cases h1:0≤i
  all_goals by_cases h2:i < l.length
  all_goals try omega
  all_goals clear hi
  all_goals go_enter Tryz.func115,Tryz.ntmps115
  all_goals go_wp2
  all_goals go_ret
  all_goals exact ⟨rfl,h0,aq.refl _ _⟩
namespace Lt
def nK (n:Int):List Int:=List.replicate (max 0 (min n 4096)).toNat (-1)
end Lt
open Go.RowKit
namespace Lt
end Lt
def Q7 (n:Int) (w:World) (e:Ending) (w':World):Prop :=
 ∃ p S,e=.returned p∧aq [] w w'∧lB w' p (Lt.nK n) S∧∀ k∈S,w.heap.size≤k
theorem Q8 (a b:Value) (N k:Nat) (h:k < N):(List.replicate k a ++ List.replicate (N - k) b).set k a=List.replicate (k + 1) a ++ List.replicate (N - (k + 1)) b:=by
 rw [List.set_append_right _ _ (by simp),List.replicate_succ',List.append_assoc]
 congr 1
 rw [show N - k=(N - (k + 1)) + 1 by omega,List.replicate_succ];simp
set_option maxHeartbeats 800000 in
theorem Q9 (w:World) (n:Int):Calls Tryz.prog 45 #[.int .i64 n] w (Q7 n w):=by
 obtain ⟨N,hN⟩:∃ N:Nat,(N:Int)=max 0 (min n 4096):=⟨(max 0 (min n 4096)).toNat,Int.toNat_of_nonneg (by omega)⟩
 have yI:N≤4096:=by omega
 have dS:Lt.nK n=List.replicate N (-1):=by unfold Lt.nK;rw [← hN];simp
 have HN:=Lib.hid hN;have Bs:=Lib.hid yI;have HF:=Lib.hid dS;clear hN yI dS
 go_enter Tryz.func45,Tryz.ntmps45
 go_wp2_with (at_make;go_must (refine DC Q3 N (by have:=Bs.out;omega) ?_ (hL:=by have:=HN.out;split <;> split <;> omega) (hC:=by have:=HN.out;split <;> split <;> omega));intro w1 r1 k1;generalize (if 0 < if 4096 < n then 4096 else n then if 4096 < n then 4096 else n else (0:Int))=z1;generalize (if 4096 < n then (4096:Int) else n)=z2)
 simp only [Nat.mul_one,Value.cells,toList_madeCells_one] at r1;have yJ:w1.heap.size≠w.heap.size:=by have:=r1.lt w.heap.size (by simp);omega
 have Jc:w.heap.size≤w1.heap.size:=k1.size;have Et:=Lib.hid (cr.new w1 [.slice (some ⟨w.heap.size,0,none⟩) N N] 128);have Eu:=Lib.hid (r1.alloc (.cells #[.slice (some ⟨w.heap.size,0,none⟩) N N] 128));have Ev:=Lib.hid (k1.alloc (.cells #[.slice (some ⟨w.heap.size,0,none⟩) N N] 128));have hm:N≤1099511627776:=by have:=Bs.out;omega
 clear r1 k1;generalize hg:w.heap.size=g at Et Eu Ev yJ Jc ⊢;generalize hb:w1.heap.size=b at Et Eu Ev yJ Jc ⊢;have Hg:=Lib.hid hg;clear hg hb
 go_loopw [16] (fun i wr=>∃ k:Nat,k≤N∧i=.int .i64 k∧aq [] w wr∧cr wr b [.slice (some ⟨g,0,none⟩) N N] 128 ∧
   Row wr (.slice (some ⟨g,0,none⟩) N N) 3 1 N (List.replicate k (.int .i64 (-1)) ++ List.replicate (N - k) (.int .i64 0)) [g])
  (fun i _=>N - (intOf i).toNat)
 case atStart=>exact ⟨0,Nat.zero_le _,rfl,Ev.out,Et.out,by simpa using Eu.out⟩
 case round =>
  obtain ⟨k,hk,rfl,cV,dU,iS⟩:=hrel;have c0:wr.cell? ⟨b,0,none⟩=some (.slice (some ⟨g,0,none⟩) N N):=dU.cell 0;have HK:=Lib.hid cV;have HB:=Lib.hid dU;have HR:=Lib.hid iS;clear cV dU iS
  by_cases cJ:k < N
  ·obtain ⟨g',xV,h1,_,_,hc,hf⟩:=HR.out.cells (by omega);simp only [Option.some.injEq,Addr.mk.injEq,and_true] at h1;obtain ⟨rfl,rfl⟩:=h1;have c1:wr.cell? ⟨g,0 + k,none⟩=some (.int .i64 0):=by
    rw [hc k (by simp;omega),List.getElem?_append_right (by simp)];simp [show 0 < N - k by omega]
   have f1:=hf k;have eY:=HR.out.stored k (by simp;omega) (.int .i64 (-1));rw [Q8 _ _ N k cJ] at eY;have Ew:=HB.out.other (a:=⟨g,0 + k,none⟩) yJ (.int .i64 (-1));rw [Nat.zero_add] at c1 f1 eY Ew;have HS:=Lib.hid eY;have Ra:=Lib.hid Ew;clear hc hf eY Ew
   go_wp2
   go_roundw
   case rel=>exact ⟨k + 1,by omega,by go_num,HK.out.trans HS.out.2 (by intro x hx;simp at hx;subst hx;right;have:=Hg.out;omega),Ra.out,HS.out.1⟩
   case measure=>simp [intOf];omega
  ·obtain rfl:k=N:=by omega
   go_wp2
   go_ret
   refine ⟨.pointer (some ⟨b,0,none⟩),[b,g],rfl,HK.out,?_,?_⟩
   ·rw [HF.out];exact ⟨b,_,[g],rfl,HB.out,by simpa using HR.out,by simpa using yJ,rfl⟩
   ·have:=Hg.out;intro x hx;simp at hx;rcases hx with rfl | rfl <;> omega
open Go.RowKit
def Ex (o:Int × Bool):List Value:=[.int .i64 o.1,.bool o.2]
theorem Bt (o:Int × Bool):(Ex o).length=2:=rfl
def Bn (w:World) (p:Value) (l:List (Int × Bool)) (S:List Nat):Prop :=
 ∃ b v T,p=.pointer (some ⟨b,0,none⟩)∧cr w b [v] 126∧ER Ex 2 w v 143 l T∧b∉T∧S=b :: T
section
variable {w w':World} {p:Value} {l:List (Int × Bool)} {S T:List Nat}
theorem Bn.aY (h:Bn w p l S) (k:aq T w w') (hn:∀ x∈S,x∉T):Bn w' p l S:=by
 obtain ⟨b,v,U,rfl,hb,hr,hd,rfl⟩:=h;exact ⟨b,v,U,rfl,hb.aY k (hn b (by simp)),hr.aY k (fun x hx=>hn x (by simp [hx])),hd,rfl⟩
theorem Bn.lt (h:Bn w p l S):∀ k∈S,k < w.heap.size:=by
 obtain ⟨b,v,U,rfl,hb,hr,hd,rfl⟩:=h;intro k hk;rcases List.mem_cons.1 hk with rfl | hk
 ·exact hb.lt
 ·exact hr.lt k hk
theorem Bn.shape (h:Bn w p l S):∃ b,p=.pointer (some ⟨b,0,none⟩):=by
 obtain ⟨b,v,U,rfl,_⟩:=h;exact ⟨b,rfl⟩
end
namespace Bc
def has (l:List (Int × Bool)) (g:Int):Bool:=decide (0≤g) && decide (g < l.length)
def mem (l:List (Int × Bool)) (g:Int):Int × Bool:=l.getD g.toNat (0,false)
def status (l:List (Int × Bool)) (g:Int):Int:=if has l g then (mem l g).1 else 2
def token (l:List (Int × Bool)) (g:Int):Bool:=has l g && (mem l g).2
def rS (l:List (Int × Bool)) (g:Int):Bool:=(status l g == 0) && !(mem l g).2
def tv (l:List (Int × Bool)) (g:Int):List (Int × Bool):=if status l g=0 then (if (mem l g).2 then l.set g.toNat (0,false) else l.set g.toNat (1,false)) else l
def qA (l:List (Int × Bool)) (g:Int):Bool:=(status l g == 1) || ((status l g == 0) && !(mem l g).2)
def oq (l:List (Int × Bool)) (g:Int):List (Int × Bool):=if status l g=1 then l.set g.toNat (0,(mem l g).2) else if status l g=0 then l.set g.toNat (0,true) else l
def kM (l:List (Int × Bool)) (g s:Int):Bool:=has l g && decide (0≤s) && decide (s≤2)
def lE (l:List (Int × Bool)) (g s:Int) (t:Bool):List (Int × Bool):=if kM l g s then l.set g.toNat (s,t) else l
end Bc
theorem tw (w:World) (p:Value) (l:List (Int × Bool)) (S:List Nat) (i:Int) (h:Bn w p l S) :
  Calls Tryz.prog 106 #[p,.int .i64 i] w fun e w'=>e=.returned (.bool (Bc.has l i))∧w=w':=by
 obtain ⟨b,v,U,rfl,hb,hr,hd,rfl⟩:=h;have hm:=hr.le;unfold maxLen at hm;obtain ⟨ao,cap,rfl⟩:=hr.shape;have c0:w.cell? ⟨b,0,none⟩=some (.slice ao l.length cap):=hb.cell 0;clear hb hr hd
 cases h1:decide (0≤i) with
 | true =>
  go_enter Tryz.func106,Tryz.ntmps106
  go_wp2
  go_ret
  exact ⟨eW (by simp [Bc.has,h1]),rfl⟩
 | false =>
  go_enter Tryz.func106,Tryz.ntmps106
  go_wp2
  go_ret
  exact ⟨eW (by simp [Bc.has,h1]),rfl⟩
def ot (w:World) (b g off cap:Nat) (l:List (Int × Bool)):Prop :=
 cr w b [.slice (some ⟨g,off,none⟩) l.length cap] 126∧ER Ex 2 w (.slice (some ⟨g,off,none⟩) l.length cap) 143 l [g]∧b≠g
theorem ot.bn {w:World} {b g off cap:Nat} {l:List (Int × Bool)} (h:ot w b g off cap l):Bn w (.pointer (some ⟨b,0,none⟩)) l [b,g] :=
 ⟨b,_,[g],rfl,h.1,h.2.1,by simpa using h.2.2,rfl⟩
theorem ot.st {w:World} {b g off cap n:Nat} {l:List (Int × Bool)} {o:Int × Bool} (h:ot w b g off cap l) (hx:l[n]?=some o) (s:Int):ot (w.setCell ⟨g,off + n * 2,none⟩ (.int .i64 s)) b g off cap (l.set n (s,o.2)):=by
 obtain ⟨h1,h2,h3⟩:=h;refine ⟨?_,?_,h3⟩
 ·rw [List.length_set];exact h1.other h3 _
 ·rw [List.length_set];exact (h2.stored (j:=0) (x':=(s,o.2)) (u:=.int .i64 s) Bt hx (by omega) rfl).1
theorem ot.tk {w:World} {b g off cap n:Nat} {l:List (Int × Bool)} {o:Int × Bool} (h:ot w b g off cap l) (hx:l[n]?=some o) (t:Bool):ot (w.setCell ⟨g,off + n * 2 + 1,none⟩ (.bool t)) b g off cap (l.set n (o.1,t)):=by
 obtain ⟨h1,h2,h3⟩:=h;refine ⟨?_,?_,h3⟩
 ·rw [List.length_set];exact h1.other h3 _
 ·rw [List.length_set,Nat.add_assoc];exact (h2.stored (j:=1) (x':=(o.1,t)) (u:=.bool t) Bt hx (by omega) rfl).1
theorem ot.both {w:World} {b g off cap n:Nat} {l:List (Int × Bool)} {o:Int × Bool} (h:ot w b g off cap l) (hx:l[n]?=some o) (s:Int) (t:Bool) :
  ot ((w.setCell ⟨g,off + n * 2,none⟩ (.int .i64 s)).setCell ⟨g,off + n * 2 + 1,none⟩ (.bool t)) b g off cap (l.set n (s,t)):=by
 have hn:=(List.getElem?_eq_some_iff.1 hx).1;have:=(h.st hx s).tk (n:=n) (o:=(s,o.2)) (by simp [hn]) t;simpa using this
theorem Bn.at {w:World} {b:Nat} {l:List (Int × Bool)} {S:List Nat} (h:Bn w (.pointer (some ⟨b,0,none⟩)) l S) {i:Int} (hi:Bc.has l i=true) :
  ∃ n:Nat,i=n∧n < l.length∧l.length≤9223372036854775807∧∃ g off cap,S=[b,g]∧b≠g∧w.cell? ⟨b,0,none⟩=some (.slice (some ⟨g,off,none⟩) l.length cap) ∧
   w.cell? ⟨g,off + n * 2,none⟩=some (.int .i64 (Bc.mem l i).1)∧w.cell? ⟨g,off + n * 2 + 1,none⟩=some (.bool (Bc.mem l i).2) ∧
   w.frozen? ⟨g,off + n * 2,none⟩=false∧w.frozen? ⟨g,off + n * 2 + 1,none⟩=false∧ot w b g off cap l∧l[n]?=some (Bc.mem l i):=by
 obtain ⟨b',v,U,iY,hb,hr,hd,rfl⟩:=h;obtain rfl:b=b':=by simpa using iY
 have hm:=hr.le;unfold maxLen at hm;obtain ⟨ao,cap,rfl⟩:=hr.shape;simp only [Bc.has,Bool.and_eq_true,decide_eq_true_eq] at hi;obtain ⟨n,rfl⟩:=Int.eq_ofNat_of_zero_le hi.1;have hn:n < l.length:=by omega
 obtain ⟨g,off,rfl,rfl,hg,hc,hf⟩:=hr.cells Bt (by omega);have hx:l[n]?=some (Bc.mem l n):=by simp [Bc.mem,List.getD,hn]
 have mN:b≠g:=by simpa using hd
 refine ⟨n,rfl,hn,hm,g,off,cap,rfl,mN,hb.cell 0,?_,?_,hf _,by rw [Nat.add_assoc];exact hf _,⟨hb,hr,mN⟩,hx⟩
 ·exact hc n _ 0 hx (by omega)
 ·rw [Nat.add_assoc];exact hc n _ 1 hx (by omega)
theorem tA (w:World) (p:Value) (l:List (Int × Bool)) (S:List Nat) (i:Int) (h:Bn w p l S) :
  Calls Tryz.prog 56 #[p,.int .i64 i] w fun e w'=>e=.returned (.int .i64 (Bc.status l i))∧w=w':=by
 obtain ⟨b,rfl⟩:=h.shape;have H:=Lib.hid h
 cases h1:Bc.has l i with
 | true =>
  obtain ⟨n,rfl,hn,hm,g,off,cap,rfl,mN,c0,c1,c2,f1,f2,cG,hx⟩:=h.at h1;have HF:Hid (Bc.status l n=(Bc.mem l n).1):=Lib.hid (by simp [Bc.status,h1]);clear f1 f2 cG hx h c2;generalize Bc.mem l n=o at *
  go_enter Tryz.func56,Tryz.ntmps56
  go_wp2_with fail
  refine (tw _ _ _ _ _ H.out).mono ?_
  rintro e w1 ⟨rfl,rfl⟩
  rw [h1]
  go_wp2_with fail
  go_ret
  exact ⟨AV HF.out.symm,rfl⟩
 | false =>
  have HF:Hid (Bc.status l i=2):=Lib.hid (by simp [Bc.status,h1]);clear h
  go_enter Tryz.func56,Tryz.ntmps56
  go_wp2_with fail
  refine (tw _ _ _ _ _ H.out).mono ?_
  rintro e w1 ⟨rfl,rfl⟩
  rw [h1]
  go_wp2_with fail
  go_ret
  exact ⟨AV HF.out.symm,rfl⟩
theorem Rb (w:World) (p:Value) (l:List (Int × Bool)) (S:List Nat) (i:Int) (h:Bn w p l S) :
  Calls Tryz.prog 57 #[p,.int .i64 i] w fun e w'=>e=.returned (.bool (Bc.token l i))∧w=w':=by
 obtain ⟨b,rfl⟩:=h.shape;have H:=Lib.hid h
 cases h1:Bc.has l i with
 | true =>
  obtain ⟨n,rfl,hn,hm,g,off,cap,rfl,mN,c0,c1,c2,f1,f2,cG,hx⟩:=h.at h1;have HF:Hid (Bc.token l n=(Bc.mem l n).2):=Lib.hid (by simp [Bc.token,h1]);clear f1 f2 cG hx h c1;generalize Bc.mem l n=o at *
  go_enter Tryz.func57,Tryz.ntmps57
  go_wp2_with fail
  refine (tw _ _ _ _ _ H.out).mono ?_
  rintro e w1 ⟨rfl,rfl⟩
  rw [h1]
  go_wp2_with fail
  go_ret
  exact ⟨eW HF.out.symm,rfl⟩
 | false =>
  have HF:Hid (Bc.token l i=false):=Lib.hid (by simp [Bc.token,h1]);clear h
  go_enter Tryz.func57,Tryz.ntmps57
  go_wp2_with fail
  refine (tw _ _ _ _ _ H.out).mono ?_
  rintro e w1 ⟨rfl,rfl⟩
  rw [h1]
  go_wp2_with fail
  go_ret
  exact ⟨eW HF.out.symm,rfl⟩
def oZ (p:Value) (ok:Bool) (l':List (Int × Bool)) (S:List Nat) (w:World) (e:Ending) (w':World):Prop :=
 e=.returned (.bool ok)∧Bn w' p l' S∧aq S w w'
theorem oZ.same {w:World} {p:Value} {ok:Bool} {l l':List (Int × Bool)} {S:List Nat} {b:Bool} (h:Bn w p l S) (h1:ok=b) (h2:l'=l):oZ p ok l' S w (.returned (.bool b)) w:=by
 subst h1 h2;exact ⟨rfl,h,aq.refl _ _⟩
theorem Bc.no {l:List (Int × Bool)} {i s:Int} (h:Bc.has l i=false) (hs:s≠2):(Bc.status l i == s)=false:=by
 simp [Bc.status,h];omega
theorem Rc (w:World) (p:Value) (l:List (Int × Bool)) (S:List Nat) (i:Int) (h:Bn w p l S) :
  Calls Tryz.prog 116 #[p,.int .i64 i] w (oZ p (Bc.rS l i) (Bc.tv l i) S w):=by
 obtain ⟨b,rfl⟩:=h.shape;have H:=Lib.hid h
 cases h2:(Bc.status l i == 0) with
 | true =>
  have h1:Bc.has l i=true:=by cases hh:Bc.has l i with | true=>rfl | false=>rw [Bc.no hh (by omega)] at h2;cases h2
  obtain ⟨n,rfl,hn,hm,g,off,cap,rfl,mN,c0,c1,c2,f1,f2,cG,hx⟩:=h.at h1;have kf:Bc.status l n=0:=by simpa using h2
  have tC:(Bc.mem l n).1=0:=by have:=kf;simp [Bc.status,h1] at this;exact this
  cases h3:(Bc.mem l n).2 with
  | true =>
   have HF:Hid (Bc.rS l n=false∧Bc.tv l n=l.set n (0,false)):=Lib.hid ⟨by simp [Bc.rS,h3],by simp [Bc.tv,kf,h3]⟩;have HB:=Lib.hid (cG.tk hx false);rw [tC] at HB;rw [h3] at c2;clear cG hx h tC kf
   go_enter Tryz.func116,Tryz.ntmps116
   go_wp2_with fail
   refine (tA _ _ _ _ _ H.out).mono ?_
   rintro e w1 ⟨rfl,rfl⟩
   go_wp2_with fail
   go_ret
   exact ⟨eW HF.out.1.symm,by rw [HF.out.2];exact HB.out.bn,(aq.refl _ w).setCell (by simp) _⟩
  | false =>
   have HF:Hid (Bc.rS l n=true∧Bc.tv l n=l.set n (1,false)):=Lib.hid ⟨by simp [Bc.rS,h3,kf],by simp [Bc.tv,kf,h3]⟩;have HB:=Lib.hid (cG.st hx 1);rw [h3] at c2 HB;clear cG hx h tC kf
   go_enter Tryz.func116,Tryz.ntmps116
   go_wp2_with fail
   refine (tA _ _ _ _ _ H.out).mono ?_
   rintro e w1 ⟨rfl,rfl⟩
   go_wp2_with fail
   go_ret
   exact ⟨eW HF.out.1.symm,by rw [HF.out.2];exact HB.out.bn,(aq.refl _ w).setCell (by simp) _⟩
 | false =>
  have HF:Hid (Bc.rS l i=false∧Bc.tv l i=l):=Lib.hid ⟨by simp [Bc.rS,h2],if_neg (by simpa using h2)⟩;clear h
  go_enter Tryz.func116,Tryz.ntmps116
  go_wp2_with fail
  refine (tA _ _ _ _ _ H.out).mono ?_
  rintro e w1 ⟨rfl,rfl⟩
  go_wp2_with fail
  go_ret
  exact oZ.same H.out HF.out.1 HF.out.2
theorem Rd (w:World) (p:Value) (l:List (Int × Bool)) (S:List Nat) (i:Int) (h:Bn w p l S) :
  Calls Tryz.prog 119 #[p,.int .i64 i] w (oZ p (Bc.qA l i) (Bc.oq l i) S w):=by
 obtain ⟨b,rfl⟩:=h.shape;have H:=Lib.hid h
 cases h2:(Bc.status l i == 1) with
 | true =>
  have h1:Bc.has l i=true:=by cases hh:Bc.has l i with | true=>rfl | false=>rw [Bc.no hh (by omega)] at h2;cases h2
  obtain ⟨n,rfl,hn,hm,g,off,cap,rfl,mN,c0,c1,c2,f1,f2,cG,hx⟩:=h.at h1;have kf:Bc.status l n=1:=by simpa using h2
  have HF:Hid (Bc.qA l n=true∧Bc.oq l n=l.set n (0,(Bc.mem l n).2)):=Lib.hid ⟨by simp [Bc.qA,kf],by simp [Bc.oq,kf]⟩;have HB:=Lib.hid (cG.st hx 0);clear cG hx h kf
  go_enter Tryz.func119,Tryz.ntmps119
  go_wp2_with fail
  refine (tA _ _ _ _ _ H.out).mono ?_
  rintro e w1 ⟨rfl,rfl⟩
  go_wp2_with fail
  go_ret
  exact ⟨eW HF.out.1.symm,by rw [HF.out.2];exact HB.out.bn,(aq.refl _ w).setCell (by simp) _⟩
 | false =>
  cases h3:(Bc.status l i == 0) with
  | true =>
   have h1:Bc.has l i=true:=by cases hh:Bc.has l i with | true=>rfl | false=>rw [Bc.no hh (by omega)] at h3;cases h3
   obtain ⟨n,rfl,hn,hm,g,off,cap,rfl,mN,c0,c1,c2,f1,f2,cG,hx⟩:=h.at h1;have kf:Bc.status l n=0:=by simpa using h3
   have tC:(Bc.mem l n).1=0:=by have:=kf;simp [Bc.status,h1] at this;exact this
   cases h4:(Bc.mem l n).2 with
   | true =>
    have HF:Hid (Bc.qA l n=false∧Bc.oq l n=l):=Lib.hid ⟨by simp [Bc.qA,kf,h4],by
     simp [Bc.oq,kf];apply List.ext_getElem?;intro k
     by_cases hk:n=k
     ·subst hk;rw [List.getElem?_set_self hn,hx,← tC,← h4]
     ·rw [List.getElem?_set_ne hk]⟩
    rw [h4] at c2;clear cG hx h kf tC
    go_enter Tryz.func119,Tryz.ntmps119
    go_wp2_with fail
    refine (tA _ _ _ _ _ H.out).mono ?_
    rintro e w1 ⟨rfl,rfl⟩
    go_wp2_with fail
    go_ret
    exact oZ.same H.out HF.out.1 HF.out.2
   | false =>
    have HF:Hid (Bc.qA l n=true∧Bc.oq l n=l.set n (0,true)):=Lib.hid ⟨by simp [Bc.qA,kf,h4],by simp [Bc.oq,kf]⟩;have HB:=Lib.hid (cG.tk hx true);rw [tC] at HB;rw [h4] at c2;clear cG hx h kf tC
    go_enter Tryz.func119,Tryz.ntmps119
    go_wp2_with fail
    refine (tA _ _ _ _ _ H.out).mono ?_
    rintro e w1 ⟨rfl,rfl⟩
    go_wp2_with fail
    go_ret
    exact ⟨eW HF.out.1.symm,by rw [HF.out.2];exact HB.out.bn,(aq.refl _ w).setCell (by simp) _⟩
  | false =>
   have HF:Hid (Bc.qA l i=false∧Bc.oq l i=l):=Lib.hid ⟨by simp [Bc.qA,h2,h3],by simp at h2 h3;simp [Bc.oq,h2,h3]⟩;clear h
   go_enter Tryz.func119,Tryz.ntmps119
   go_wp2_with fail
   refine (tA _ _ _ _ _ H.out).mono ?_
   rintro e w1 ⟨rfl,rfl⟩
   go_wp2_with fail
   go_ret
   exact oZ.same H.out HF.out.1 HF.out.2
open Go.RowKit
theorem Re (w:World) (p:Value) (l:List (Int × Bool)) (S:List Nat) (i s:Int) (t:Bool) (h:Bn w p l S) :
  Calls Tryz.prog 50 #[p,.int .i64 i,.int .i64 s,.bool t] w (oZ p (Bc.kM l i s) (Bc.lE l i s t) S w):=by
 obtain ⟨b,rfl⟩:=h.shape;have H:=Lib.hid h
 cases h1:Bc.has l i with
 | true =>
  cases h2:decide (s < 0) with
  | true =>
   have HF:Hid (Bc.kM l i s=false∧Bc.lE l i s t=l):=Lib.hid (by
    have:Bc.kM l i s=false:=by simp at h2;simp [Bc.kM];omega
    exact ⟨this,by simp [Bc.lE,this]⟩)
   clear h
   go_enter Tryz.func50,Tryz.ntmps50
   go_wp2_with fail
   refine (tw _ _ _ _ _ H.out).mono ?_
   rintro e w1 ⟨rfl,rfl⟩
   rw [h1]
   go_wp2_with fail
   go_ret
   exact oZ.same H.out HF.out.1 HF.out.2
  | false =>
   cases h3:decide (2 < s) with
   | true =>
    have HF:Hid (Bc.kM l i s=false∧Bc.lE l i s t=l):=Lib.hid (by
     have:Bc.kM l i s=false:=by simp at h3;simp [Bc.kM];omega
     exact ⟨this,by simp [Bc.lE,this]⟩)
    clear h
    go_enter Tryz.func50,Tryz.ntmps50
    go_wp2_with fail
    refine (tw _ _ _ _ _ H.out).mono ?_
    rintro e w1 ⟨rfl,rfl⟩
    rw [h1]
    go_wp2_with fail
    go_ret
    exact oZ.same H.out HF.out.1 HF.out.2
   | false =>
    obtain ⟨n,rfl,hn,hm,g,off,cap,rfl,mN,c0,c1,c2,f1,f2,cG,hx⟩:=h.at h1;have HF:Hid (Bc.kM l n s=true∧Bc.lE l n s t=l.set n (s,t)):=Lib.hid (by
     have:Bc.kM l n s=true:=by simp at h2 h3;simp [Bc.kM,h1];omega
     exact ⟨this,by simp [Bc.lE,this]⟩)
    have HB:=Lib.hid (cG.both hx s t);clear cG hx h
    go_enter Tryz.func50,Tryz.ntmps50
    go_wp2_with fail
    refine (tw _ _ _ _ _ H.out).mono ?_
    rintro e w1 ⟨rfl,rfl⟩
    rw [h1]
    go_wp2_with fail
    go_ret
    exact ⟨eW HF.out.1.symm,by rw [HF.out.2];exact HB.out.bn,((aq.refl _ w).setCell (by simp) _).setCell (by simp) _⟩
 | false =>
  have HF:Hid (Bc.kM l i s=false∧Bc.lE l i s t=l):=Lib.hid (by
   have:Bc.kM l i s=false:=by simp [Bc.kM,h1]
   exact ⟨this,by simp [Bc.lE,this]⟩)
  clear h
  go_enter Tryz.func50,Tryz.ntmps50
  go_wp2_with fail
  refine (tw _ _ _ _ _ H.out).mono ?_
  rintro e w1 ⟨rfl,rfl⟩
  rw [h1]
  go_wp2_with fail
  go_ret
  exact oZ.same H.out HF.out.1 HF.out.2
namespace Bc
end Bc
theorem Rf:kz Tryz.prog 124 143 2 16 (.agg #[.int .i64 0,.bool false]):=⟨Tryz.underlying124,by kernel_rfl,rfl,by decide,by decide⟩
namespace Bc
def nK (n:Int):List (Int × Bool):=List.replicate (max 0 (min n 4096)).toNat (0,false)
end Bc
def Rh (n:Int) (w:World) (e:Ending) (w':World):Prop :=
 ∃ p S,e=.returned p∧aq [] w w'∧Bn w' p (Bc.nK n) S∧∀ k∈S,w.heap.size≤k
theorem Ri (w:World) (n:Int):Calls Tryz.prog 44 #[.int .i64 n] w (Rh n w):=by
 obtain ⟨N,hN⟩:∃ N:Nat,(N:Int)=max 0 (min n 4096):=⟨(max 0 (min n 4096)).toNat,Int.toNat_of_nonneg (by omega)⟩
 have yI:N≤4096:=by omega
 have dS:Bc.nK n=List.replicate N (0,false):=by unfold Bc.nK;rw [← hN];simp
 have HN:=Lib.hid hN;have Bs:=Lib.hid yI;have HF:=Lib.hid dS;clear hN yI dS
 go_enter Tryz.func44,Tryz.ntmps44
 go_wp2_with (at_make;go_must (refine DC Rf N (by have:=Bs.out;omega) ?_ (hL:=by have:=HN.out;split <;> split <;> omega) (hC:=by have:=HN.out;split <;> split <;> omega));intro w1 r1 k1;have R1:=Lib.hid r1;have K1:=Lib.hid k1;clear r1 k1;generalize (if 0 < if 4096 < n then 4096 else n then if 4096 < n then 4096 else n else (0:Int))=z1;generalize (if 4096 < n then (4096:Int) else n)=z2)
 go_ret
 have r1:=ER.made Bt (x0:=(0,false)) rfl (by omega) R1.out;have cJ:w.heap.size < w1.heap.size:=R1.out.lt _ (by simp);refine ⟨.pointer (some ⟨w1.heap.size,0,none⟩),[w1.heap.size,w.heap.size],rfl,K1.out.alloc _,?_,by intro x hx;simp at hx;omega⟩;rw [HF.out];refine ⟨_,_,[w.heap.size],rfl,cr.new w1 _ _,?_,by simp;omega,rfl⟩;exact ER.then r1 ((aq.refl [] w1).alloc _)
end Go.Proofs.YtdjhhbpedllnhaaGreat
