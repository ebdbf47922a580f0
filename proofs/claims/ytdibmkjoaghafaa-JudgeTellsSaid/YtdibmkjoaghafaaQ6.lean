/-
  What the laws need, part Q6.
  Conditions: none.
-/
import Derived.Test.YtdibmkjoaghafaaQ5
set_option linter.unusedVariables false
set_option linter.unusedSimpArgs false
set_option linter.unnecessarySimpa false
set_option maxHeartbeats 2000000
namespace Go.Proofs.Ytdibmkjoaghafaa
namespace Fl
instance:TyZ' Try.prog 2 [.int .i64 0]:={}
instance:TyI Try.prog 2 .i64:={}
instance:TyN Try.prog 3 1:={}
instance:TyV Try.prog 3:={}
instance:TyZ' Try.prog 3 [.int .i64 0]:={}
instance:TyI Try.prog 3 .i64:={}
instance:TyN Try.prog 4 1:={}
instance:TyV Try.prog 4:={}
instance:TyZ' Try.prog 4 [.bool false]:={}
instance:TyB Try.prog 4:={}
instance:TyZ' Try.prog 5 [.int .u8 0]:={}
instance:TyI Try.prog 5 .u8:={}
instance:TyZ' Try.prog 6 [.int .u8 0]:={}
instance:TyI Try.prog 6 .u8:={}
instance:TyZ' Try.prog 7 [.int .i64 0,.int .i64 0,.bool false,.int .u8 0]:={}
instance:TyZ' Try.prog 8 [.int .i64 0,.int .i64 0,.bool false,.int .u8 0]:={}
instance:TyZ' Try.prog 9 [.string ⟨#[]⟩]:={}
instance:TyZ' Try.prog 10 [.string ⟨#[]⟩]:={}
instance:TyZ' Try.prog 11 [.string ⟨#[]⟩]:={}
instance:TyZ' Try.prog 12 [.int .u64 0]:={}
instance:TyI Try.prog 12 .u64:={}
instance:TyZ' Try.prog 13 [.string ⟨#[]⟩,.int .u64 0]:={}
instance:TyZ' Try.prog 14 [.string ⟨#[]⟩,.int .u64 0]:={}
instance:TyZ' Try.prog 15 [.pointer none]:={}
instance:TyZ' Try.prog 16 [.pointer none]:={}
instance:TyZ' Try.prog 17 [.pointer none]:={}
instance:TyZ' Try.prog 18 [.pointer none]:={}
instance:TyZ' Try.prog 19 [.pointer none]:={}
instance:TyZ' Try.prog 21 [.int .i32 0]:={}
instance:TyI Try.prog 21 .i32:={}
instance:TyZ' Try.prog 22 [.slice none 0 0]:={}
instance:TyS Try.prog 22 25 1:={}
instance:TyE Try.prog 22 25 1 24 (.slice none 0 0):=⟨⟨by kernel_rfl,by kernel_rfl,rfl,by decide,by decide⟩⟩
instance:TyZ' Try.prog 23 [.slice none 0 0]:={}
instance:TyS Try.prog 23 52 13:={}
instance:TyE Try.prog 23 52 13 104 (.agg #[.int .i64 0,.int .i64 0,.int .i64 0,.int .i64 0,.int .i64 0,.int .i64 0,.int .i64 0,.int .i64 0,.int .i64 0,.int .i64 0,.int .i64 0,.bool false,.int .i64 0]):=⟨⟨by kernel_rfl,by kernel_rfl,rfl,by decide,by decide⟩⟩
instance:TyV Try.prog 25:={}
instance:TyZ' Try.prog 25 [.slice none 0 0]:={}
instance:TyS Try.prog 25 28 6:={}
instance:TyE Try.prog 25 28 6 64 (.agg #[.int .i64 0,.int .i64 0,.int .i64 0,.int .i64 0,.slice none 0 0,.bool false]):=⟨⟨by kernel_rfl,by kernel_rfl,rfl,by decide,by decide⟩⟩
instance:TyN Try.prog 26 1:={}
instance:TyV Try.prog 26:={}
instance:TyZ' Try.prog 26 [.slice none 0 0]:={}
instance:TyS Try.prog 26 87 3:={}
instance:TyE Try.prog 26 87 3 24 (.agg #[.bool false,.int .i64 0,.int .i64 0]):=⟨⟨by kernel_rfl,by kernel_rfl,rfl,by decide,by decide⟩⟩
instance:TyZ' Try.prog 27 [.int .i64 0,.int .i64 0,.int .i64 0,.int .i64 0,.slice none 0 0,.bool false]:={}
instance:TyN Try.prog 28 6:={}
instance:TyA Try.prog 28 6:={}
instance:TyZ' Try.prog 28 [.int .i64 0,.int .i64 0,.int .i64 0,.int .i64 0,.slice none 0 0,.bool false]:={}
instance:TyF Try.prog 28 0 0:={}
instance:TyF Try.prog 28 1 1:={}
instance:TyF Try.prog 28 4 4:={}
instance:TyP Try.prog 28 [(0,1),(1,1),(2,1),(3,1),(4,1),(5,1)]:={}
instance:TyZ' Try.prog 29 [.pointer none]:={}
instance:TyV Try.prog 32:={}
instance:TyZ' Try.prog 32 [.slice none 0 0]:={}
instance:TyS Try.prog 32 45 3:={}
instance:TyE Try.prog 32 45 3 40 (.agg #[.int .i64 0,.slice none 0 0,.bool false]):=⟨⟨by kernel_rfl,by kernel_rfl,rfl,by decide,by decide⟩⟩
instance:TyZ' Try.prog 33 [.slice none 0 0]:={}
instance:TyE Try.prog 33 84 7 72 (.agg #[.int .i64 0,.int .i64 0,.int .i64 0,.int .i64 0,.int .i64 0,.slice none 0 0,.bool false]):=⟨⟨by kernel_rfl,by kernel_rfl,rfl,by decide,by decide⟩⟩
instance:TyZ' Try.prog 34 [.slice none 0 0,.slice none 0 0]:={}
instance:TyN Try.prog 35 2:={}
instance:TyA Try.prog 35 2:={}
instance:TyZ' Try.prog 35 [.slice none 0 0,.slice none 0 0]:={}
instance:TyF Try.prog 35 0 0:={}
instance:TyP Try.prog 35 [(0,1),(1,1)]:={}
instance:TyZ' Try.prog 36 [.slice none 0 0]:={}
instance:TyS Try.prog 36 70 2:={}
instance:TyE Try.prog 36 70 2 16 (.agg #[.int .i64 0,.int .i64 0]):=⟨⟨by kernel_rfl,by kernel_rfl,rfl,by decide,by decide⟩⟩
instance:TyZ' Try.prog 40 [.slice none 0 0]:={}
instance:TyS Try.prog 40 44 3:={}
instance:TyE Try.prog 40 44 3 40 (.agg #[.int .i64 0,.slice none 0 0,.bool false]):=⟨⟨by kernel_rfl,by kernel_rfl,rfl,by decide,by decide⟩⟩
instance:TyV Try.prog 42:={}
instance:TyZ' Try.prog 42 [.slice none 0 0]:={}
instance:TyS Try.prog 42 2 1:={}
instance:TyE Try.prog 42 2 1 8 (.int .i64 0):=⟨⟨by kernel_rfl,by kernel_rfl,rfl,by decide,by decide⟩⟩
instance:TyZ' Try.prog 43 [.int .i64 0,.slice none 0 0,.bool false]:={}
instance:TyN Try.prog 44 3:={}
instance:TyA Try.prog 44 3:={}
instance:TyZ' Try.prog 44 [.int .i64 0,.slice none 0 0,.bool false]:={}
instance:TyF Try.prog 44 0 0:={}
instance:TyF Try.prog 44 1 1:={}
instance:TyN Try.prog 45 3:={}
instance:TyA Try.prog 45 3:={}
instance:TyZ' Try.prog 45 [.int .i64 0,.slice none 0 0,.bool false]:={}
instance:TyF Try.prog 45 0 0:={}
instance:TyF Try.prog 45 1 1:={}
instance:TyZ' Try.prog 49 [.int .i64 0,.int .i64 0,.int .i64 0,.bool false,.int .i64 0]:={}
instance:TyN Try.prog 50 5:={}
instance:TyA Try.prog 50 5:={}
instance:TyZ' Try.prog 50 [.int .i64 0,.int .i64 0,.int .i64 0,.bool false,.int .i64 0]:={}
instance:TyF Try.prog 50 0 0:={}
instance:TyF Try.prog 50 4 4:={}
instance:TyP Try.prog 50 [(0,1),(1,1),(2,1),(3,1),(4,1)]:={}
instance:TyZ' Try.prog 51 [.int .i64 0,.int .i64 0,.int .i64 0,.int .i64 0,.int .i64 0,.int .i64 0,.int .i64 0,.int .i64 0,.int .i64 0,.int .i64 0,.int .i64 0,.bool false,.int .i64 0]:={}
instance:TyN Try.prog 52 13:={}
instance:TyA Try.prog 52 13:={}
instance:TyZ' Try.prog 52 [.int .i64 0,.int .i64 0,.int .i64 0,.int .i64 0,.int .i64 0,.int .i64 0,.int .i64 0,.int .i64 0,.int .i64 0,.int .i64 0,.int .i64 0,.bool false,.int .i64 0]:={}
instance:TyF Try.prog 52 0 0:={}
instance:TyF Try.prog 52 1 1:={}
instance:TyF Try.prog 52 2 2:={}
instance:TyF Try.prog 52 3 3:={}
instance:TyF Try.prog 52 4 4:={}
instance:TyF Try.prog 52 5 5:={}
instance:TyF Try.prog 52 6 6:={}
instance:TyF Try.prog 52 7 7:={}
instance:TyF Try.prog 52 8 8:={}
instance:TyP Try.prog 52 [(0,1),(1,1),(2,1),(3,1),(4,1),(5,1),(6,1),(7,1),(8,5)]:={}
instance:TyZ' Try.prog 55 [.slice none 0 0]:={}
instance:TyS Try.prog 55 58 3:={}
instance:TyE Try.prog 55 58 3 24 (.agg #[.int .i64 0,.int .i64 0,.int .i64 0]):=⟨⟨by kernel_rfl,by kernel_rfl,rfl,by decide,by decide⟩⟩
instance:TyZ' Try.prog 57 [.int .i64 0,.int .i64 0,.int .i64 0]:={}
instance:TyN Try.prog 58 3:={}
instance:TyA Try.prog 58 3:={}
instance:TyZ' Try.prog 58 [.int .i64 0,.int .i64 0,.int .i64 0]:={}
instance:TyF Try.prog 58 0 0:={}
instance:TyF Try.prog 58 1 1:={}
instance:TyF Try.prog 58 2 2:={}
instance:TyP Try.prog 58 [(0,1),(1,1),(2,1)]:={}
instance:TyZ' Try.prog 62 [.slice none 0 0]:={}
instance:TyS Try.prog 62 64 3:={}
instance:TyE Try.prog 62 64 3 24 (.agg #[.int .i64 0,.int .i64 0,.int .i64 0]):=⟨⟨by kernel_rfl,by kernel_rfl,rfl,by decide,by decide⟩⟩
instance:TyN Try.prog 64 3:={}
instance:TyA Try.prog 64 3:={}
instance:TyZ' Try.prog 64 [.int .i64 0,.int .i64 0,.int .i64 0]:={}
instance:TyF Try.prog 64 0 0:={}
instance:TyF Try.prog 64 1 1:={}
instance:TyF Try.prog 64 2 2:={}
instance:TyP Try.prog 64 [(0,1),(1,1),(2,1)]:={}
instance:TyZ' Try.prog 69 [.int .i64 0,.int .i64 0]:={}
instance:TyN Try.prog 70 2:={}
instance:TyA Try.prog 70 2:={}
instance:TyZ' Try.prog 70 [.int .i64 0,.int .i64 0]:={}
instance:TyF Try.prog 70 0 0:={}
instance:TyF Try.prog 70 1 1:={}
instance:TyP Try.prog 70 [(0,1),(1,1)]:={}
instance:TyZ' Try.prog 79 [.slice none 0 0,.map none]:={}
instance:TyZ' Try.prog 80 [.slice none 0 0,.map none]:={}
instance:TyZ' Try.prog 83 [.int .i64 0,.int .i64 0,.int .i64 0,.int .i64 0,.int .i64 0,.slice none 0 0,.bool false]:={}
instance:TyZ' Try.prog 84 [.int .i64 0,.int .i64 0,.int .i64 0,.int .i64 0,.int .i64 0,.slice none 0 0,.bool false]:={}
instance:TyZ' Try.prog 86 [.bool false,.int .i64 0,.int .i64 0]:={}
instance:TyN Try.prog 87 3:={}
instance:TyA Try.prog 87 3:={}
instance:TyZ' Try.prog 87 [.bool false,.int .i64 0,.int .i64 0]:={}
instance:TyF Try.prog 87 0 0:={}
instance:TyF Try.prog 87 1 1:={}
instance:TyZ' Try.prog 91 [.int .i64 0,.bool false,.int .i64 0]:={}
instance:TyN Try.prog 92 3:={}
instance:TyZ' Try.prog 92 [.int .i64 0,.bool false,.int .i64 0]:={}
instance:TyF Try.prog 92 0 0:={}
instance:TyF Try.prog 92 1 1:={}
instance:TyZ' Try.prog 93 [.pointer none]:={}
instance:TyZ' Try.prog 114 [.slice none 0 0]:={}
instance:TyS Try.prog 114 4 1:={}
instance:TyE Try.prog 114 4 1 1 (.bool false):=⟨⟨by kernel_rfl,by kernel_rfl,rfl,by decide,by decide⟩⟩
instance:TyZ' Try.prog 116 [.slice none 0 0]:={}
instance:TyS Try.prog 116 3 1:={}
instance:TyE Try.prog 116 3 1 8 (.int .i64 0):=⟨⟨by kernel_rfl,by kernel_rfl,rfl,by decide,by decide⟩⟩
instance:TyZ' Try.prog 134 [.int .u64 0]:={}
instance:TyI Try.prog 134 .u64:={}
instance:TyZ' Try.prog 136 [.pointer none,.pointer none,.pointer none,.string ⟨#[]⟩]:={}
instance:TyZ' Try.prog 137 [.pointer none,.pointer none,.pointer none,.string ⟨#[]⟩]:={}
instance:TyZ' Try.prog 138 []:={}
instance:TyZ' Try.prog 139 []:={}
instance:TyZ' Try.prog 140 []:={}
instance:TyZ' Try.prog 141 [.int .u32 0]:={}
instance:TyI Try.prog 141 .u32:={}
instance:TyZ' Try.prog 142 [.int .u8 0]:={}
instance:TyI Try.prog 142 .u8:={}
instance:TyZ' Try.prog 143 [.int .u8 0]:={}
instance:TyI Try.prog 143 .u8:={}
instance:TyZ' Try.prog 145 [.pointer none]:={}
instance:TyZ' Try.prog 146 [.int .i32 0]:={}
instance:TyI Try.prog 146 .i32:={}
instance:TyZ' Try.prog 147 [.int .i32 0]:={}
instance:TyI Try.prog 147 .i32:={}
instance:TyZ' Try.prog 148 [.int .u64 0,.int .u64 0,.int .u32 0,.int .u8 0,.int .u8 0,.int .u8 0,.int .u8 0,.nilFunc,.pointer none,.int .i32 0,.int .i32 0]:={}
instance:TyZ' Try.prog 149 [.int .u64 0,.int .u64 0,.int .u32 0,.int .u8 0,.int .u8 0,.int .u8 0,.int .u8 0,.nilFunc,.pointer none,.int .i32 0,.int .i32 0]:={}
instance:TyC Try.prog 4:={}
instance:TyC Try.prog 5:={}
instance:TyC Try.prog 6:={}
instance:TyC Try.prog 7:={}
instance:TyC Try.prog 8:={}
instance:TyC Try.prog 9:={}
instance:TyC Try.prog 10:={}
instance:TyC Try.prog 11:={}
instance:TyC Try.prog 12:={}
instance:TyC Try.prog 13:={}
instance:TyC Try.prog 14:={}
instance:TyC Try.prog 15:={}
instance:TyC Try.prog 16:={}
instance:TyC Try.prog 17:={}
instance:TyC Try.prog 18:={}
instance:TyC Try.prog 19:={}
instance:TyC Try.prog 20:={}
instance:TyC Try.prog 21:={}
instance:TyC Try.prog 22:={}
instance:TyC Try.prog 23:={}
instance:TyC Try.prog 24:={}
instance:TyC Try.prog 25:={}
instance:TyC Try.prog 26:={}
instance:TyC Try.prog 27:={}
instance:TyC Try.prog 28:={}
instance:TyC Try.prog 29:={}
instance:TyC Try.prog 32:={}
instance:TyC Try.prog 33:={}
instance:TyC Try.prog 34:={}
instance:TyC Try.prog 39:={}
instance:TyC Try.prog 40:={}
instance:TyC Try.prog 41:={}
instance:TyC Try.prog 42:={}
instance:TyC Try.prog 43:={}
instance:TyC Try.prog 44:={}
instance:TyC Try.prog 45:={}
instance:TyC Try.prog 46:={}
instance:TyC Try.prog 47:={}
instance:TyC Try.prog 48:={}
instance:TyC Try.prog 49:={}
instance:TyC Try.prog 50:={}
instance:TyC Try.prog 51:={}
instance:TyC Try.prog 52:={}
instance:TyC Try.prog 54:={}
instance:TyC Try.prog 56:={}
instance:TyC Try.prog 57:={}
instance:TyC Try.prog 58:={}
instance:TyC Try.prog 67:={}
instance:TyC Try.prog 75:={}
instance:TyC Try.prog 76:={}
instance:TyC Try.prog 81:={}
instance:TyC Try.prog 82:={}
instance:TyC Try.prog 85:={}
instance:TyC Try.prog 86:={}
end Fl
open Go.RowKit
namespace Fl
def nI (n:Int):A:=.v (.int .i64 n)
def bI (b:Bool):A:=.v (.bool b)
def ints (l:List Int):A:=.r 1 (l.map fun n=>[nI n])
def eCs (c:Pn.Cs):List A:=[bI c.send,nI c.ch,nI c.v]
def eOp (o:Pn.Op):List A:=[nI o.kind,nI o.ch,nI o.n,nI o.v,.r 3 (o.cases.map eCs),bI o.els]
def eRes (r:Md.Res):List A:=[nI r.code,nI r.cs,nI r.v,bI r.ok,nI r.n]
def eG (g:Sx.Gr):List A :=
  [.r 6 (g.ops.map eOp),nI g.at_,nI g.place,nI g.status,bI g.token,nI g.call,bI g.picked,nI g.param,nI g.mine,nI g.hold,nI g.t,nI g.arrive,nI g.point,nI g.wi,nI g.fire,
   nI g.res.code,nI g.res.cs,nI g.res.v,bI g.res.ok,nI g.res.n,ints g.order,ints g.locks,ints g.sgs,ints g.wakes,nI g.k]
def eC (c:Sx.Cn):List A:=[nI c.cap,ints c.buf,bI c.closed,nI c.lock,ints c.recv,ints c.send]
def eS (s:Sx.Su):List A:=[bI s.live,nI s.g,nI s.ch,nI s.cs,bI s.send,nI s.v,bI s.done]
def eM (m:Sx.Mk):List A:=[nI m.g,nI m.op,nI m.call,nI m.arrive,nI m.point,nI m.wi,nI m.fire,nI m.re,nI m.res.code,nI m.res.cs,nI m.res.v,bI m.res.ok,nI m.res.n]
theorem LeA.snoc {l:List Int} {a:Int}:LeA (.r 1 (([] ++ l.map fun n=>[nI n]) ++ [[nI a]])) (ints (l ++ [a])):=by
 have:([] ++ l.map fun n=>[nI n]) ++ [[nI a]]=(l ++ [a]).map fun n=>[nI n]:=by simp
 rw [this];exact .refl
theorem LeA.clone {l:List Int}:LeA (.r 1 ([] ++ l.map fun n=>[nI n])) (ints l):=by
 rw [List.nil_append];exact .refl
end Fl
end Go.Proofs.Ytdibmkjoaghafaa
/-
  Moves that need no fact,told once for all (the proofs that follow name them by gn,ga,tk).
  Conditions: none.
-/
namespace Go.Proofs.Ytdibmkjoaghafaa
open Go.RowKit
set_option linter.unusedVariables false
theorem ngQ {c:Prop} [Decidable c] {α:Type} {a b:α} (h:¬ c:=by omega):ite c a b=b:=if_neg h
namespace Fl
theorem qb {n m:Nat} (h:Nat.ble n m=true):n≤m:=Nat.le_of_ble_eq_true h
/-- what a function is handed is what it wants -/
theorem lq {ds ds':List D} (h:LeDs ds ds':=by (repeat (first | exact LeDs.nil | refine LeDs.cons (LeD.agg (by (repeat (first | exact .nil | refine .cons .refl ?_)) <;> exact .nil)) ?_ | refine LeDs.cons LeD.refl ?_)) <;> exact LeDs.nil):LeDs ds ds':=h
section
variable {P:Program} {c:Cx} {kk:List Item} {f:Fm} {L:List Res} {ops:Array Oper} {l:List Oper} {T X Y:TypeId} {ps:String} {af:Array Edge} {gd:Option (Nat × Bool)} {t:Nat}
theorem jq {o:Oper} {d:D} (hd:o.dst=some t) (hw:Wants ops o f=true) (ht:Nat.ble (t + 1) c.N=true) {U:List Nat} (q:Qt P c U o f L d) (h:JO P c ops l kk ((t,d) :: f) L):JO P c ops (o :: l) kk f L:=JO.q hd hw (qb ht) q h
theorem jp {F:FuncId} {args:List Operand} {tys:Array TypeId} {ds0 ds:List D} {d:D} [i:TyC P F] (hC:Pure P F ds d) (hw:Wants ops ⟨some t,.call ⟨.value (.func F),args.toArray,tys⟩,T,ps,af,gd⟩ f=true) (ht:Nat.ble (t + 1) c.N=true) (h:evDs f args=some ds0) (hle:LeDs ds0 ds) (hk:JO P c ops l kk ((t,d) :: f) L):JO P c ops (⟨some t,.call ⟨.value (.func F),args.toArray,tys⟩,T,ps,af,gd⟩ :: l) kk f L:=JO.pure hC hw (qb ht) h hle hk
theorem jx {x y:Operand} {e sz:Nat} {kd:IntKind} {n:Int} {r:List (List A)} {cs:List A} [i:TyS P X e sz] (hw:Wants ops ⟨some t,.indexAddr X x y,T,ps,af,gd⟩ f=true) (ht:Nat.ble (t + 1) c.N=true) (h:evD f x=some (.c (.r sz r))) (hy:evD f y=some (.c (.v (.int kd n)))) (hn:0≤n) (hk:r[n.toNat]?=some cs) (k:JO P c ops l kk ((t,.el cs 0) :: f) L):JO P c ops (⟨some t,.indexAddr X x y,T,ps,af,gd⟩ :: l) kk f L:=JO.q rfl hw (qb ht) (Qt.indexR h hy hn hk) k
theorem jc {op:BinOp} {x y:Operand} {kd:IntKind} {m n:Int} {b b':Bool} (hw:Wants ops ⟨some t,.binOp op X x y Y,T,ps,af,gd⟩ f=true) (ht:Nat.ble (t + 1) c.N=true) (h:evD f x=some (.c (.v (.int kd m)))) (hy:evD f y=some (.c (.v (.int kd n)))) (hF:b'=b) (hb:cmpI op m n=some b') (k:JO P c ops l kk ((t,.c (.v (.bool b))) :: f) L):JO P c ops (⟨some t,.binOp op X x y Y,T,ps,af,gd⟩ :: l) kk f L:=JO.q rfl hw (qb ht) (Qt.cmp h hy (hb.trans (congrArg some hF))) k
end
theorem gr_a {s:Sx.St} {g:Nat} (hg:g < s.gs.length):(s.gs.map eG)[((g:Int)).toNat]?=some (eG (Sx.gr s g)):=by
  unfold Sx.gr;rw [Int.toNat_natCast,List.getElem?_map,List.getD_eq_getElem?_getD,List.getElem?_eq_getElem hg];rfl
theorem cn_a {s:Sx.St} {ch:Int} (h:Sx.made s ch=true):(s.chans.map eC)[(ch - 1).toNat]?=some (eC (Sx.cn s ch)):=by
  unfold Sx.made at h;simp only [decide_eq_true_eq] at h;unfold Sx.cn;rw [List.getElem?_map,List.getD_eq_getElem?_getD,List.getElem?_eq_getElem (show (ch - 1).toNat < s.chans.length by omega)];rfl
theorem ints_a {l:List Int} {k:Nat} {a:Int} (e:l[k]?=some a):(l.map fun n=>[nI n])[((k:Int)).toNat]?=some [nI a]:=by
  rw [Int.toNat_natCast,List.getElem?_map,e];rfl
section
variable {P:Program} {c:Cx} {kk:List Item} {f:Fm} {L:List Res} {ops:Array Oper} {l:List Oper} {T X Y:TypeId} {ps:String} {af:Array Edge} {gd:Option (Nat × Bool)} {t:Nat}
theorem jPQ {F:FuncId} {args:List Operand} {tys:Array TypeId} {ds0 ds:List D} {d:D} [i:TyC P F] (hC:Pure P F ds d) (hk:JO P c ops l kk ((t,d) :: f) L) (hw:Wants ops ⟨some t,.call ⟨.value (.func F),args.toArray,tys⟩,T,ps,af,gd⟩ f=true:=by exact rfl) (ht:Nat.ble (t + 1) c.N=true:=by exact rfl) (h:evDs f args=some ds0:=by exact rfl) (hle:LeDs ds0 ds:=by exact lq):JO P c ops (⟨some t,.call ⟨.value (.func F),args.toArray,tys⟩,T,ps,af,gd⟩ :: l) kk f L:=jp hC hw ht h hle hk
theorem jCQ {op:BinOp} {x y:Operand} {kd:IntKind} {m n:Int} {b b':Bool} (hF:b'=b) (k:JO P c ops l kk ((t,.c (.v (.bool b))) :: f) L) (hw:Wants ops ⟨some t,.binOp op X x y Y,T,ps,af,gd⟩ f=true:=by exact rfl) (ht:Nat.ble (t + 1) c.N=true:=by exact rfl) (h:evD f x=some (.c (.v (.int kd m))):=by exact rfl) (hy:evD f y=some (.c (.v (.int kd n))):=by exact rfl) (hb:cmpI op m n=some b':=by exact rfl):JO P c ops (⟨some t,.binOp op X x y Y,T,ps,af,gd⟩ :: l) kk f L:=jc hw ht h hy hF hb k
theorem lFQ {ds ds':List D} (h:LeDs ds ds':=by (repeat (first | exact LeDs.nil | refine LeDs.cons (LeD.agg (by (repeat (first | exact .nil | refine .cons .refl ?_ | refine .cons .nil ?_ | refine .cons .snoc ?_ | refine .cons .clone ?_)) <;> exact .nil)) ?_ | refine LeDs.cons LeD.refl ?_ | refine LeDs.cons (LeD.c LeA.nil) ?_ | refine LeDs.cons (LeD.c LeA.snoc) ?_ | refine LeDs.cons (LeD.c LeA.clone) ?_)) <;> exact LeDs.nil):LeDs ds ds':=h
theorem jFQ {F:FuncId} {args:List Operand} {tys:Array TypeId} {ds0 ds:List D} {d:D} [i:TyC P F] (hC:Pure P F ds d) (hk:JO P c ops l kk ((t,d) :: f) L) (hw:Wants ops ⟨some t,.call ⟨.value (.func F),args.toArray,tys⟩,T,ps,af,gd⟩ f=true:=by exact rfl) (ht:Nat.ble (t + 1) c.N=true:=by exact rfl) (h:evDs f args=some ds0:=by exact rfl) (hle:LeDs ds0 ds:=by exact lFQ):JO P c ops (⟨some t,.call ⟨.value (.func F),args.toArray,tys⟩,T,ps,af,gd⟩ :: l) kk f L:=jp hC hw ht h hle hk
end
structure K0 (B:Prop):Prop where out:B
/-- one move that needs no fact,and names nothing -/
theorem gn {G B:Prop} (k:B) (h:K0 B→G:=by
  intro k
  first
    | (refine K.binOp ?_;refine jc rfl rfl rfl rfl (by assumption) rfl ?_;exact k.out)
    | (refine K.call ?_;refine jp (by assumption) rfl rfl rfl lq ?_;exact k.out)
    | (refine K.indexAddr ?_;refine jx rfl rfl rfl rfl (by omega) (gr_a (by assumption)) ?_;exact k.out)
    | (refine K.indexAddr ?_;refine jx rfl rfl rfl rfl (by omega) (cn_a (by assumption)) ?_;exact k.out)
    | (refine K.indexAddr ?_;refine jx rfl rfl rfl rfl (by omega) (ints_a (by assumption)) ?_;exact k.out)
    | (refine K.indexAddr ?_;refine jx rfl rfl rfl rfl (by omega) (by assumption) ?_;exact k.out)
    | (refine K.fieldAddr ?_;refine JO.q rfl rfl (qb rfl) (Qt.fieldAddr rfl rfl) ?_;exact k.out)
    | (refine K.load ?_;refine JO.q rfl rfl (qb rfl) (Qt.load1 rfl .el rfl) ?_;exact k.out)
    | (refine K.load ?_;refine JO.q rfl rfl (qb rfl) (Qt.loadW rfl .el rfl) ?_;exact k.out)
    | (refine K.load ?_;refine JO.q rfl rfl (qb rfl) (Qt.loadN rfl .el rfl rfl) ?_;exact k.out)
    | (refine K.load ?_;refine JO.q rfl rfl (qb rfl) (Qt.load1b rfl (by exact rfl)) ?_;exact k.out)
    | (refine K.load ?_;refine JO.q rfl rfl (qb rfl) (Qt.loadWb rfl (by exact rfl)) ?_;exact k.out)
    | (refine K.load ?_;refine JO.q rfl rfl (qb rfl) (Qt.loadNb rfl (by exact rfl) (by exact rfl)) ?_;exact k.out)
    | (refine K.move ?_;refine JO.q rfl rfl (qb rfl) (Qt.move rfl) ?_;exact k.out)
    | (refine K.store ?_;refine JO.ld (Ld.storeW rfl rfl rfl (by exact rfl) (by exact rfl)) rfl (fun _=>?_);exact k.out)
    | (refine K.store ?_;refine JO.ld (Ld.store1 rfl rfl (by exact rfl)) rfl (fun _=>?_);exact k.out)
    | (refine K.store ?_;refine JO.ld (Ld.storeN rfl rfl rfl (by exact rfl) (by exact rfl)) rfl (fun _=>?_);exact k.out)
    | (refine K.assign ?_;refine JO.q rfl rfl (qb rfl) (Qt.assign rfl) ?_;exact k.out)
    | (refine K.binOp ?_;refine JO.q rfl rfl (qb rfl) (Qt.cmp rfl rfl rfl) ?_;exact k.out)
    | (refine K.binOp ?_;refine JO.q rfl rfl (qb rfl) (Qt.eqB rfl rfl) ?_;exact k.out)
    | (refine K.binOp ?_;refine JO.q rfl rfl (qb rfl) (Qt.neB rfl rfl) ?_;exact k.out)
    | (refine K.unOp ?_;refine JO.q rfl rfl (qb rfl) (Qt.not rfl) ?_;exact k.out)
    | (refine K.bi ?_;refine JO.q rfl rfl (qb rfl) (Qt.lenM rfl) ?_;exact k.out)
    | (refine K.bi ?_;refine JO.q rfl rfl (qb rfl) (Qt.lenR rfl) ?_;exact k.out)
    | (refine K.bi ?_;refine JO.q rfl rfl (qb rfl) (Qt.lenV rfl) ?_;exact k.out)
    | (refine K.bi ?_;refine JO.q rfl rfl (qb rfl) (Qt.lenO rfl) ?_;exact k.out)
    | (refine K.extract ?_;refine JO.q rfl rfl (qb rfl) (Qt.extract rfl rfl) ?_;exact k.out)
    | (refine K.pick ?_;refine JO.q rfl rfl (qb rfl) (Qt.pick rfl rfl) ?_;exact k.out)
    | (refine K.build ?_;refine JO.q rfl rfl (qb rfl) (Qt.build rfl (by kernel_rfl)) ?_;exact k.out)
    | (refine K.nilCheck ?_;refine JO.q rfl rfl (qb rfl) (Qt.nilCheck rfl rfl) ?_;exact k.out)
    | (refine K.field ?_;refine JO.q rfl rfl (qb rfl) (Qt.field rfl rfl (by kernel_rfl) rfl) ?_;exact k.out)
    | (refine K.convert ?_;refine JO.q rfl rfl (qb rfl) (Qt.conv rfl rfl) ?_;exact k.out)
    | (refine JO.nil ?_;exact k.out)
    | (refine J.seq ?_;exact k.out)
    | (refine J.region ?_;exact k.out)
    | (refine J.block ?_;exact k.out)
    | (refine J.inBlock ?_;exact k.out)
    | (refine J.skip ?_;exact k.out)
    | (refine J.exit rfl ?_;exact k.out)
    | (refine J.cond_t rfl ?_;exact k.out)
    | (refine J.cond_f rfl ?_;exact k.out)
    | (refine K.binOp ?_;refine jq rfl rfl rfl (Qt.ari rfl rfl rfl (w64 (by omega) (by omega))) ?_;exact k.out)
    | (refine JO.no rfl rfl (qb rfl) ?_;exact k.out)):G:=h ⟨k⟩
/-- the same,or a block is made (then its number is to be named) -/
theorem gmQ {G B:Prop} (k:B) (h:K0 B→G:=by
  intro k
  first
    | (refine K.binOp ?_;refine jc rfl rfl rfl rfl (by assumption) rfl ?_;exact k.out)
    | (refine K.call ?_;refine jp (by assumption) rfl rfl rfl lq ?_;exact k.out)
    | (refine K.indexAddr ?_;refine jx rfl rfl rfl rfl (by omega) (gr_a (by assumption)) ?_;exact k.out)
    | (refine K.indexAddr ?_;refine jx rfl rfl rfl rfl (by omega) (cn_a (by assumption)) ?_;exact k.out)
    | (refine K.indexAddr ?_;refine jx rfl rfl rfl rfl (by omega) (ints_a (by assumption)) ?_;exact k.out)
    | (refine K.indexAddr ?_;refine jx rfl rfl rfl rfl (by omega) (by assumption) ?_;exact k.out)
    | (refine K.fieldAddr ?_;refine JO.q rfl rfl (qb rfl) (Qt.fieldAddr rfl rfl) ?_;exact k.out)
    | (refine K.load ?_;refine JO.q rfl rfl (qb rfl) (Qt.load1 rfl .el rfl) ?_;exact k.out)
    | (refine K.load ?_;refine JO.q rfl rfl (qb rfl) (Qt.loadW rfl .el rfl) ?_;exact k.out)
    | (refine K.load ?_;refine JO.q rfl rfl (qb rfl) (Qt.loadN rfl .el rfl rfl) ?_;exact k.out)
    | (refine K.load ?_;refine JO.q rfl rfl (qb rfl) (Qt.load1b rfl (by exact rfl)) ?_;exact k.out)
    | (refine K.load ?_;refine JO.q rfl rfl (qb rfl) (Qt.loadWb rfl (by exact rfl)) ?_;exact k.out)
    | (refine K.load ?_;refine JO.q rfl rfl (qb rfl) (Qt.loadNb rfl (by exact rfl) (by exact rfl)) ?_;exact k.out)
    | (refine K.move ?_;refine JO.q rfl rfl (qb rfl) (Qt.move rfl) ?_;exact k.out)
    | (refine K.store ?_;refine JO.ld (Ld.storeW rfl rfl rfl (by exact rfl) (by exact rfl)) rfl (fun _=>?_);exact k.out)
    | (refine K.store ?_;refine JO.ld (Ld.store1 rfl rfl (by exact rfl)) rfl (fun _=>?_);exact k.out)
    | (refine K.store ?_;refine JO.ld (Ld.storeN rfl rfl rfl (by exact rfl) (by exact rfl)) rfl (fun _=>?_);exact k.out)
    | (refine K.assign ?_;refine JO.q rfl rfl (qb rfl) (Qt.assign rfl) ?_;exact k.out)
    | (refine K.binOp ?_;refine JO.q rfl rfl (qb rfl) (Qt.cmp rfl rfl rfl) ?_;exact k.out)
    | (refine K.binOp ?_;refine JO.q rfl rfl (qb rfl) (Qt.eqB rfl rfl) ?_;exact k.out)
    | (refine K.binOp ?_;refine JO.q rfl rfl (qb rfl) (Qt.neB rfl rfl) ?_;exact k.out)
    | (refine K.unOp ?_;refine JO.q rfl rfl (qb rfl) (Qt.not rfl) ?_;exact k.out)
    | (refine K.bi ?_;refine JO.q rfl rfl (qb rfl) (Qt.lenM rfl) ?_;exact k.out)
    | (refine K.bi ?_;refine JO.q rfl rfl (qb rfl) (Qt.lenR rfl) ?_;exact k.out)
    | (refine K.bi ?_;refine JO.q rfl rfl (qb rfl) (Qt.lenV rfl) ?_;exact k.out)
    | (refine K.bi ?_;refine JO.q rfl rfl (qb rfl) (Qt.lenO rfl) ?_;exact k.out)
    | (refine K.extract ?_;refine JO.q rfl rfl (qb rfl) (Qt.extract rfl rfl) ?_;exact k.out)
    | (refine K.pick ?_;refine JO.q rfl rfl (qb rfl) (Qt.pick rfl rfl) ?_;exact k.out)
    | (refine K.build ?_;refine JO.q rfl rfl (qb rfl) (Qt.build rfl (by kernel_rfl)) ?_;exact k.out)
    | (refine K.nilCheck ?_;refine JO.q rfl rfl (qb rfl) (Qt.nilCheck rfl rfl) ?_;exact k.out)
    | (refine K.field ?_;refine JO.q rfl rfl (qb rfl) (Qt.field rfl rfl (by kernel_rfl) rfl) ?_;exact k.out)
    | (refine K.convert ?_;refine JO.q rfl rfl (qb rfl) (Qt.conv rfl rfl) ?_;exact k.out)
    | (refine JO.nil ?_;exact k.out)
    | (refine J.seq ?_;exact k.out)
    | (refine J.region ?_;exact k.out)
    | (refine J.block ?_;exact k.out)
    | (refine J.inBlock ?_;exact k.out)
    | (refine J.skip ?_;exact k.out)
    | (refine J.exit rfl ?_;exact k.out)
    | (refine J.cond_t rfl ?_;exact k.out)
    | (refine J.cond_f rfl ?_;exact k.out)
    | (refine K.binOp ?_;refine jq rfl rfl rfl (Qt.ari rfl rfl rfl (w64 (by omega) (by omega))) ?_;exact k.out)
    | (refine JO.alloc rfl (qb rfl) ?_;exact k.out)
    | (refine JO.box rfl (qb rfl) rfl rfl ?_;exact k.out)
    | (refine JO.lit0 rfl (qb rfl) ?_;exact k.out)
    | (refine JO.lit1 rfl (qb rfl) rfl rfl rfl rfl rfl ?_;exact k.out)
    | (refine JO.no rfl rfl (qb rfl) ?_;exact k.out)):G:=h ⟨k⟩
/-- one move that needs no fact,and stays in the region -/
theorem grQ {G B:Prop} (k:B) (h:K0 B→G:=by
  intro k
  first
    | (refine K.binOp ?_;refine jc rfl rfl rfl rfl (by assumption) rfl ?_;exact k.out)
    | (refine K.call ?_;refine jp (by assumption) rfl rfl rfl lq ?_;exact k.out)
    | (refine K.indexAddr ?_;refine jx rfl rfl rfl rfl (by omega) (gr_a (by assumption)) ?_;exact k.out)
    | (refine K.indexAddr ?_;refine jx rfl rfl rfl rfl (by omega) (cn_a (by assumption)) ?_;exact k.out)
    | (refine K.indexAddr ?_;refine jx rfl rfl rfl rfl (by omega) (ints_a (by assumption)) ?_;exact k.out)
    | (refine K.indexAddr ?_;refine jx rfl rfl rfl rfl (by omega) (by assumption) ?_;exact k.out)
    | (refine K.fieldAddr ?_;refine JO.q rfl rfl (qb rfl) (Qt.fieldAddr rfl rfl) ?_;exact k.out)
    | (refine K.load ?_;refine JO.q rfl rfl (qb rfl) (Qt.load1 rfl .el rfl) ?_;exact k.out)
    | (refine K.load ?_;refine JO.q rfl rfl (qb rfl) (Qt.loadW rfl .el rfl) ?_;exact k.out)
    | (refine K.load ?_;refine JO.q rfl rfl (qb rfl) (Qt.loadN rfl .el rfl rfl) ?_;exact k.out)
    | (refine K.load ?_;refine JO.q rfl rfl (qb rfl) (Qt.load1b rfl (by exact rfl)) ?_;exact k.out)
    | (refine K.load ?_;refine JO.q rfl rfl (qb rfl) (Qt.loadWb rfl (by exact rfl)) ?_;exact k.out)
    | (refine K.load ?_;refine JO.q rfl rfl (qb rfl) (Qt.loadNb rfl (by exact rfl) (by exact rfl)) ?_;exact k.out)
    | (refine K.move ?_;refine JO.q rfl rfl (qb rfl) (Qt.move rfl) ?_;exact k.out)
    | (refine K.store ?_;refine JO.ld (Ld.storeW rfl rfl rfl (by exact rfl) (by exact rfl)) rfl (fun _=>?_);exact k.out)
    | (refine K.store ?_;refine JO.ld (Ld.store1 rfl rfl (by exact rfl)) rfl (fun _=>?_);exact k.out)
    | (refine K.store ?_;refine JO.ld (Ld.storeN rfl rfl rfl (by exact rfl) (by exact rfl)) rfl (fun _=>?_);exact k.out)
    | (refine K.assign ?_;refine JO.q rfl rfl (qb rfl) (Qt.assign rfl) ?_;exact k.out)
    | (refine K.binOp ?_;refine JO.q rfl rfl (qb rfl) (Qt.cmp rfl rfl rfl) ?_;exact k.out)
    | (refine K.binOp ?_;refine JO.q rfl rfl (qb rfl) (Qt.eqB rfl rfl) ?_;exact k.out)
    | (refine K.binOp ?_;refine JO.q rfl rfl (qb rfl) (Qt.neB rfl rfl) ?_;exact k.out)
    | (refine K.unOp ?_;refine JO.q rfl rfl (qb rfl) (Qt.not rfl) ?_;exact k.out)
    | (refine K.bi ?_;refine JO.q rfl rfl (qb rfl) (Qt.lenM rfl) ?_;exact k.out)
    | (refine K.bi ?_;refine JO.q rfl rfl (qb rfl) (Qt.lenR rfl) ?_;exact k.out)
    | (refine K.bi ?_;refine JO.q rfl rfl (qb rfl) (Qt.lenV rfl) ?_;exact k.out)
    | (refine K.bi ?_;refine JO.q rfl rfl (qb rfl) (Qt.lenO rfl) ?_;exact k.out)
    | (refine K.extract ?_;refine JO.q rfl rfl (qb rfl) (Qt.extract rfl rfl) ?_;exact k.out)
    | (refine K.pick ?_;refine JO.q rfl rfl (qb rfl) (Qt.pick rfl rfl) ?_;exact k.out)
    | (refine K.build ?_;refine JO.q rfl rfl (qb rfl) (Qt.build rfl (by kernel_rfl)) ?_;exact k.out)
    | (refine K.nilCheck ?_;refine JO.q rfl rfl (qb rfl) (Qt.nilCheck rfl rfl) ?_;exact k.out)
    | (refine K.field ?_;refine JO.q rfl rfl (qb rfl) (Qt.field rfl rfl (by kernel_rfl) rfl) ?_;exact k.out)
    | (refine K.convert ?_;refine JO.q rfl rfl (qb rfl) (Qt.conv rfl rfl) ?_;exact k.out)
    | (refine K.binOp ?_;refine jq rfl rfl rfl (Qt.ari rfl rfl rfl (w64 (by omega) (by omega))) ?_;exact k.out)
    | (refine JO.no rfl rfl (qb rfl) ?_;exact k.out)):G:=h ⟨k⟩
/-- a block is made -/
theorem ga {G:Prop} {B:Nat→Prop} (k:∀ b,B b) (h:(∀ b,B b)→G:=by
  intro k
  first
    | (refine JO.alloc rfl (qb rfl) ?_;intro b;exact k b)
    | (refine JO.box rfl (qb rfl) rfl rfl ?_;intro b;exact k b)
    | (refine JO.lit0 rfl (qb rfl) ?_;intro b;exact k b)
    | (refine JO.lit1 rfl (qb rfl) rfl rfl rfl rfl rfl ?_;intro b;exact k b)):G:=h k
/-- number i of a region that draws,which looks -/
def Tk (i:Nat) (B:Prop):Prop:=B
section
variable {P:Program} {c:Cx} {k:List Item} {f f0:Fm} {L L0:List Res} {ops:Array Oper} {o:Oper} {m:Option Nat} {T:List Nat} {n t:Nat} {d:D} {listed:Array Bool} {U:List Nat}
theorem JD.takeK {i:Nat} {B:Prop} (kk:Tk i B) (hi:ops[i]?=some o) (hd:o.dst=some t) (hk:okTake .any ops m listed i=true) (hw:Wants ops o f0=true) (ht:t < c.N) (q:Qt P c U o f0 L0 d) (hu:(U.all fun j=>!T.contains j)=true) (hB:B=JD P c ops m T n (listed.setIfInBounds i true) k ((t,d) :: f) L ((t,d) :: f0) L0):JD P c ops m T (n + 1) listed k f L f0 L0 :=
  JD.take i hi hd hk hw ht q hu (hB ▸ kk)
end
theorem tk (i:Nat) {G B:Prop} (k:Tk i B) (h:Tk i B→G:=by
  intro k
  first
    | exact JD.takeK k rfl rfl (by kernel_rfl) rfl (qb rfl) (Qt.move rfl) rfl rfl
    | exact JD.takeK k rfl rfl (by kernel_rfl) rfl (qb rfl) (Qt.assign rfl) rfl rfl
    | exact JD.takeK k rfl rfl (by kernel_rfl) rfl (qb rfl) (Qt.fieldAddr rfl rfl) rfl rfl
    | exact JD.takeK k rfl rfl (by kernel_rfl) rfl (qb rfl) (Qt.nilCheck rfl rfl) rfl rfl
    | exact JD.takeK k rfl rfl (by kernel_rfl) rfl (qb rfl) (Qt.load1 rfl .el rfl) rfl rfl
    | exact JD.takeK k rfl rfl (by kernel_rfl) rfl (qb rfl) (Qt.loadW rfl .el rfl) rfl rfl
    | exact JD.takeK k rfl rfl (by kernel_rfl) rfl (qb rfl) (Qt.loadN rfl .el rfl rfl) rfl rfl
    | exact JD.takeK k rfl rfl (by kernel_rfl) rfl (qb rfl) (Qt.load1b rfl (by exact rfl)) rfl rfl
    | exact JD.takeK k rfl rfl (by kernel_rfl) rfl (qb rfl) (Qt.loadWb rfl (by exact rfl)) rfl rfl
    | exact JD.takeK k rfl rfl (by kernel_rfl) rfl (qb rfl) (Qt.loadNb rfl (by exact rfl) (by exact rfl)) rfl rfl
    | exact JD.takeK k rfl rfl (by kernel_rfl) rfl (qb rfl) (Qt.extract rfl rfl) rfl rfl
    | exact JD.takeK k rfl rfl (by kernel_rfl) rfl (qb rfl) (Qt.pick rfl rfl) rfl rfl
    | exact JD.takeK k rfl rfl (by kernel_rfl) rfl (qb rfl) (Qt.not rfl) rfl rfl
    | exact JD.takeK k rfl rfl (by kernel_rfl) rfl (qb rfl) (Qt.lenM rfl) rfl rfl
    | exact JD.takeK k rfl rfl (by kernel_rfl) rfl (qb rfl) (Qt.lenR rfl) rfl rfl
    | exact JD.takeK k rfl rfl (by kernel_rfl) rfl (qb rfl) (Qt.lenV rfl) rfl rfl
    | exact JD.takeK k rfl rfl (by kernel_rfl) rfl (qb rfl) (Qt.lenO rfl) rfl rfl
    | exact JD.takeK k rfl rfl (by kernel_rfl) rfl (qb rfl) (Qt.cmp rfl rfl rfl) rfl rfl
    | exact JD.takeK k rfl rfl (by kernel_rfl) rfl (qb rfl) (Qt.eqB rfl rfl) rfl rfl
    | exact JD.takeK k rfl rfl (by kernel_rfl) rfl (qb rfl) (Qt.neB rfl rfl) rfl rfl
    | exact JD.takeK k rfl rfl (by kernel_rfl) rfl (qb rfl) (Qt.build rfl (by kernel_rfl)) rfl rfl
    | exact JD.takeK k rfl rfl (by kernel_rfl) rfl (qb rfl) (Qt.field rfl rfl (by kernel_rfl) rfl) rfl rfl
    | exact JD.takeK k rfl rfl (by kernel_rfl) rfl (qb rfl) (Qt.conv rfl rfl) rfl rfl):G:=h k
theorem Tk.mk {i:Nat} {B:Prop} (h:B):Tk i B:=h
theorem la {cs ds:List A} (h:LeC cs ds:=by (repeat (first | exact .nil | refine .cons .refl ?_)) <;> exact .nil):LeD (.agg cs) (.agg ds):=.agg h
section
variable {P:Program} {c:Cx} {k:List Item} {f f0:Fm} {L L0:List Res} {ops:Array Oper} {o:Oper} {m:Option Nat} {T:List Nat} {n t:Nat} {d:D} {listed:Array Bool} {U S:List Nat}
theorem jl (i:Nat) {ι:Type} {g:ι→D} {L':ι→List Res} (hi:ops[i]?=some o) (hd:o.dst=some t) (hw:Wants ops o f=true) (ht:Nat.ble (t + 1) c.N=true) (q:Ld P c o f L S (fun x=>(t,g x) :: f) L') (hS:Since T L0 L S) (h:∀ x,JD P c ops m T n (listed.setIfInBounds i true) k ((t,g x) :: f) (L' x) ((t,stays (g x)) :: f0) L0) (hr:Region.ready .any ops listed=[i]:=by kernel_rfl):JD P c ops m T (n + 1) listed k f L f0 L0:=JD.each1 hr (JS.loud hi hd hw (qb ht) q hS h)
theorem jk (i:Nat) (hi:ops[i]?=some o) (hd:o.dst=some t) (hw:Wants ops o f=true) (ht:Nat.ble (t + 1) c.N=true) (q:Qt P c U o f L d) (h:JD P c ops m T n (listed.setIfInBounds i true) k ((t,d) :: f) L ((t,stays d) :: f0) L0) (hr:Region.ready .any ops listed=[i]:=by kernel_rfl):JD P c ops m T (n + 1) listed k f L f0 L0:=JD.each1 hr (JS.q hi hd hw (qb ht) q h)
theorem jt (i:Nat) {ι:Type} {f':ι→Fm} {L':ι→List Res} (hi:ops[i]?=some o) (hw:Wants ops o f=true) (q:Ld P c o f L S f' L') (h:∀ x,JW P c ops n (listed.setIfInBounds i true) k (f' x) (L' x)) (hr:Region.ready .any ops listed=[i]:=by kernel_rfl):JD P c ops (some i) T (n + 1) listed k f L f0 L0:=JD.each1 hr (JS.last hi hw q h)
theorem jmQ (i:Nat) {F:FuncId} {args:List Operand} {tys:Array TypeId} {ds0 ds:List D} {X:TypeId} {ps:String} {af:Array Edge} {gd:Option (Nat × Bool)} [TyC P F] (hC:Pure P F ds d) (h:JD P c ops m T n (listed.setIfInBounds i true) k ((t,d) :: f) L ((t,stays d) :: f0) L0) (hi:ops[i]?=some ⟨some t,.call ⟨.value (.func F),args.toArray,tys⟩,X,ps,af,gd⟩:=by exact rfl) (hw:Wants ops ⟨some t,.call ⟨.value (.func F),args.toArray,tys⟩,X,ps,af,gd⟩ f=true:=by exact rfl) (ht:Nat.ble (t + 1) c.N=true:=by exact rfl) (he:evDs f args=some ds0:=by exact rfl) (hle:LeDs ds0 ds:=by exact lq) (hr:Region.ready .any ops listed=[i]:=by kernel_rfl):JD P c ops m T (n + 1) listed k f L f0 L0:=jl i hi rfl hw ht (Ld.pure hC (qb ht) he hle) .none (fun _=>h) hr
theorem dnQ (h:J P c k f L) (hl:Region.ready .any ops listed=[]:=by kernel_rfl):JD P c ops m T n listed k f L f0 L0:=JD.done hl h
theorem wnQ (h:J P c k f L) (hl:Region.ready .any ops listed=[]:=by kernel_rfl):JW P c ops n listed k f L:=JW.done hl h
end
section
variable {P:Program} {F:FuncId} {fn:Func} {ok:Nat→Prop} {e:World} {L0 L:List Res} {post:Unit→D × List Res} {N:Nat} {k:List Item} {f:Fm}
theorem rtQ (hf:P.funcs[F]?=some fn) {rs:List ResultVar} {ds:List D} {d:D} (hres:fn.results=rs.toArray:=by exact rfl) (h:ResDs P f L rs ds:=by
  repeat (first | exact .nil | apply ResDs.cons (.tmp rfl) | apply ResDs.cons (.cell 0 rfl rfl rfl) | apply ResDs.cons (.cell 1 rfl rfl rfl) | apply ResDs.cons (.cell 2 rfl rfl rfl) | apply ResDs.cons (.cell 3 rfl rfl rfl) | apply ResDs.cons (.cell 4 rfl rfl rfl) | apply ResDs.cons (.cell 5 rfl rfl rfl) | apply ResDs.cons (.cell 6 rfl rfl rfl) | apply ResDs.cons (.cell 7 rfl rfl rfl) | apply ResDs.cons (.cell 8 rfl rfl rfl))) (hp:post ()=(d,[]):=by exact rfl) (hle:LeD (oneD ds) d:=by first | exact .refl | exact la):J P (cx F ok e L0 post N) (.code .ret :: k) f L:=J.ret hf hres h () hle [] .nil rfl hp
end
end Fl
open Go.RowKit
namespace Fl
theorem set_perm {r r':Res}:∀ {L:List Res} {j:Nat},L[j]?=some r→(L.set j r').Perm (r' :: L.eraseIdx j)
 | [],j,h=>by simp at h
 | q :: L,0,h=>by simp
 | q :: L,j + 1,h=>by
  simp at h;simp only [List.set_cons_succ,List.eraseIdx_cons_succ];exact ((set_perm h).cons q).trans (List.Perm.swap r' q _)
section
variable {P:Program} {c:Cx} {k:List Item} {f:Fm} {L:List Res} {ops:Array Oper} {l:List Oper} {o:Oper} {T:TypeId} {ps:String} {af:Array Edge} {gd:Option (Nat × Bool)} {t:Nat}
theorem Ld.call1 (j:Nat) {F:FuncId} {args:List Operand} {tys:Array TypeId} {ds0 ds:List D} {r:Res} {ι:Type} {dd:ι→D} {r':ι→Res} {L':ι→List Res} [i:TyC P F] (hC:Con P F ds [r] (fun x=>(dd x,[r' x]))) (hj:L[j]?=some r) (ht:t < c.N) (h:evDs f args=some ds0) (hle:LeDs ds0 ds) (hL:∀ x,L.set j (r' x)=L' x) :
  Ld P c ⟨some t,.call ⟨.value (.func F),args.toArray,tys⟩,T,ps,af,gd⟩ f L r.foot (fun x=>(t,dd x) :: f) L':=⟨fun a w s K Q hK=>by
 have hp:=pull_perm L j hj;have h1:=Ld.call (P:=P) (c:=c) (T:=T) (ps:=ps) (af:=af) (gd:=gd) (L:=r :: L.eraseIdx j) (f:=f) (tys:=tys) hC ht h hle (Ll:=[r]) (Lr:=L.eraseIdx j) rfl;refine h1.go a w (s.perm hp) K Q fun x v w' kp sx hf=>?_
 have hq:=set_perm (r':=r' x) hj;rw [hL] at hq;refine hK x v w' (by simpa [foots] using kp) (sx.perm hq) fun y hy=>?_
 rcases hf y ((foots_perm hq y).1 hy) with h | h
 ·exact .inl ((foots_perm hp y).1 h)
 ·exact .inr h⟩
end
class ResAt (L:List Res) (r:Res) (j:outParam Nat):Prop where h:L[j]?=some r
instance ResAt.succ {q r:Res} {M:List Res} {j:Nat} [h:ResAt M r j]:ResAt (q :: M) r (j + 1):=⟨by simpa using h.h⟩
instance ResAt.zero {r:Res} {M:List Res}:ResAt (r :: M) r 0:=⟨rfl⟩
section
variable {P:Program} {c:Cx} {k:List Item} {f:Fm} {L:List Res} {ops:Array Oper} {l:List Oper} {o:Oper} {T:TypeId} {ps:String} {af:Array Edge} {gd:Option (Nat × Bool)} {t:Nat}
theorem Ld.callT {F:FuncId} {args:List Operand} {tys:Array TypeId} {ds0 ds:List D} {r:Res} {j:Nat} {ι:Type} {dd:ι→D} {r':ι→Res} {L':ι→List Res} [i:TyC P F] (hC:Con P F ds [r] (fun x=>(dd x,[r' x]))) [hj:ResAt L r j] [hL:∀ x,SetAt L j (r' x) (L' x)] (ht:t < c.N) (h:evDs f args=some ds0) (hle:LeDs ds0 ds) :
  Ld P c ⟨some t,.call ⟨.value (.func F),args.toArray,tys⟩,T,ps,af,gd⟩ f L r.foot (fun x=>(t,dd x) :: f) L':=Ld.call1 j hC hj.h ht h hle fun x=>(hL x).h
theorem Ld.callA {F:FuncId} {args:List Operand} {tys:Array TypeId} {ds0 ds:List D} {ι:Type} {dd:ι→D} {L':ι→List Res} [i:TyC P F] (hC:Con P F ds L (fun x=>(dd x,L' x))) (ht:t < c.N) (h:evDs f args=some ds0) (hle:LeDs ds0 ds) :
  Ld P c ⟨some t,.call ⟨.value (.func F),args.toArray,tys⟩,T,ps,af,gd⟩ f L (foots L) (fun x=>(t,dd x) :: f) L':=⟨fun a w s K Q hK =>
 (Ld.call (P:=P) (c:=c) (T:=T) (ps:=ps) (af:=af) (gd:=gd) (tys:=tys) hC ht h hle (Ll:=L) (Lr:=[]) (by simp)).go a w s K Q fun x v w' kp sx hf=>hK x v w' kp (by simpa using sx) (by simpa using hf)⟩
end
section
variable {P:Program} {F:FuncId} {ok:Nat→Prop} {e:World} {L0 L:List Res} {ι:Type} {post:ι→D × List Res} {fn:Func} {N:Nat} {f:Fm} {k:List Item}
theorem range_get (L:List Res):(List.range L.length).map (fun i=>L[i]?)=L.map some:=by
 apply List.ext_getElem?;intro i;rw [List.getElem?_map,List.getElem?_map]
 by_cases h:i < L.length
 ·rw [List.getElem?_range h,List.getElem?_eq_getElem h];simp [List.getElem?_eq_getElem h]
 ·rw [List.getElem?_eq_none (by simpa using h),List.getElem?_eq_none (by omega)];rfl
theorem J.perm {c:Cx} {L2:List Res} (hp:L2.Perm L) (h:J P c k f L2):J P c k f L:=⟨fun a w s=>h.go a w (s.perm hp)⟩
theorem J.retA (hf:P.funcs[F]?=some fn) {rs:List ResultVar} {ds:List D} (hres:fn.results=rs.toArray) (h:ResDs P f L rs ds) {d:D} (i:ι) (hle:LeD (oneD ds) d) (hp:post i=(d,L)):J P (cx F ok e L0 post N) (.code .ret :: k) f L :=
 J.ret hf hres h i hle (List.range L.length) List.nodup_range (range_get L) hp
theorem J.finA (hf:P.funcs[F]?=some fn) {rs:List ResultVar} {ds:List D} (hres:fn.results=rs.toArray) (h:ResDs P f L rs ds) {d:D} (i:ι) (hle:LeD (oneD ds) d) (hp:post i=(d,L)):J P (cx F ok e L0 post N) [] f L :=
 J.fin hf hres h i hle (List.range L.length) List.nodup_range (range_get L) hp
theorem range_getE (E L:List Res):((List.range L.length).map (· + E.length)).map (fun i=>(E ++ L)[i]?)=L.map some:=by
 rw [List.map_map,← range_get L];refine List.map_congr_left fun i _=>?_
 simp only [Function.comp];rw [List.getElem?_append_right (by omega)]
 congr 1;omega
theorem J.retE (E:List Res) {L':List Res} (hL:L=E ++ L') (hf:P.funcs[F]?=some fn) {rs:List ResultVar} {ds:List D} (hres:fn.results=rs.toArray) (h:ResDs P f L rs ds) {d:D} (i:ι) (hle:LeD (oneD ds) d) (hp:post i=(d,L')):J P (cx F ok e L0 post N) (.code .ret :: k) f L:=by
 subst hL;exact J.ret hf hres h i hle ((List.range L'.length).map (· + E.length)) (List.pairwise_map.2 (List.nodup_range.imp (fun h e=>h (by omega)))) (range_getE E L') hp
theorem J.finE (E:List Res) {L':List Res} (hL:L=E ++ L') (hf:P.funcs[F]?=some fn) {rs:List ResultVar} {ds:List D} (hres:fn.results=rs.toArray) (h:ResDs P f L rs ds) {d:D} (i:ι) (hle:LeD (oneD ds) d) (hp:post i=(d,L')):J P (cx F ok e L0 post N) [] f L:=by
 subst hL;exact J.fin hf hres h i hle ((List.range L'.length).map (· + E.length)) (List.pairwise_map.2 (List.nodup_range.imp (fun h e=>h (by omega)))) (range_getE E L') hp
end
structure Thing (Φ:World→List Nat→Prop):Prop where
 keep:∀ {w w':World} {S T:List Nat},Φ w S→Keeps T w w'→(∀ x∈S,x∉T)→Φ w' S
 lt:∀ {w:World} {S:List Nat},Φ w S→∀ x∈S,x < w.heap.size
def thing (Φ:World→List Nat→Prop) (S:List Nat):Res:=.obj S (fun w=>Φ w S)
theorem thing.holds {Φ:World→List Nat→Prop} (h:Thing Φ) {ok:Nat→Prop} {w:World} {S:List Nat}:(thing Φ S).holds ok w↔Φ w S:=by
 constructor
 ·rintro ⟨h1,h2⟩;exact h2 w [] (Keeps.refl _ _) (by simp)
 ·intro h1;exact ⟨h.lt h1,fun w' S' k hn=>h.keep h1 k hn⟩
section
variable {P:Program} {F:FuncId} {ds:List D} {ι κ:Type} {M:ι→List Res} {M':κ→List Res}
theorem foots_thing (Φ:World→List Nat→Prop) (S:List Nat):foots [thing Φ S]=S:=by simp [foots,thing,Res.foot]
end
section
variable {P:Program} {F:FuncId} {ds:List D} {L Ll Lr:List Res}
end
class Sfx {ι:Type} (L Ll:List Res) (M:ι→List Res) (L':outParam (ι→List Res)):Prop where h:∃ E,L=E ++ Ll∧L'=fun x=>E ++ M x
class DropW (L:List Res) (b:Nat) (L0:outParam (List Res)):Prop where h:∃ B,L=L0 ++ B
class TailW (L:List Res) (b:Nat) (B:outParam (List Res)) (mk:outParam (List Res→List Res)):Prop where
 h:L=mk B
 e:∃ E,∀ X,mk X=E ++ X
section
variable {P:Program} {c:Cx} {k:List Item} {f:Fm} {L L2:List Res} {T X:TypeId} {ps:String} {af:Array Edge} {gd:Option (Nat × Bool)} {t:Nat}
end
def allT (L:List Res):List Nat:=List.range L.length
theorem blk_all {L:List Res} {x:Nat} (h:x∈foots L):x∈blk L (allT L):=by
 obtain ⟨r,hr,hx⟩:=mem_foots.1 h;obtain ⟨i,hi⟩:=List.getElem?_of_mem hr;exact mem_blk.2 ⟨i,List.mem_range.2 (List.getElem?_eq_some_iff.1 hi).1,r,hi,hx⟩
def SubF (S:List Nat) (L:List Res):Prop:=∀ x∈S,x∈foots L
theorem SubF.nil {L:List Res}:SubF [] L:=fun x hx=>by cases hx
theorem SubF.row {v:Value} {e sz:Nat} {l:List (List A)} {L:List Res}:SubF (vfoot v) (.row v e sz l :: L):=fun x hx=>(foots_cons _ _ _).2 (.inl hx)
section
variable {P:Program} {c:Cx} {k:List Item} {f f0:Fm} {L L0:List Res} {ops:Array Oper} {o:Oper} {m:Option Nat} {n:Nat} {listed:Array Bool}
theorem JW.baseA (m:Option Nat) (h:JD P c ops m (allT L) n listed k f L f L):JW P c ops n listed k f L:=JW.baseT _ _ h
end
section
variable {P:Program} {c:Cx} {f:Fm} {L:List Res} {T X:TypeId} {ps:String} {af:Array Edge} {gd:Option (Nat × Bool)} {t:Nat}
theorem Qt.max {x y:Operand} {tys:Array TypeId} {k1:IntKind} {m n r:Int} (h:evD f x=some (.c (.v (.int k1 m)))) (hy:evD f y=some (.c (.v (.int k1 n)))) (hr:(if n > m then n else m)=r):Qt P c [] ⟨t,.call ⟨.builtin .max,#[x,y],tys⟩,T,ps,af,gd⟩ f L (.c (.v (.int k1 r))):=⟨fun a w s=>by
 have rx:=s.val h;have ry:=s.val hy;subst hr;refine ⟨_,by unfold RD RA;exact ⟨rfl,rfl⟩,fun w' k=>?_⟩;simp only [execOp,resolve,invoke,builtin,Sem.run_bind];simp [rx,ry,Builtin.max_,Builtin.max2,Sem.run_bind]⟩
end
section
variable {P:Program} {c:Cx} {f:Fm} {L:List Res} {T X:TypeId} {ps:String} {af:Array Edge} {gd:Option (Nat × Bool)} {t:Nat}
end
def pt (b:Nat):Value:=.pointer (some ⟨b,0,none⟩)
def nums (l:List Int):List (List A):=l.map fun n=>[nI n]
end Fl
open Go.RowKit Go.ChangeShapes Go.WideShapes Go.Deep
namespace Fl
section
variable {α:Type} {E:World→List Value→α→List Nat→Prop} {enc:α→List A}
def Si (enc:α→List A) (E:World→List Value→α→List Nat→Prop):Prop :=
 ∀ (ok:Nat→Prop) (w:World) (cs:List Value) (a:α) (U:List Nat),E w cs a U→(∀ x∈U,ok x)→RC ok w (enc a) cs
theorem Si.rx (h:Si enc E) {ok:Nat→Prop} {w:World} {sz:Nat} {S:List Nat} (hS:∀ x∈S,ok x):∀ {l:List α} {xs:List Value},xs.length=l.length * sz→Parts E sz w xs l S→RX ok w sz (l.map enc) xs
 | [],xs,hl,r=>by simp at hl;subst hl;rfl
 | a :: l,xs,hl,r=>by
  have hl':xs.length=l.length * sz + sz:=by rw [hl,List.length_cons,Nat.add_mul];omega
  refine ⟨xs.take sz,xs.drop sz,(List.take_append_drop sz xs).symm,by rw [List.length_take];omega,?_,Si.rx h hS (by rw [List.length_drop];omega) fun k b hk=>?_⟩
  ·obtain ⟨U,u1,u2⟩:=r 0 a rfl;have:chunk xs sz 0=xs.take sz:=by unfold chunk;simp
   rw [this] at u1;exact h ok w _ a U u1 fun x hx=>hS x (u2 x hx)
  ·obtain ⟨U,u1,u2⟩:=r (k + 1) b (by simpa using hk);have:chunk xs sz (k + 1)=chunk (xs.drop sz) sz k:=by
    unfold chunk;rw [List.drop_drop,show (k + 1) * sz=sz + k * sz by rw [Nat.add_mul];omega]
   rw [this] at u1;exact ⟨U,u1,u2⟩
theorem Si.ra (h:Si enc E) {ok:Nat→Prop} {w:World} {sz:Nat} {v:Value} {l:List α} {S:List Nat} (r:GV E sz w v l S) (hS:∀ x∈S,ok x):RA ok w (.r sz (l.map enc)) v:=by
 obtain ⟨xs,T,v1,v2,v3,v4,v5⟩:=r;exact RA.of_view (ys:=xs) (S:=T) (by rw [List.length_map];exact v1) (h.rx hS v1.len v2) fun g hg=>hS g (v3 g hg)
theorem Si.row (h:Si enc E) {sz:Nat}:Si (fun l:List α=>[A.r sz (l.map enc)]) (rowE E sz):=fun ok w cs l U r hS=>by
 obtain ⟨v,rfl,g⟩:=r;exact RC.cons (h.ra g hS) RC.nil
end
theorem RA.w {ok:Nat→Prop} {w:World} {v:Value} (h:v.oneCell'=true):RA ok w (.v v) v:=by unfold RA;exact ⟨rfl,h⟩
theorem RD.v {ok:Nat→Prop} {w:World} {v:Value} (h:v.oneCell'=true):RD ok w (.c (.v v)) v:=by unfold RD RA;exact ⟨rfl,h⟩
theorem law1 {P:Program} {F:FuncId} {ds:List D} (h:Pure P F ds (.c (bI true))) {w:World} {xs:List Value} (hd:RDs (fun _=>True) w ds xs):Calls P F xs.toArray w fun e w'=>e=.returned (.bool true)∧Keeps [] w w':=by
 refine Calls.mono (h.go (fun _=>True) w xs hd (by simp) List.Pairwise.nil (by simp [foots])) ?_
 rintro en w' ⟨i,x,rfl,kp,_,_,_,r⟩
 unfold RD bI RA at r;exact ⟨by rw [r.1],by simpa [foots] using kp⟩
end Fl
open Go.RowKit
namespace Fl
section
variable {P:Program} {c:Cx} {k:List Item} {f:Fm} {L:List Res} {ops:Array Oper} {T X:TypeId} {ps:String} {af:Array Edge} {gd:Option (Nat × Bool)} {t:Nat}
theorem Ld.pureV {x:Operand} {F:FuncId} {args:List Operand} {tys:Array TypeId} {ds0 ds:List D} {d:D} [i:TyC P F] (hx:evD f x=some (.c (.v (.func (.func F) #[] #[])))) (hC:Pure P F ds d) (ht:t < c.N) (h:evDs f args=some ds0) (hle:LeDs ds0 ds) :
  Ld P c ⟨some t,.call ⟨.value x,args.toArray,tys⟩,T,ps,af,gd⟩ f L [] (fun _:Unit=>(t,d) :: f) (fun _=>L):=⟨fun a w s K Q hK=>by
 have h1:=(Ld.pure (P:=P) (c:=c) (T:=T) (ps:=ps) (af:=af) (gd:=gd) (L:=L) (f:=f) (tys:=tys) hC ht h hle).go a w s K Q hK;have e:=s.val hx;unfold Oper.wp at h1 ⊢;rw [show execOp a.eval ⟨some t,.call ⟨.value x,args.toArray,tys⟩,T,ps,af,gd⟩=execOp a.eval ⟨some t,.call ⟨.value (.func F),args.toArray,tys⟩,T,ps,af,gd⟩ by
  simp only [execOp,resolve,e];rfl]
 exact h1⟩
theorem Qt.bin {op:BinOp} {x y:Operand} {X Y:Nat} {ka kb kc:IntKind} {m n r:Int} (h:evD f x=some (.c (.v (.int ka m)))) (hy:evD f y=some (.c (.v (.int kb n)))) (hr:∀ w,(binOp op X (.int ka m) (.int kb n)).run P w=.ok (.int kc r) w):Qt P c [] ⟨t,.binOp op X x y Y,T,ps,af,gd⟩ f L (.c (.v (.int kc r))):=⟨fun a w s=>by
 have rx:=s.val h;have ry:=s.val hy;refine ⟨.int kc r,by unfold RD RA;exact ⟨rfl,rfl⟩,fun w' k=>?_⟩;simp [execOp,rx,ry,eqGuard_at_int,hr,Sem.run_bind]⟩
end
end Fl
end Go.Proofs.Ytdibmkjoaghafaa
