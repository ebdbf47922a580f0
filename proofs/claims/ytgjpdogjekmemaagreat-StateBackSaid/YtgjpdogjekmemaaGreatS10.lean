/-
  What the laws need, part S10.
  Conditions: none.
-/
import Derived.Test.YtgjpdogjekmemaaGreatS8
import Derived.Test.YtgjpdogjekmemaaGreatS9
set_option linter.unusedVariables false
set_option linter.unusedSimpArgs false
set_option linter.unnecessarySimpa false
set_option maxHeartbeats 2000000
namespace Go.Proofs.YtgjpdogjekmemaaGreat
open Go.RowKit
namespace Fl
open Sx Go.Proofs.Tryz
set_option maxRecDepth 100000
section
variable {P:Program} {c:Cx} {f:Fm} {L:List ak} {T:TypeId} {ps:String} {af:Array Edge} {gd:Option (Nat × Bool)} {t:Nat}
theorem Ld.MO {F:FuncId} {args:List Operand} {tys:Array TypeId} {cM ds:List D} {ι:Type} {dd:ι→D} {r1 r2:ι→ak} [i:aK P F] (hC:aq P F ds [] (fun x=>(dd x,[r1 x,r2 x]))) (ht:t < c.N) (h:gq f args=some cM) (hle:br cM ds) :
  Ld P c ⟨some t,.call ⟨.value (.func F),args.toArray,tys⟩,T,ps,af,gd⟩ f L [] (fun x=>(t,dd x) :: f) (fun x=>r1 x :: r2 x :: L) :=
 Ld.yV hC (fun _=>rfl) ht h hle
end
def gV (x:Gr) (v u:Value):List A :=
  [.r 6 (x.ops.map cC),nI x.at_,nI x.place,nI x.status,bI x.token,nI x.call,bI x.bp,nI x.param,nI x.bq,nI x.hold,nI x.t,nI x.iF,nI x.cz,nI x.wi,nI x.dc,
   nI x.res.code,nI x.res.cs,nI x.res.v,bI x.res.ok,nI x.res.n,ints x.order,ints x.aC,.v v,.v u,nI x.k]
theorem MP (x:Gr) (b1:x.ops.length≤100000) (b2:∀ o∈x.ops,o.cases.length≤1000) (b3:x.order.length≤1000) (b4:x.aC.length≤1000) (b5:x.au.length≤1000) (b6:x.an.length≤1000) :
  aq prog 35 [.agg (eG x)] [] (fun q:Value × Value=>(.agg (gV x q.1 q.2),[.row q.2 3 1 (aU x.an),.row q.1 3 1 (aU x.au)])):=by
 have C1:=zn [x.ops] (by simp) (by intro ops ho;obtain rfl:=List.mem_singleton.1 ho;exact ⟨b1,b2⟩);refine aq.intro func35 rfl rfl rfl (fun ok e=>?_);have l5:(aU x.au).length=x.au.length:=fA _;have l6:(aU x.an).length=x.an.length:=fA _
 repeat (first | (refine K.indexAddr ?_;refine jx rfl rfl rfl rfl (by omega) (rfl) ?_) | refine aI (C1) ?_ | (refine K.lit ?_;refine JO.ld (Ld.iZ (qb rfl) rfl rfl rfl rfl rfl) rfl (fun _=>?_)) | (refine K.bi ?_;first | (refine JO.ld (Ld.dO (l2:=aU x.order) (qb rfl) rfl rfl .read (by rw [fA];omega)) rfl (fun _=>?_)) | (refine JO.ld (Ld.dO (l2:=aU x.aC) (qb rfl) rfl rfl .read (by rw [fA];omega)) rfl (fun _=>?_)) | (refine JO.ld (Ld.jM (l2:=aU x.au) (qb rfl) rfl rfl .read (by rw [fA];omega)) rfl ?_;intro v) | (refine JO.ld (Ld.jM (l2:=aU x.an) (qb rfl) rfl rfl .read (by rw [fA];omega)) rfl ?_;intro w)) | refine av ?_ | intro _)
 refine J.perm (bu 2 rfl rfl (bu 2 rfl rfl (.refl _))) ?_
 (exact J.rP [_,_] rfl func35 rfl (.cons (.cell 0 rfl rfl rfl) .nil) (v,w) la rfl)
@[reducible] def wo (b:Nat) (u:U) (s:ah) (G:List (List A)) (B:List (Int × Bool)) (rv cl:List (List A)) (La:List Int) (Q:List (List Int)) (rs:List (Value × Nat × List Int)) (R:List ak):List ak :=
 .box b 87 (wW u s) ::
 .row u.vG 55 25 G ::
 .row u.vR 104 1 rv ::
 .row u.vC 4 1 cl ::
 .row u.vS 60 7 (s.aD.map eS) ::
 .row u.vM 46 13 (s.done.map eM) ::
 .box u.bD 132 [dW s,nI s.drawn] ::
 aL (tB u.pB B) u.TB ::
 aL (tL u.pL La) u.TL ::
 aL (tQ u.pQ s.aD.length Q) u.TQ ::
 aL (tP u.pP s.cY.toNat s.bM.toNat (iI u s)) u.TP ::
 aL (tR rs) u.TR :: R
def jW (u:U) (k:Nat):List (List A):=(List.range k).map fun i=>[.v (u.rs i)]
def iQ (s:ah) (k:Nat):List (List A):=(s.ax.take k).map fun c=>[bI c.closed]
def mJ (u:U) (s:ah) (k:Nat):List (Value × Nat × List Int):=(List.range k).map fun i=>(u.rs i,(cn s (i + 1)).cap.toNat,(cn s (i + 1)).buf)
def oO (u:U) (s:ah) (k:Nat):List (List A):=(List.range k).map fun g=>gW (aa s g) (u.sg g) (u.wk g)
def pX (u:U) (s:ah) (k:Nat):List ak:=((List.range k).map fun g=>.row (u.sg g) 3 1 (aU (aa s g).au)) ++ ((List.range k).map fun g=>.row (u.wk g) 3 1 (aU (aa s g).an))
abbrev uC (u:U) (k:Nat) (x:Value × Value × Value × List Nat):U:={ u with vR:=x.2.1,vC:=x.2.2.1,TR:=u.TR ++ x.2.2.2,rs:=fun i=>if i=k then x.1 else u.rs i }
theorem MQ (u:U) (k:Nat) (x:Value × Value × Value × List Nat):jW u k ++ [[A.v x.1]]=jW (uC u k x) (k + 1) :=
 qC (by simp) fun j hj=>by have:j≠k:=(by omega);simp [this]
theorem MR (u:U) (s:ah) (k:Nat) (x:Value × Value × Value × List Nat):mJ u s k ++ [(x.1,(cn s ((k:Int) + 1)).cap.toNat,(cn s ((k:Int) + 1)).buf)]=mJ (uC u k x) s (k + 1) :=
 qC (by simp) fun j hj=>by have:j≠k:=(by omega);simp [this]
theorem MS {s:ah} {k:Nat} (hk:k < s.ax.length):iQ s k ++ [[bI (cn s ((k:Int) + 1)).closed]]=iQ s (k + 1):=by
 unfold iQ;rw [List.take_add_one,rW hk,List.map_append];rfl
theorem MT (b:Nat) (u:U) (s:ah) (k:Nat) (G:List (List A)) (B:List (Int × Bool)) (R:List ak) (hk:k < s.ax.length) (Q:Qs s) (hc:0≤(cn s ((k:Int) + 1)).cap∧(cn s ((k:Int) + 1)).cap≤64∧(((cn s ((k:Int) + 1)).buf.length:Nat):Int)≤(cn s ((k:Int) + 1)).cap) (hl:(cn s ((k:Int) + 1)).lock=-1∨0≤(cn s ((k:Int) + 1)).lock) (hr:(cn s ((k:Int) + 1)).recv.length≤1000) (ht:(cn s ((k:Int) + 1)).send.length≤1000) :
  aq prog 36 [.c (.v (pt b)),.c (nI ((k:Int) + 1)),.agg (eC (cn s ((k:Int) + 1)))] (wo b u s G B (jW u k) (iQ s k) (lK s k) (qK s k 0 0) (mJ u s k) R)
   (fun x:Value × Value × Value × List Nat=>(.aY [],wo b (uC u k x) s G B (jW (uC u k x) (k + 1)) (iQ s (k + 1)) (lK s (k + 1)) (qK s (k + 1) 0 0) (mJ (uC u k x) s (k + 1)) R)):=by
 have c8:=Q.c8;have CR:=IV _ _ hc;have CL:=Ij u.pL (lK s k) u.TL ((k:Int) + 1 - 1) (cn s ((k:Int) + 1)).lock;rw [KB hk hl] at CL;have w1:IntKind.i64.wrap ((k:Int) + 1 - 1)=(k:Int) + 1 - 1:=fq (by omega) (by omega);have l1:(jW u k).length≤8:=by simp [jW];omega
 have l2:(iQ s k).length≤8:=by simp [iQ];omega
 refine aq.intro func36 rfl rfl rfl (fun ok e=>?_)
 repeat (first | (refine K.store ?_;refine JO.ld (Ld.cr rfl rfl (by exact rfl)) rfl (fun _=>?_)) | (refine K.call ?_;refine JO.ld (Ld.jm CR (qb rfl) rfl (.cons .refl (.cons .refl .nil))) rfl ?_;intro x) | (refine K.lit ?_;refine JO.ld (Ld.iZ (qb rfl) rfl rfl rfl rfl rfl) rfl (fun _=>?_)) | (refine K.bi ?_;refine JO.ld (Ld.bH (qb rfl) rfl rfl .read (by (simp;omega))) rfl (fun _=>?_)) | refine av ?_ | intro _)
 rename_i b5 _ vR _;refine J.draw (by kernel_rfl) rfl ?_;refine JW.gw [5] (some 11) ?_;refine tk 0 ?_;refine tk 1 ?_;refine tk 2 ?_;refine tk 3 ?_;refine tk 4 ?_;refine tk 5 ?_;refine tk 6 ?_;refine jl 7 rfl rfl rfl rfl (Ld.iZ (qb rfl) rfl rfl rfl rfl rfl) .none (fun _=>?_);refine jl 8 rfl rfl rfl rfl (Ld.bH (qb rfl) rfl rfl .read (by (simp;omega))) (.oU rfl) (fun _=>?_);refine jk 9 rfl rfl rfl rfl (Qt.nilCheck rfl rfl) ?_;refine jk 10 rfl rfl rfl rfl (Qt.fieldAddr rfl rfl) ?_;refine jt 11 rfl rfl (Ld.cr rfl rfl (by exact rfl)) (fun _=>?_);refine bz ?_
 repeat ((refine J.seq ?_))
 refine J.draw (by kernel_rfl) rfl ?_;refine JW.gw [10] none ?_;refine tk 0 ?_;refine tk 1 ?_;refine tk 2 ?_;refine tk 3 ?_;refine tk 4 ?_;refine JD.take 5 rfl rfl (by kernel_rfl) rfl (qb rfl) (Qt.dy rfl rfl rfl w1) rfl ?_;refine tk 6 ?_;refine tk 7 ?_;refine jl 8 rfl rfl rfl rfl (Ld.cT CL (qb rfl) rfl (.cons .refl (.cons .refl (.cons .refl .nil)))) (.dS rfl) (fun _=>?_);refine bP ?_;rename_i vC _ _;have eR:jW u k ++ [[A.v x.1]]=jW (uC u k (x.1,vR,vC,x.2)) (k + 1):=MQ u k (x.1,vR,vC,x.2);have MU:iQ s k ++ [[bI (cn s ((k:Int) + 1)).closed]]=iQ s (k + 1):=MS hk
 repeat (refine gn ?_)
 refine J.loop (ι:={ j:Nat // j≤(cn s ((k:Int) + 1)).recv.length }) (fun q=>[(53,.c (nI q.1)),(52,.c (nI (cn s ((k:Int) + 1)).recv.length)),(51,.c (ints (cn s ((k:Int) + 1)).recv)),(5,.c (.v (pt b5))),(1,.c (nI ((k:Int) + 1))),(0,.c (.v (pt b)))]) (fun q=>.row vC 4 1 (iQ s (k + 1)) :: .row vR 104 1 (jW (uC u k (x.1,vR,vC,x.2)) (k + 1)) :: aL (tR [(x.1,(cn s ((k:Int) + 1)).cap.toNat,(cn s ((k:Int) + 1)).buf)]) x.2 :: .box b5 97 (eC (cn s ((k:Int) + 1))) :: .box b 87 (wW (uC u k (x.1,vR,vC,x.2)) s) :: .row u.vG 55 25 G :: .row u.vS 60 7 (s.aD.map eS) :: .row u.vM 46 13 (s.done.map eM) :: .box u.bD 132 [dW s,nI s.drawn] :: aL (tB u.pB B) u.TB :: aL (tL u.pL (lK s (k + 1))) u.TL :: aL (tQ u.pQ s.aD.length (qK s k q.1 0)) u.TQ :: aL (tP u.pP s.cY.toNat s.bM.toNat (iI u s)) u.TP :: aL (tR (mJ u s k)) u.TR :: R) (fun q=>(cn s ((k:Int) + 1)).recv.length - q.1) ⟨0,Nat.zero_le _⟩ (fun X h=>?_) (fun q ih=>?_)
 ·refine J.dj ?_ (h.aQ ⟨rfl,rfl,rfl,rfl,rfl,rfl,trivial⟩);rw [← eR,← MU];rfl
 obtain ⟨j,hj⟩:=q;simp only at hj ih ⊢
 by_cases dH:j < (cn s ((k:Int) + 1)).recv.length
 ·have t1:(decide ((j:Int) < ((cn s ((k:Int) + 1)).recv.length:Int)))=true:=by simpa using dH
  obtain ⟨y,hy⟩:∃ y,(cn s ((k:Int) + 1)).recv[j]?=some y:=⟨_,List.getElem?_eq_getElem dH⟩
  have CP:=Ce u.pQ s.aD.length (qK s k j 0) u.TQ (2 * ((k:Int) + 1) - 2) y;rw [KF Q hk hy] at CP
  repeat (refine gn ?_)
  refine J.draw (by kernel_rfl) rfl ?_;refine JW.gw [11] none ?_;refine tk 0 ?_;refine tk 1 ?_;refine tk 2 ?_;refine tk 3 ?_;refine tk 4 ?_;refine tk 6 ?_;refine jl 5 rfl rfl rfl rfl (Ld.pure (zq ((k:Int) + 1) (by omega) (by omega)) (qb rfl) rfl lq) .none (fun _=>?_);refine jl 7 rfl rfl rfl rfl (Ld.cT CP (qb rfl) rfl (.cons .refl (.cons .refl (.cons .refl .nil)))) (.dS rfl) (fun _=>?_);refine bP ?_
  repeat (refine gn ?_)
  exact (ih ⟨j + 1,by omega⟩ (by simp only;omega)).aQ ⟨rfl,rfl,rfl,rfl,rfl,rfl,trivial⟩
 ·have t1:(decide ((j:Int) < ((cn s ((k:Int) + 1)).recv.length:Int)))=false:=by simpa using dH
  obtain rfl:j=(cn s ((k:Int) + 1)).recv.length:=by omega
  repeat (refine gn ?_)
  refine J.loop (ι:={ j:Nat // j≤(cn s ((k:Int) + 1)).send.length }) (fun q=>[(69,.c (nI q.1)),(68,.c (nI (cn s ((k:Int) + 1)).send.length)),(67,.c (ints (cn s ((k:Int) + 1)).send)),(5,.c (.v (pt b5))),(1,.c (nI ((k:Int) + 1))),(0,.c (.v (pt b)))]) (fun q=>.row vC 4 1 (iQ s (k + 1)) :: .row vR 104 1 (jW (uC u k (x.1,vR,vC,x.2)) (k + 1)) :: aL (tR [(x.1,(cn s ((k:Int) + 1)).cap.toNat,(cn s ((k:Int) + 1)).buf)]) x.2 :: .box b5 97 (eC (cn s ((k:Int) + 1))) :: .box b 87 (wW (uC u k (x.1,vR,vC,x.2)) s) :: .row u.vG 55 25 G :: .row u.vS 60 7 (s.aD.map eS) :: .row u.vM 46 13 (s.done.map eM) :: .box u.bD 132 [dW s,nI s.drawn] :: aL (tB u.pB B) u.TB :: aL (tL u.pL (lK s (k + 1))) u.TL :: aL (tQ u.pQ s.aD.length (qK s k (cn s ((k:Int) + 1)).recv.length q.1)) u.TQ :: aL (tP u.pP s.cY.toNat s.bM.toNat (iI u s)) u.TP :: aL (tR (mJ u s k)) u.TR :: R) (fun q=>(cn s ((k:Int) + 1)).send.length - q.1) ⟨0,Nat.zero_le _⟩ (fun X h=>h.aQ ⟨rfl,rfl,rfl,rfl,rfl,rfl,trivial⟩) (fun q fF=>?_);obtain ⟨j,hj⟩:=q;simp only at hj fF ⊢
  by_cases dH:j < (cn s ((k:Int) + 1)).send.length
  ·have t1:(decide ((j:Int) < ((cn s ((k:Int) + 1)).send.length:Int)))=true:=by simpa using dH
   obtain ⟨y,hy⟩:∃ y,(cn s ((k:Int) + 1)).send[j]?=some y:=⟨_,List.getElem?_eq_getElem dH⟩
   have CP:=Ce u.pQ s.aD.length (qK s k (cn s ((k:Int) + 1)).recv.length j) u.TQ (2 * ((k:Int) + 1) - 1) y;rw [KG Q hk hy] at CP
   repeat (refine gn ?_)
   refine J.draw (by kernel_rfl) rfl ?_;refine JW.gw [11] none ?_;refine tk 0 ?_;refine tk 1 ?_;refine tk 2 ?_;refine tk 3 ?_;refine tk 4 ?_;refine tk 6 ?_;refine jl 5 rfl rfl rfl rfl (Ld.pure (zu ((k:Int) + 1) (by omega) (by omega)) (qb rfl) rfl lq) .none (fun _=>?_);refine jl 7 rfl rfl rfl rfl (Ld.cT CP (qb rfl) rfl (.cons .refl (.cons .refl (.cons .refl .nil)))) (.dS rfl) (fun _=>?_);refine bP ?_
   repeat (refine gn ?_)
   exact (fF ⟨j + 1,by omega⟩ (by simp only;omega)).aQ ⟨rfl,rfl,rfl,rfl,rfl,rfl,trivial⟩
  ·have t1:(decide ((j:Int) < ((cn s ((k:Int) + 1)).send.length:Int)))=false:=by simpa using dH
   obtain rfl:j=(cn s ((k:Int) + 1)).send.length:=by omega
   rw [KI]
   repeat (refine gn ?_)
   refine J.eI 3 ?_;refine J.perm (bu 12 rfl rfl (bu 2 rfl rfl (.refl _))) ?_;refine J.rings ?_;have MV:=MR u s k (x.1,vR,vC,x.2);rw [MV];refine J.perm (L2:=wo b (uC u k (x.1,vR,vC,x.2)) s G B (jW (uC u k (x.1,vR,vC,x.2)) (k + 1)) (iQ s (k + 1)) (lK s (k + 1)) (qK s (k + 1) 0 0) (mJ (uC u k (x.1,vR,vC,x.2)) s (k + 1)) R) ?_ ?_
   ·repeat (first | exact List.Perm.refl _ | refine bu 0 rfl rfl ?_ | refine bu 1 rfl rfl ?_ | refine bu 2 rfl rfl ?_ | refine bu 3 rfl rfl ?_)
   (exact J.yR func36 rfl .nil (x.1,vR,vC,x.2) (by exact .refl) rfl)
end Fl
open Go.RowKit
namespace Fl
open Sx Go.Proofs.Tryz
set_option maxRecDepth 100000
section
variable {P:Program} {c:Cx} {k:List Item} {f:Fm} {b:Nat} {u:U} {s:ah} {g:Nat}
abbrev QX (u:U) (g:Nat) (v:Value):U:={ u with wk:=fun k=>if k=g then v else u.wk k }
end
end Fl
end Go.Proofs.YtgjpdogjekmemaaGreat
