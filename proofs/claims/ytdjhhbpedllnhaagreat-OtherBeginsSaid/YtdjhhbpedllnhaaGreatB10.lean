/-
  What the laws need, part B10.
  Conditions: none.
-/
import Derived.Test.YtdjhhbpedllnhaaGreatB8
import Derived.Test.YtdjhhbpedllnhaaGreatB9
set_option linter.unusedVariables false
set_option linter.unusedSimpArgs false
set_option linter.unnecessarySimpa false
set_option maxHeartbeats 2000000
namespace Go.Proofs.YtdjhhbpedllnhaaGreat
open Go.RowKit
namespace Fl
open Sx Go.Proofs.Tryz
set_option maxRecDepth 100000
section
variable {P:Program} {c:Cx} {f:Fm} {L:List aj} {T:TypeId} {ps:String} {af:Array Edge} {gd:Option (Nat × Bool)} {t:Nat}
theorem Ld.Sq {F:FuncId} {args:List Operand} {tys:Array TypeId} {dh ds:List D} {ι:Type} {dd:ι→D} {r1 r2:ι→aj} [i:aG P F] (hC:an P F ds [] (fun x=>(dd x,[r1 x,r2 x]))) (ht:t < c.N) (h:iw f args=some dh) (hle:aJ dh ds) :
  Ld P c ⟨some t,.call ⟨.value (.func F),args.toArray,tys⟩,T,ps,af,gd⟩ f L [] (fun x=>(t,dd x) :: f) (fun x=>r1 x :: r2 x :: L) :=
 Ld.DE hC (fun _=>rfl) ht h hle
end
def gV (x:Gr) (v u:Value):List A :=
  [.r 6 (x.ops.map dH),nI x.at_,nI x.place,nI x.status,bI x.token,nI x.call,bI x.bG,nI x.param,nI x.bh,nI x.hold,nI x.t,nI x.iy,nI x.bT,nI x.wi,nI x.dm,
   nI x.res.code,nI x.res.cs,nI x.res.v,bI x.res.ok,nI x.res.n,ints x.order,ints x.aB,.v v,.v u,nI x.k]
theorem Sr (x:Gr) (b1:x.ops.length≤100000) (b2:∀ o∈x.ops,o.cases.length≤1000) (b3:x.order.length≤1000) (b4:x.aB.length≤1000) (b5:x.aq.length≤1000) (b6:x.au.length≤1000) :
  an prog 51 [.agg (eG x)] [] (fun q:Value × Value=>(.agg (gV x q.1 q.2),[.row q.2 3 1 (aF x.au),.row q.1 3 1 (aF x.aq)])):=by
 have C1:=It [x.ops] (by simp) (by intro ops ho;obtain rfl:=List.mem_singleton.1 ho;exact ⟨b1,b2⟩);refine an.intro func51 rfl rfl rfl (fun ok e=>?_);have l5:(aF x.aq).length=x.aq.length:=c7 _;have l6:(aF x.au).length=x.au.length:=c7 _
 repeat (first | (refine K.indexAddr ?_;refine jx rfl rfl rfl rfl (by omega) (rfl) ?_) | refine aX (C1) ?_ | (refine K.lit ?_;refine JO.ld (Ld.jS (qb rfl) rfl rfl rfl rfl rfl) rfl (fun _=>?_)) | (refine K.bi ?_;first | (refine JO.ld (Ld.iI (l2:=aF x.order) (qb rfl) rfl rfl .read (by rw [c7];omega)) rfl (fun _=>?_)) | (refine JO.ld (Ld.iI (l2:=aF x.aB) (qb rfl) rfl rfl .read (by rw [c7];omega)) rfl (fun _=>?_)) | (refine JO.ld (Ld.tV (l2:=aF x.aq) (qb rfl) rfl rfl .read (by rw [c7];omega)) rfl ?_;intro v) | (refine JO.ld (Ld.tV (l2:=aF x.au) (qb rfl) rfl rfl .read (by rw [c7];omega)) rfl ?_;intro w)) | refine ay ?_ | intro _)
 refine J.perm (gY 2 rfl rfl (gY 2 rfl rfl (.refl _))) ?_
 (exact J.fC [_,_] rfl func51 rfl (.cons (.cell 0 rfl rfl rfl) .nil) (v,w) la rfl)
@[reducible] def wo (b:Nat) (u:U) (s:ah) (G:List (List A)) (B:List (Int × Bool)) (rv cl:List (List A)) (La:List Int) (Q:List (List Int)) (rs:List (Value × Nat × List Int)) (R:List aj):List aj :=
 .box b 68 (wW u s) ::
 .row u.vG 47 25 G ::
 .row u.vR 106 1 rv ::
 .row u.vC 4 1 cl ::
 .row u.vS 52 7 (s.aA.map eS) ::
 .row u.vM 54 13 (s.done.map eM) ::
 .box u.bD 130 [dW s,nI s.drawn] ::
 aM (tB u.pB B) u.TB ::
 aM (tL u.pL La) u.TL ::
 aM (tQ u.pQ s.aA.length Q) u.TQ ::
 aM (tP u.pP s.dx.toNat s.bX.toNat (dV u s)) u.TP ::
 aM (tR rs) u.TR :: R
def lN (u:U) (k:Nat):List (List A):=(List.range k).map fun i=>[.v (u.rs i)]
def jZ (s:ah) (k:Nat):List (List A):=(s.av.take k).map fun c=>[bI c.closed]
def pz (u:U) (s:ah) (k:Nat):List (Value × Nat × List Int):=(List.range k).map fun i=>(u.rs i,(cn s (i + 1)).cap.toNat,(cn s (i + 1)).buf)
def rW (u:U) (s:ah) (k:Nat):List (List A):=(List.range k).map fun g=>gW (aa s g) (u.sg g) (u.wk g)
def sX (u:U) (s:ah) (k:Nat):List aj:=((List.range k).map fun g=>.row (u.sg g) 3 1 (aF (aa s g).aq)) ++ ((List.range k).map fun g=>.row (u.wk g) 3 1 (aF (aa s g).au))
abbrev uC (u:U) (k:Nat) (x:Value × Value × Value × List Nat):U:={ u with vR:=x.2.1,vC:=x.2.2.1,TR:=u.TR ++ x.2.2.2,rs:=fun i=>if i=k then x.1 else u.rs i }
theorem Sv (u:U) (k:Nat) (x:Value × Value × Value × List Nat):lN u k ++ [[A.v x.1]]=lN (uC u k x) (k + 1) :=
 uk (by simp) fun j hj=>by have:j≠k:=(by omega);simp [this]
theorem Sw (u:U) (s:ah) (k:Nat) (x:Value × Value × Value × List Nat):pz u s k ++ [(x.1,(cn s ((k:Int) + 1)).cap.toNat,(cn s ((k:Int) + 1)).buf)]=pz (uC u k x) s (k + 1) :=
 uk (by simp) fun j hj=>by have:j≠k:=(by omega);simp [this]
theorem Sy {s:ah} {k:Nat} (hk:k < s.av.length):jZ s k ++ [[bI (cn s ((k:Int) + 1)).closed]]=jZ s (k + 1):=by
 unfold jZ;rw [List.take_add_one,mY hk,List.map_append];rfl
theorem Sz (b:Nat) (u:U) (s:ah) (k:Nat) (G:List (List A)) (B:List (Int × Bool)) (R:List aj) (hk:k < s.av.length) (Q:Qs s) (hc:0≤(cn s ((k:Int) + 1)).cap∧(cn s ((k:Int) + 1)).cap≤64∧(((cn s ((k:Int) + 1)).buf.length:Nat):Int)≤(cn s ((k:Int) + 1)).cap) (hl:(cn s ((k:Int) + 1)).lock=-1∨0≤(cn s ((k:Int) + 1)).lock) (hr:(cn s ((k:Int) + 1)).recv.length≤1000) (ht:(cn s ((k:Int) + 1)).send.length≤1000) :
  an prog 52 [.c (.v (pt b)),.c (nI ((k:Int) + 1)),.agg (eC (cn s ((k:Int) + 1)))] (wo b u s G B (lN u k) (jZ s k) (lK s k) (qK s k 0 0) (pz u s k) R)
   (fun x:Value × Value × Value × List Nat=>(.bp [],wo b (uC u k x) s G B (lN (uC u k x) (k + 1)) (jZ s (k + 1)) (lK s (k + 1)) (qK s (k + 1) 0 0) (pz (uC u k x) s (k + 1)) R)):=by
 have c8:=Q.c8;have CR:=OT _ _ hc;have CL:=Hs u.pL (lK s k) u.TL ((k:Int) + 1 - 1) (cn s ((k:Int) + 1)).lock;rw [RZ hk hl] at CL;have w1:IntKind.i64.wrap ((k:Int) + 1 - 1)=(k:Int) + 1 - 1:=dJ (by omega) (by omega);have l1:(lN u k).length≤8:=by simp [lN];omega
 have l2:(jZ s k).length≤8:=by simp [jZ];omega
 refine an.intro func52 rfl rfl rfl (fun ok e=>?_)
 repeat (first | (refine K.store ?_;refine JO.ld (Ld.cY rfl rfl (by exact rfl)) rfl (fun _=>?_)) | (refine K.call ?_;refine JO.ld (Ld.vX CR (qb rfl) rfl (.cons .refl (.cons .refl .nil))) rfl ?_;intro x) | (refine K.lit ?_;refine JO.ld (Ld.jS (qb rfl) rfl rfl rfl rfl rfl) rfl (fun _=>?_)) | (refine K.bi ?_;refine JO.ld (Ld.cy (qb rfl) rfl rfl .read (by (simp;omega))) rfl (fun _=>?_)) | refine ay ?_ | intro _)
 rename_i b5 _ vR _;refine J.draw (by kernel_rfl) rfl ?_;refine JW.iZ [5] (some 11) ?_;refine tk 0 ?_;refine tk 1 ?_;refine tk 2 ?_;refine tk 3 ?_;refine tk 4 ?_;refine tk 5 ?_;refine tk 6 ?_;refine jl 7 rfl rfl rfl rfl (Ld.jS (qb rfl) rfl rfl rfl rfl rfl) .none (fun _=>?_);refine jl 8 rfl rfl rfl rfl (Ld.cy (qb rfl) rfl rfl .read (by (simp;omega))) (.pW rfl) (fun _=>?_);refine jk 9 rfl rfl rfl rfl (Qt.nilCheck rfl rfl) ?_;refine jk 10 rfl rfl rfl rfl (Qt.fieldAddr rfl rfl) ?_;refine jt 11 rfl rfl (Ld.cY rfl rfl (by exact rfl)) (fun _=>?_);refine bR ?_
 repeat ((refine J.seq ?_))
 refine J.draw (by kernel_rfl) rfl ?_;refine JW.iZ [10] none ?_;refine tk 0 ?_;refine tk 1 ?_;refine tk 2 ?_;refine tk 3 ?_;refine tk 4 ?_;refine JD.take 5 rfl rfl (by kernel_rfl) rfl (qb rfl) (Qt.cJ rfl rfl rfl w1) rfl ?_;refine tk 6 ?_;refine tk 7 ?_;refine jl 8 rfl rfl rfl rfl (Ld.fY CL (qb rfl) rfl (.cons .refl (.cons .refl (.cons .refl .nil)))) (.jb rfl) (fun _=>?_);refine bE ?_;rename_i vC _ _;have eR:lN u k ++ [[A.v x.1]]=lN (uC u k (x.1,vR,vC,x.2)) (k + 1):=Sv u k (x.1,vR,vC,x.2);have SB:jZ s k ++ [[bI (cn s ((k:Int) + 1)).closed]]=jZ s (k + 1):=Sy hk
 repeat (refine gn ?_)
 refine J.loop (ι:={ j:Nat // j≤(cn s ((k:Int) + 1)).recv.length }) (fun q=>[(53,.c (nI q.1)),(52,.c (nI (cn s ((k:Int) + 1)).recv.length)),(51,.c (ints (cn s ((k:Int) + 1)).recv)),(5,.c (.v (pt b5))),(1,.c (nI ((k:Int) + 1))),(0,.c (.v (pt b)))]) (fun q=>.row vC 4 1 (jZ s (k + 1)) :: .row vR 106 1 (lN (uC u k (x.1,vR,vC,x.2)) (k + 1)) :: aM (tR [(x.1,(cn s ((k:Int) + 1)).cap.toNat,(cn s ((k:Int) + 1)).buf)]) x.2 :: .box b5 59 (eC (cn s ((k:Int) + 1))) :: .box b 68 (wW (uC u k (x.1,vR,vC,x.2)) s) :: .row u.vG 47 25 G :: .row u.vS 52 7 (s.aA.map eS) :: .row u.vM 54 13 (s.done.map eM) :: .box u.bD 130 [dW s,nI s.drawn] :: aM (tB u.pB B) u.TB :: aM (tL u.pL (lK s (k + 1))) u.TL :: aM (tQ u.pQ s.aA.length (qK s k q.1 0)) u.TQ :: aM (tP u.pP s.dx.toNat s.bX.toNat (dV u s)) u.TP :: aM (tR (pz u s k)) u.TR :: R) (fun q=>(cn s ((k:Int) + 1)).recv.length - q.1) ⟨0,Nat.zero_le _⟩ (fun X h=>?_) (fun q ih=>?_)
 ·refine J.dN ?_ (h.aW ⟨rfl,rfl,rfl,rfl,rfl,rfl,trivial⟩);rw [← eR,← SB];rfl
 obtain ⟨j,hj⟩:=q;simp only at hj ih ⊢
 by_cases ff:j < (cn s ((k:Int) + 1)).recv.length
 ·have t1:(decide ((j:Int) < ((cn s ((k:Int) + 1)).recv.length:Int)))=true:=by simpa using ff
  obtain ⟨y,hy⟩:∃ y,(cn s ((k:Int) + 1)).recv[j]?=some y:=⟨_,List.getElem?_eq_getElem ff⟩
  have CP:=AB u.pQ s.aA.length (qK s k j 0) u.TQ (2 * ((k:Int) + 1) - 2) y;rw [R4 Q hk hy] at CP
  repeat (refine gn ?_)
  refine J.draw (by kernel_rfl) rfl ?_;refine JW.iZ [11] none ?_;refine tk 0 ?_;refine tk 1 ?_;refine tk 2 ?_;refine tk 3 ?_;refine tk 4 ?_;refine tk 6 ?_;refine jl 5 rfl rfl rfl rfl (Ld.pure (Iv ((k:Int) + 1) (by omega) (by omega)) (qb rfl) rfl lq) .none (fun _=>?_);refine jl 7 rfl rfl rfl rfl (Ld.fY CP (qb rfl) rfl (.cons .refl (.cons .refl (.cons .refl .nil)))) (.jb rfl) (fun _=>?_);refine bE ?_
  repeat (refine gn ?_)
  exact (ih ⟨j + 1,by omega⟩ (by simp only;omega)).aW ⟨rfl,rfl,rfl,rfl,rfl,rfl,trivial⟩
 ·have t1:(decide ((j:Int) < ((cn s ((k:Int) + 1)).recv.length:Int)))=false:=by simpa using ff
  obtain rfl:j=(cn s ((k:Int) + 1)).recv.length:=by omega
  repeat (refine gn ?_)
  refine J.loop (ι:={ j:Nat // j≤(cn s ((k:Int) + 1)).send.length }) (fun q=>[(69,.c (nI q.1)),(68,.c (nI (cn s ((k:Int) + 1)).send.length)),(67,.c (ints (cn s ((k:Int) + 1)).send)),(5,.c (.v (pt b5))),(1,.c (nI ((k:Int) + 1))),(0,.c (.v (pt b)))]) (fun q=>.row vC 4 1 (jZ s (k + 1)) :: .row vR 106 1 (lN (uC u k (x.1,vR,vC,x.2)) (k + 1)) :: aM (tR [(x.1,(cn s ((k:Int) + 1)).cap.toNat,(cn s ((k:Int) + 1)).buf)]) x.2 :: .box b5 59 (eC (cn s ((k:Int) + 1))) :: .box b 68 (wW (uC u k (x.1,vR,vC,x.2)) s) :: .row u.vG 47 25 G :: .row u.vS 52 7 (s.aA.map eS) :: .row u.vM 54 13 (s.done.map eM) :: .box u.bD 130 [dW s,nI s.drawn] :: aM (tB u.pB B) u.TB :: aM (tL u.pL (lK s (k + 1))) u.TL :: aM (tQ u.pQ s.aA.length (qK s k (cn s ((k:Int) + 1)).recv.length q.1)) u.TQ :: aM (tP u.pP s.dx.toNat s.bX.toNat (dV u s)) u.TP :: aM (tR (pz u s k)) u.TR :: R) (fun q=>(cn s ((k:Int) + 1)).send.length - q.1) ⟨0,Nat.zero_le _⟩ (fun X h=>h.aW ⟨rfl,rfl,rfl,rfl,rfl,rfl,trivial⟩) (fun q fP=>?_);obtain ⟨j,hj⟩:=q;simp only at hj fP ⊢
  by_cases ff:j < (cn s ((k:Int) + 1)).send.length
  ·have t1:(decide ((j:Int) < ((cn s ((k:Int) + 1)).send.length:Int)))=true:=by simpa using ff
   obtain ⟨y,hy⟩:∃ y,(cn s ((k:Int) + 1)).send[j]?=some y:=⟨_,List.getElem?_eq_getElem ff⟩
   have CP:=AB u.pQ s.aA.length (qK s k (cn s ((k:Int) + 1)).recv.length j) u.TQ (2 * ((k:Int) + 1) - 1) y;rw [R5 Q hk hy] at CP
   repeat (refine gn ?_)
   refine J.draw (by kernel_rfl) rfl ?_;refine JW.iZ [11] none ?_;refine tk 0 ?_;refine tk 1 ?_;refine tk 2 ?_;refine tk 3 ?_;refine tk 4 ?_;refine tk 6 ?_;refine jl 5 rfl rfl rfl rfl (Ld.pure (Iw ((k:Int) + 1) (by omega) (by omega)) (qb rfl) rfl lq) .none (fun _=>?_);refine jl 7 rfl rfl rfl rfl (Ld.fY CP (qb rfl) rfl (.cons .refl (.cons .refl (.cons .refl .nil)))) (.jb rfl) (fun _=>?_);refine bE ?_
   repeat (refine gn ?_)
   exact (fP ⟨j + 1,by omega⟩ (by simp only;omega)).aW ⟨rfl,rfl,rfl,rfl,rfl,rfl,trivial⟩
  ·have t1:(decide ((j:Int) < ((cn s ((k:Int) + 1)).send.length:Int)))=false:=by simpa using ff
   obtain rfl:j=(cn s ((k:Int) + 1)).send.length:=by omega
   rw [R7]
   repeat (refine gn ?_)
   refine J.cS 3 ?_;refine J.perm (gY 12 rfl rfl (gY 2 rfl rfl (.refl _))) ?_;refine J.rings ?_;have SD:=Sw u s k (x.1,vR,vC,x.2);rw [SD];refine J.perm (L2:=wo b (uC u k (x.1,vR,vC,x.2)) s G B (lN (uC u k (x.1,vR,vC,x.2)) (k + 1)) (jZ s (k + 1)) (lK s (k + 1)) (qK s (k + 1) 0 0) (pz (uC u k (x.1,vR,vC,x.2)) s (k + 1)) R) ?_ ?_
   ·repeat (first | exact List.Perm.refl _ | refine gY 0 rfl rfl ?_ | refine gY 1 rfl rfl ?_ | refine gY 2 rfl rfl ?_ | refine gY 3 rfl rfl ?_)
   (exact J.iV func52 rfl .nil (x.1,vR,vC,x.2) (by exact .refl) rfl)
end Fl
open Go.RowKit
namespace Fl
open Sx Go.Proofs.Tryz
set_option maxRecDepth 100000
theorem Kb {s:ah} {g o:Nat} (a b:Gr) (h:o≠g):ai (ai s g a) o b=ai (ai s o b) g a:=by
 unfold ai;simp only [ah.mk.injEq,true_and,and_true];exact List.set_comm _ _ (Ne.symm h)
theorem kS {s:ah} {g:Nat} (a b:Gr):ai (ai s g a) g b=ai s g b:=by
 unfold ai;simp only [List.set_set]
theorem gR {s:ah} {g:Nat} {f f':Gr→Gr} (hg:g < s.gs.length):aK (aK s g f) g f'=aK s g (fun x=>f' (f x)):=by
 unfold aK;rw [kS,mV _ _ _ _ hg,if_pos rfl]
theorem SF {s:ah} {g o:Nat} {i:Int} (hg:g < s.gs.length) (ho:o < s.gs.length) (bV:o≠g) (e:(su s i).g=o) :
  aK (aK (aK (aK (aK s g fun x=>{ x with bT:=(aa s g).t }) g fun x=>{ x with wi:=(o:Int) }) o fun x=>{ x with bT:=(aa s g).t }) o fun x=>{ x with wi:=(g:Int) }) o (fun x=>{ x with dm:=(su s i).cs })=Sx.pair s g i:=by
 rw [gR hg,gR (wD ho),gR (wD ho)];simp only [Sx.pair,e,Int.toNat_natCast,aK];rw [mV _ _ _ _ hg,if_neg bV,Kb _ _ bV]
theorem Kc (b:Nat) (u:U) (s:ah) (g o:Nat) (i:Int) (hg:g < s.gs.length) (ho:o < s.gs.length) (bV:o≠g) (h0:0≤i) (h1:i < s.aA.length) (e0:(su s i).g=o) :
  an prog 146 [.c (.v (pt b)),.c (nI g),.c (nI i)] (wd b u s) (fun _:Unit=>(.bp [],wd b u (Sx.pair s g i))):=by
 haveI:Sx.bJ g s:=⟨hg⟩
 haveI:Sx.bJ o s:=⟨ho⟩
 haveI:oo o g:=⟨bV⟩
 haveI:oo g o:=⟨Ne.symm bV⟩
 haveI:Sx.gQ i s:=⟨h0,h1⟩
 haveI:Sx.jJ s i { su s i with g:=(o:Int) }:=⟨by rw [← e0]⟩
 rw [← SF hg ho bV e0];refine an.intro func146 rfl rfl rfl (fun ok e=>?_)
 repeat ((refine J.seq ?_))
 refine J.draw (by kernel_rfl) rfl ?_;refine JW.base none ?_;refine tk 0 ?_;refine tk 1 ?_;refine tk 2 ?_;refine tk 3 ?_;refine tk 4 ?_;refine JD.take 5 rfl rfl (by kernel_rfl) rfl (qb rfl) (Qt.aI rfl rfl cL cM) rfl ?_;refine tk 6 ?_;refine tk 7 ?_;refine tk 8 ?_;refine tk 9 ?_;refine tk 10 ?_;refine tk 11 ?_;refine tk 12 ?_;refine tk 13 ?_;refine tk 14 ?_;refine JD.take 15 rfl rfl (by kernel_rfl) rfl (qb rfl) (Qt.aI rfl rfl (mF (s:=s)) mG) rfl ?_;refine tk 16 ?_;refine JD.take 17 rfl rfl (by kernel_rfl) rfl (qb rfl) (Qt.aL rfl oq rfl) rfl ?_;refine JD.take 18 rfl rfl (by kernel_rfl) rfl (qb rfl) (Qt.aI rfl rfl cL cM) rfl ?_;refine tk 19 ?_;refine tk 20 ?_;refine bE ?_
 repeat (first | (refine K.load ?_;first | ((refine jq rfl rfl rfl (Qt.aL rfl (oq) (by exact rfl)) ?_)) | ((refine jq rfl rfl rfl (Qt.aL rfl (aN) (by exact rfl)) ?_))) | (refine K.store ?_;first | ((refine JO.ld (Ld.bL rfl rfl (by exact rfl) aN) rfl (fun _=>?_)));refine JO.cH b g (fun x=>{ x with bT:=(aa s g).t }) (by exact rfl) ?_ | ((refine JO.ld (Ld.bL rfl rfl (by exact rfl) aN) rfl (fun _=>?_)));refine JO.cH b g (fun x=>{ x with wi:=(o:Int) }) (by exact rfl) ?_ | ((refine JO.ld (Ld.bL rfl rfl (by exact rfl) aN) rfl (fun _=>?_)));refine JO.cH b o (fun x=>{ x with bT:=(aa s g).t }) (by exact rfl) ?_ | ((refine JO.ld (Ld.bL rfl rfl (by exact rfl) aN) rfl (fun _=>?_)));refine JO.cH b o (fun x=>{ x with wi:=(g:Int) }) (by exact rfl) ?_ | ((refine JO.ld (Ld.bL rfl rfl (by exact rfl) aN) rfl (fun _=>?_)));refine JO.cH b o (fun x=>{ x with dm:=(su s i).cs }) (by exact rfl) ?_) | (refine K.indexAddr ?_;refine jq rfl rfl rfl (Qt.aI rfl rfl (mF (s:=s)) mG) ?_) | refine gn ?_)
 (exact J.iV func146 rfl .nil () (by exact .refl) rfl)
section
variable {P:Program} {c:Cx} {k:List Item} {f:Fm} {b:Nat} {u:U} {s:ah} {g:Nat}
abbrev j4 (u:U) (g:Nat) (v:Value):U:={ u with wk:=fun k=>if k=g then v else u.wk k }
theorem J.Ke (g:Nat) {x:Gr} [hg:Sx.bJ g s] [hx:Sx.dB s g x] (h:J P c k f (.row (u.wk g) 3 1 (aF x.au) :: wl b u s (dQ u s) (s.gs.map fun x=>(x.status,x.token)) ((eE u s).eraseIdx (s.gs.length + g)))):J P c k f (wd b u s):=by
 have ex:=hx.h;subst ex;exact J.perm (oC (wd b u s) (s.gs.length + g + 12) (r:=.row (u.wk g) 3 1 (aF (aa s g).au)) (vU (u:=u) hg.h)) h
theorem J.Kf (g:Nat) (v:Value) (l:List Int) {x:Gr} {G W:List (List A)} [hg:Sx.bJ g s] [hx:Sx.dB s g x] (hW:W=aF l) (hG:G=(dQ u s).set g (gW { x with au:=l } (u.sg g) v)) (h:J P c k f (wd b (j4 u g v) (aK s g fun x=>{ x with au:=l }))):J P c k f (.row v 3 1 W :: wl b u s G (s.gs.map fun x=>(x.status,x.token)) ((eE u s).eraseIdx (s.gs.length + g))):=by
 have ex:=hx.h;subst ex;subst hW hG;refine J.perm ?_ h;have e1:dQ (j4 u g v) (aK s g fun x=>{ x with au:=l })=(dQ u s).set g (gW { aa s g with au:=l } (u.sg g) v):=(AO (u:=u) (u':=j4 u g v) (x:={ aa s g with au:=l }) (v:=u.sg g) (w:=v) hg.h ⟨rfl,if_pos rfl⟩ fun k hk=>⟨rfl,if_neg hk⟩).symm;have e2:(aK s g fun x=>{ x with au:=l }).gs.map (fun x=>(x.status,x.token))=s.gs.map fun x=>(x.status,x.token):=yD hg.h ⟨rfl,rfl⟩
 have e3:eE (j4 u g v) (aK s g fun x=>{ x with au:=l })=(eE u s).set (s.gs.length + g) (.row v 3 1 (aF l)):=(Pc (x:={ aa s g with au:=l }) hg.h rfl).symm
 show (wl b (j4 u g v) (aK s g fun x=>{ x with au:=l }) (dQ (j4 u g v) (aK s g fun x=>{ x with au:=l })) ((aK s g fun x=>{ x with au:=l }).gs.map fun x=>(x.status,x.token)) (eE (j4 u g v) (aK s g fun x=>{ x with au:=l }))).Perm _;rw [e1,e2,e3];have hp:=set_perm (r':=aj.row v 3 1 (aF l)) (vU (u:=u) hg.h);exact (hp.append_left (wl b u s ((dQ u s).set g (gW { aa s g with au:=l } (u.sg g) v)) (s.gs.map fun x=>(x.status,x.token)) [])).trans List.perm_middle
end
theorem SG {s:ah} {g o:Nat} {i:Int} {d:Bool} (hg:g < s.gs.length) (ho:o < s.gs.length) (bV:o≠g) (e:(su s i).g=o) :
  aK (aK (aK (aV s i { su s i with g:=(o:Int),done:=d }) o fun x=>{ x with param:=i }) g fun x=>{ x with au:=(aa s g).au ++ [(o:Int)] }) g (fun x=>{ x with hold:=-1 })=Sx.serve s g i d:=by
 haveI:Sx.bJ g s:=⟨hg⟩
 haveI:Sx.bJ o s:=⟨ho⟩
 haveI:oo g o:=⟨Ne.symm bV⟩
 have h1:∀ D,aa (aV (ai s o { aa s o with param:=i }) i D) g=aa s g:=fun D=>by
  show aa (ai s o { aa s o with param:=i }) g=aa s g;rw [mV _ _ _ _ ho,if_neg (Ne.symm bV)]
 have h2:∀ D,aa (aK (aV s i D) o fun x=>{ x with param:=i }) g=aa s g:=fun D=>Sx.dB.h
 have hs:Sx.serve s g i d=ai (aV (ai s o { aa s o with param:=i }) i { su s i with g:=(o:Int),done:=d }) g { aa s g with au:=(aa s g).au ++ [(o:Int)],hold:=-1 }:=by
  unfold Sx.serve;dsimp only;rw [e,Int.toNat_natCast,h1]
 rw [gR (wD (s:=aV s i _) hg),hs];generalize hx:(aK (aV s i { su s i with g:=(o:Int),done:=d }) o fun x=>{ x with param:=i })=X;have h3:aa X g=aa s g:=by rw [← hx];exact h2 _
 unfold aK;rw [h3,← hx];rfl
theorem Kg (b:Nat) (u:U) (s:ah) (g o:Nat) (i:Int) (d:Bool) (hg:g < s.gs.length) (ho:o < s.gs.length) (bV:o≠g) (h0:0≤i) (h1:i < s.aA.length) (e0:(su s i).g=o) (hw:(aa s g).au.length≤1000) :
  an prog 137 [.c (.v (pt b)),.c (nI g),.c (nI i),.c (bI d)] (wd b u s) (fun v:Value=>(.bp [],wd b (j4 u g v) (Sx.serve s g i d))):=by
 haveI:Sx.bJ g s:=⟨hg⟩
 haveI:Sx.bJ o s:=⟨ho⟩
 haveI:oo o g:=⟨bV⟩
 haveI:oo g o:=⟨Ne.symm bV⟩
 haveI:Sx.gQ i s:=⟨h0,h1⟩
 haveI:Sx.jJ s i { su s i with g:=(o:Int) }:=⟨by rw [← e0]⟩
 rw [← SG hg ho bV e0];refine an.intro func137 rfl rfl rfl (fun ok e=>?_)
 repeat (first | (refine K.load ?_;((refine jq rfl rfl rfl (Qt.aL rfl (oq) (by exact rfl)) ?_))) | (refine K.store ?_;first | ((refine JO.ld (Ld.bL rfl rfl (by exact rfl) oq) rfl (fun _=>?_)));refine JO.wG b i ({ su s i with g:=(o:Int),done:=d }) (by exact rfl) ?_ | ((refine JO.ld (Ld.bL rfl rfl (by exact rfl) aN) rfl (fun _=>?_)));refine JO.cH b o (fun x=>{ x with param:=i }) (by exact rfl) ?_) | (refine K.indexAddr ?_;first | refine jq rfl rfl rfl (Qt.aI rfl rfl (mF (s:=s)) mG) ?_ | refine jq rfl rfl rfl (Qt.aI rfl rfl cL cM) ?_) | refine gn ?_)
 have hl:(aF (aa s g).au).length≤1000:=by rw [c7];exact hw
 refine J.Ke g ?_;refine J.draw (by kernel_rfl) rfl ?_;refine JW.iZ [0] (some 18) ?_;refine tk 0 ?_;refine tk 1 ?_;refine tk 2 ?_;refine tk 3 ?_;refine tk 4 ?_;refine tk 5 ?_;refine tk 6 ?_;refine tk 7 ?_;refine tk 8 ?_;refine tk 9 ?_;refine JD.take 10 rfl rfl (by kernel_rfl) rfl (qb rfl) (Qt.aI rfl rfl cL cM) rfl ?_;refine tk 11 ?_;refine JD.take 12 rfl rfl (by kernel_rfl) rfl (qb rfl) (Qt.aL rfl aN rfl) rfl ?_;refine tk 13 ?_;refine jl 14 rfl rfl rfl rfl (Ld.jS (qb rfl) rfl rfl rfl rfl rfl) .none (fun _=>?_);refine jl 15 rfl rfl rfl rfl (Ld.cy (qb rfl) rfl rfl .read (by (simp;omega))) (.pW rfl) (fun _=>?_);refine jk 16 rfl rfl rfl rfl (Qt.aI rfl rfl cL cM) ?_;refine jk 17 rfl rfl rfl rfl (Qt.fieldAddr rfl rfl) ?_;refine jt 18 rfl rfl (Ld.bL rfl rfl (by exact rfl) aN) (fun _=>?_);refine bR ?_;rename_i v _;refine J.Kf g v ((aa s g).au ++ [(o:Int)]) (by simp [aF]) (by exact rfl) ?_
 repeat (first | (refine K.store ?_;((refine JO.ld (Ld.bL rfl rfl (by exact rfl) aN) rfl (fun _=>?_)));refine JO.cH b g (fun x=>{ x with hold:=-1 }) (by exact rfl) ?_) | (refine K.indexAddr ?_;refine jq rfl rfl rfl (Qt.aI rfl rfl cL cM) ?_) | refine gn ?_)
 (exact J.iV func137 rfl .nil v (by exact .refl) rfl)
end Fl
end Go.Proofs.YtdjhhbpedllnhaaGreat
