/-
  What the laws need, part A25.
  Conditions: none.
-/
import Derived.Test.YtdjhhbpedllnhaaGreatA23
import Derived.Test.YtdjhhbpedllnhaaGreatA24
set_option linter.unusedVariables false
set_option linter.unusedSimpArgs false
set_option linter.unnecessarySimpa false
set_option maxHeartbeats 2000000
namespace Go.Proofs.YtdjhhbpedllnhaaGreat
open Go.RowKit
namespace Fl
open Sx Go.Proofs.Tryz
set_option maxRecDepth 100000
section
variable {P:Program} {c:Cx} {f:Fm} {L:List an} {T:TypeId} {ps:String} {af:Array Edge} {gd:Option (Nat × Bool)} {t:Nat}
theorem Ld.W5 {F:FuncId} {args:List Operand} {tys:Array TypeId} {dB ds:List D} {ι:Type} {dd:ι→D} {r1 r2:ι→an} [i:aJ P F] (hC:av P F ds [] (fun x=>(dd x,[r1 x,r2 x]))) (ht:t < c.N) (h:iR f args=some dB) (hle:aW dB ds) :
  Ld P c ⟨some t,.call ⟨.value (.func F),args.toArray,tys⟩,T,ps,af,gd⟩ f L [] (fun x=>(t,dd x) :: f) (fun x=>r1 x :: r2 x :: L) :=
 Ld.WN hC (fun _=>rfl) ht h hle
end
def gV (x:Gr) (v u:Value):List A :=
  [.r 6 (x.ops.map eL),nI x.at_,nI x.place,nI x.status,bI x.token,nI x.call,bI x.aU,nI x.param,nI x.aI,nI x.hold,nI x.t,nI x.iJ,nI x.bE,nI x.wi,nI x.dJ,
   nI x.res.code,nI x.res.cs,nI x.res.v,bI x.res.ok,nI x.res.n,ints x.order,ints x.aF,.v v,.v u,nI x.k]
theorem W6 (x:Gr) (b1:x.ops.length≤100000) (b2:∀ o∈x.ops,o.cases.length≤1000) (b3:x.order.length≤1000) (b4:x.aF.length≤1000) (b5:x.ax.length≤1000) (b6:x.ak.length≤1000) :
  av prog 51 [.agg (eG x)] [] (fun q:Value × Value=>(.agg (gV x q.1 q.2),[.row q.2 3 1 (dO x.ak),.row q.1 3 1 (dO x.ax)])):=by
 have C1:=KH [x.ops] (by simp) (by intro ops ho;obtain rfl:=List.mem_singleton.1 ho;exact ⟨b1,b2⟩);refine av.intro func51 rfl rfl rfl (fun ok e=>?_);have l5:(dO x.ax).length=x.ax.length:=oH _;have l6:(dO x.ak).length=x.ak.length:=oH _
 repeat (first | (refine K.indexAddr ?_;refine jx rfl rfl rfl rfl (by omega) (rfl) ?_) | refine aR (C1) ?_ | (refine K.lit ?_;refine JO.ld (Ld.oW (qb rfl) rfl rfl rfl rfl rfl) rfl (fun _=>?_)) | (refine K.bi ?_;first | (refine JO.ld (Ld.iV (l2:=dO x.order) (qb rfl) rfl rfl .read (by rw [oH];omega)) rfl (fun _=>?_)) | (refine JO.ld (Ld.iV (l2:=dO x.aF) (qb rfl) rfl rfl .read (by rw [oH];omega)) rfl (fun _=>?_)) | (refine JO.ld (Ld.yC (l2:=dO x.ax) (qb rfl) rfl rfl .read (by rw [oH];omega)) rfl ?_;intro v) | (refine JO.ld (Ld.yC (l2:=dO x.ak) (qb rfl) rfl rfl .read (by rw [oH];omega)) rfl ?_;intro w)) | refine ay ?_ | intro _)
 refine J.perm (iu 2 rfl rfl (iu 2 rfl rfl (.refl _))) ?_
 (exact J.jR [_,_] rfl func51 rfl (.cons (.cell 0 rfl rfl rfl) .nil) (v,w) la rfl)
@[reducible] def wo (b:Nat) (u:U) (s:ah) (G:List (List A)) (B:List (Int × Bool)) (rv cl:List (List A)) (La:List Int) (Q:List (List Int)) (rs:List (Value × Nat × List Int)) (R:List an):List an :=
 .box b 68 (wW u s) ::
 .row u.vG 47 25 G ::
 .row u.vR 106 1 rv ::
 .row u.vC 4 1 cl ::
 .row u.vS 52 7 (s.aB.map eS) ::
 .row u.vM 54 13 (s.done.map eM) ::
 .box u.bD 130 [dW s,nI s.drawn] ::
 aO (tB u.pB B) u.TB ::
 aO (tL u.pL La) u.TL ::
 aO (tQ u.pQ s.aB.length Q) u.TQ ::
 aO (tP u.pP s.dh.toNat s.bP.toNat (ez u s)) u.TP ::
 aO (tR rs) u.TR :: R
def mA (u:U) (k:Nat):List (List A):=(List.range k).map fun i=>[.v (u.rs i)]
def kr (s:ah) (k:Nat):List (List A):=(s.au.take k).map fun c=>[bI c.closed]
def pW (u:U) (s:ah) (k:Nat):List (Value × Nat × List Int):=(List.range k).map fun i=>(u.rs i,(cn s (i + 1)).cap.toNat,(cn s (i + 1)).buf)
def sR (u:U) (s:ah) (k:Nat):List (List A):=(List.range k).map fun g=>gW (aa s g) (u.sg g) (u.wk g)
def uf (u:U) (s:ah) (k:Nat):List an:=((List.range k).map fun g=>.row (u.sg g) 3 1 (dO (aa s g).ax)) ++ ((List.range k).map fun g=>.row (u.wk g) 3 1 (dO (aa s g).ak))
abbrev uC (u:U) (k:Nat) (x:Value × Value × Value × List Nat):U:={ u with vR:=x.2.1,vC:=x.2.2.1,TR:=u.TR ++ x.2.2.2,rs:=fun i=>if i=k then x.1 else u.rs i }
theorem Ao {α:Type} {k:Nat} {h h':Nat→α} {a:α} (e1:h' k=a) (e2:∀ j,j < k→h' j=h j):(List.range k).map h ++ [a]=(List.range (k + 1)).map h':=by
 rw [List.range_succ,List.map_append,List.map_cons,List.map_nil,e1]
 congr 1
 exact List.map_congr_left fun j hj=>(e2 j (by simpa using hj)).symm
theorem W7 (u:U) (k:Nat) (x:Value × Value × Value × List Nat):mA u k ++ [[A.v x.1]]=mA (uC u k x) (k + 1) :=
 Ao (by simp) fun j hj=>by have:j≠k:=(by omega);simp [this]
theorem W8 (u:U) (s:ah) (k:Nat) (x:Value × Value × Value × List Nat):pW u s k ++ [(x.1,(cn s ((k:Int) + 1)).cap.toNat,(cn s ((k:Int) + 1)).buf)]=pW (uC u k x) s (k + 1) :=
 Ao (by simp) fun j hj=>by have:j≠k:=(by omega);simp [this]
theorem W9 {s:ah} {k:Nat} (hk:k < s.au.length):kr s k ++ [[bI (cn s ((k:Int) + 1)).closed]]=kr s (k + 1):=by
 unfold kr;rw [List.take_add_one,lH hk,List.map_append];rfl
theorem Xa (b:Nat) (u:U) (s:ah) (k:Nat) (G:List (List A)) (B:List (Int × Bool)) (R:List an) (hk:k < s.au.length) (Q:Qs s) (hc:0≤(cn s ((k:Int) + 1)).cap∧(cn s ((k:Int) + 1)).cap≤64∧(((cn s ((k:Int) + 1)).buf.length:Nat):Int)≤(cn s ((k:Int) + 1)).cap) (hl:(cn s ((k:Int) + 1)).lock=-1∨0≤(cn s ((k:Int) + 1)).lock) (hr:(cn s ((k:Int) + 1)).recv.length≤1000) (ht:(cn s ((k:Int) + 1)).send.length≤1000) :
  av prog 52 [.c (.v (pt b)),.c (nI ((k:Int) + 1)),.agg (eC (cn s ((k:Int) + 1)))] (wo b u s G B (mA u k) (kr s k) (lK s k) (qK s k 0 0) (pW u s k) R)
   (fun x:Value × Value × Value × List Nat=>(.aZ [],wo b (uC u k x) s G B (mA (uC u k x) (k + 1)) (kr s (k + 1)) (lK s (k + 1)) (qK s (k + 1) 0 0) (pW (uC u k x) s (k + 1)) R)):=by
 have c8:=Q.c8;have CR:=W0 _ _ hc;have CL:=Ku u.pL (lK s k) u.TL ((k:Int) + 1 - 1) (cn s ((k:Int) + 1)).lock;rw [WB hk hl] at CL;have w1:IntKind.i64.wrap ((k:Int) + 1 - 1)=(k:Int) + 1 - 1:=eK (by omega) (by omega);have l1:(mA u k).length≤8:=by simp [mA];omega
 have l2:(kr s k).length≤8:=by simp [kr];omega
 refine av.intro func52 rfl rfl rfl (fun ok e=>?_)
 repeat (first | (refine K.store ?_;refine JO.ld (Ld.di rfl rfl (by exact rfl)) rfl (fun _=>?_)) | (refine K.call ?_;refine JO.ld (Ld.wV CR (qb rfl) rfl (.cons .refl (.cons .refl .nil))) rfl ?_;intro x) | (refine K.lit ?_;refine JO.ld (Ld.oW (qb rfl) rfl rfl rfl rfl rfl) rfl (fun _=>?_)) | (refine K.bi ?_;refine JO.ld (Ld.cB (qb rfl) rfl rfl .read (by (simp;omega))) rfl (fun _=>?_)) | refine ay ?_ | intro _)
 rename_i b5 _ vR _;refine J.draw (by kernel_rfl) rfl ?_;refine JW.iU [5] (some 11) ?_;refine tk 0 ?_;refine tk 1 ?_;refine tk 2 ?_;refine tk 3 ?_;refine tk 4 ?_;refine tk 5 ?_;refine tk 6 ?_;refine jl 7 rfl rfl rfl rfl (Ld.oW (qb rfl) rfl rfl rfl rfl rfl) .none (fun _=>?_);refine jl 8 rfl rfl rfl rfl (Ld.cB (qb rfl) rfl rfl .read (by (simp;omega))) (.uM rfl) (fun _=>?_);refine jk 9 rfl rfl rfl rfl (Qt.nilCheck rfl rfl) ?_;refine jk 10 rfl rfl rfl rfl (Qt.fieldAddr rfl rfl) ?_;refine jt 11 rfl rfl (Ld.di rfl rfl (by exact rfl)) (fun _=>?_);refine cu ?_
 repeat ((refine J.seq ?_))
 refine J.draw (by kernel_rfl) rfl ?_;refine JW.iU [10] none ?_;refine tk 0 ?_;refine tk 1 ?_;refine tk 2 ?_;refine tk 3 ?_;refine tk 4 ?_;refine JD.take 5 rfl rfl (by kernel_rfl) rfl (qb rfl) (Qt.cI rfl rfl rfl w1) rfl ?_;refine tk 6 ?_;refine tk 7 ?_;refine jl 8 rfl rfl rfl rfl (Ld.eN CL (qb rfl) rfl (.cons .refl (.cons .refl (.cons .refl .nil)))) (.iT rfl) (fun _=>?_);refine bX ?_;rename_i vC _ _;have eR:mA u k ++ [[A.v x.1]]=mA (uC u k (x.1,vR,vC,x.2)) (k + 1):=W7 u k (x.1,vR,vC,x.2);have Xb:kr s k ++ [[bI (cn s ((k:Int) + 1)).closed]]=kr s (k + 1):=W9 hk
 repeat (refine gn ?_)
 refine J.loop (ι:={ j:Nat // j≤(cn s ((k:Int) + 1)).recv.length }) (fun q=>[(53,.c (nI q.1)),(52,.c (nI (cn s ((k:Int) + 1)).recv.length)),(51,.c (ints (cn s ((k:Int) + 1)).recv)),(5,.c (.v (pt b5))),(1,.c (nI ((k:Int) + 1))),(0,.c (.v (pt b)))]) (fun q=>.row vC 4 1 (kr s (k + 1)) :: .row vR 106 1 (mA (uC u k (x.1,vR,vC,x.2)) (k + 1)) :: aO (tR [(x.1,(cn s ((k:Int) + 1)).cap.toNat,(cn s ((k:Int) + 1)).buf)]) x.2 :: .box b5 59 (eC (cn s ((k:Int) + 1))) :: .box b 68 (wW (uC u k (x.1,vR,vC,x.2)) s) :: .row u.vG 47 25 G :: .row u.vS 52 7 (s.aB.map eS) :: .row u.vM 54 13 (s.done.map eM) :: .box u.bD 130 [dW s,nI s.drawn] :: aO (tB u.pB B) u.TB :: aO (tL u.pL (lK s (k + 1))) u.TL :: aO (tQ u.pQ s.aB.length (qK s k q.1 0)) u.TQ :: aO (tP u.pP s.dh.toNat s.bP.toNat (ez u s)) u.TP :: aO (tR (pW u s k)) u.TR :: R) (fun q=>(cn s ((k:Int) + 1)).recv.length - q.1) ⟨0,Nat.zero_le _⟩ (fun X h=>?_) (fun q ih=>?_)
 ·refine J.fQ ?_ (h.bO ⟨rfl,rfl,rfl,rfl,rfl,rfl,trivial⟩);rw [← eR,← Xb];rfl
 obtain ⟨j,hj⟩:=q;simp only at hj ih ⊢
 by_cases eP:j < (cn s ((k:Int) + 1)).recv.length
 ·have t1:(decide ((j:Int) < ((cn s ((k:Int) + 1)).recv.length:Int)))=true:=by simpa using eP
  obtain ⟨y,hy⟩:∃ y,(cn s ((k:Int) + 1)).recv[j]?=some y:=⟨_,List.getElem?_eq_getElem eP⟩
  have CP:=Fq u.pQ s.aB.length (qK s k j 0) u.TQ (2 * ((k:Int) + 1) - 2) y;rw [WG Q hk hy] at CP
  repeat (refine gn ?_)
  refine J.draw (by kernel_rfl) rfl ?_;refine JW.iU [11] none ?_;refine tk 0 ?_;refine tk 1 ?_;refine tk 2 ?_;refine tk 3 ?_;refine tk 4 ?_;refine tk 6 ?_;refine jl 5 rfl rfl rfl rfl (Ld.pure (KJ ((k:Int) + 1) (by omega) (by omega)) (qb rfl) rfl lq) .none (fun _=>?_);refine jl 7 rfl rfl rfl rfl (Ld.eN CP (qb rfl) rfl (.cons .refl (.cons .refl (.cons .refl .nil)))) (.iT rfl) (fun _=>?_);refine bX ?_
  repeat (refine gn ?_)
  exact (ih ⟨j + 1,by omega⟩ (by simp only;omega)).bO ⟨rfl,rfl,rfl,rfl,rfl,rfl,trivial⟩
 ·have t1:(decide ((j:Int) < ((cn s ((k:Int) + 1)).recv.length:Int)))=false:=by simpa using eP
  obtain rfl:j=(cn s ((k:Int) + 1)).recv.length:=by omega
  repeat (refine gn ?_)
  refine J.loop (ι:={ j:Nat // j≤(cn s ((k:Int) + 1)).send.length }) (fun q=>[(69,.c (nI q.1)),(68,.c (nI (cn s ((k:Int) + 1)).send.length)),(67,.c (ints (cn s ((k:Int) + 1)).send)),(5,.c (.v (pt b5))),(1,.c (nI ((k:Int) + 1))),(0,.c (.v (pt b)))]) (fun q=>.row vC 4 1 (kr s (k + 1)) :: .row vR 106 1 (mA (uC u k (x.1,vR,vC,x.2)) (k + 1)) :: aO (tR [(x.1,(cn s ((k:Int) + 1)).cap.toNat,(cn s ((k:Int) + 1)).buf)]) x.2 :: .box b5 59 (eC (cn s ((k:Int) + 1))) :: .box b 68 (wW (uC u k (x.1,vR,vC,x.2)) s) :: .row u.vG 47 25 G :: .row u.vS 52 7 (s.aB.map eS) :: .row u.vM 54 13 (s.done.map eM) :: .box u.bD 130 [dW s,nI s.drawn] :: aO (tB u.pB B) u.TB :: aO (tL u.pL (lK s (k + 1))) u.TL :: aO (tQ u.pQ s.aB.length (qK s k (cn s ((k:Int) + 1)).recv.length q.1)) u.TQ :: aO (tP u.pP s.dh.toNat s.bP.toNat (ez u s)) u.TP :: aO (tR (pW u s k)) u.TR :: R) (fun q=>(cn s ((k:Int) + 1)).send.length - q.1) ⟨0,Nat.zero_le _⟩ (fun X h=>h.bO ⟨rfl,rfl,rfl,rfl,rfl,rfl,trivial⟩) (fun q kj=>?_);obtain ⟨j,hj⟩:=q;simp only at hj kj ⊢
  by_cases eP:j < (cn s ((k:Int) + 1)).send.length
  ·have t1:(decide ((j:Int) < ((cn s ((k:Int) + 1)).send.length:Int)))=true:=by simpa using eP
   obtain ⟨y,hy⟩:∃ y,(cn s ((k:Int) + 1)).send[j]?=some y:=⟨_,List.getElem?_eq_getElem eP⟩
   have CP:=Fq u.pQ s.aB.length (qK s k (cn s ((k:Int) + 1)).recv.length j) u.TQ (2 * ((k:Int) + 1) - 1) y;rw [WH Q hk hy] at CP
   repeat (refine gn ?_)
   refine J.draw (by kernel_rfl) rfl ?_;refine JW.iU [11] none ?_;refine tk 0 ?_;refine tk 1 ?_;refine tk 2 ?_;refine tk 3 ?_;refine tk 4 ?_;refine tk 6 ?_;refine jl 5 rfl rfl rfl rfl (Ld.pure (KK ((k:Int) + 1) (by omega) (by omega)) (qb rfl) rfl lq) .none (fun _=>?_);refine jl 7 rfl rfl rfl rfl (Ld.eN CP (qb rfl) rfl (.cons .refl (.cons .refl (.cons .refl .nil)))) (.iT rfl) (fun _=>?_);refine bX ?_
   repeat (refine gn ?_)
   exact (kj ⟨j + 1,by omega⟩ (by simp only;omega)).bO ⟨rfl,rfl,rfl,rfl,rfl,rfl,trivial⟩
  ·have t1:(decide ((j:Int) < ((cn s ((k:Int) + 1)).send.length:Int)))=false:=by simpa using eP
   obtain rfl:j=(cn s ((k:Int) + 1)).send.length:=by omega
   rw [WJ]
   repeat (refine gn ?_)
   refine J.dF 3 ?_;refine J.perm (iu 12 rfl rfl (iu 2 rfl rfl (.refl _))) ?_;refine J.rings ?_;have Xc:=W8 u s k (x.1,vR,vC,x.2);rw [Xc];refine J.perm (L2:=wo b (uC u k (x.1,vR,vC,x.2)) s G B (mA (uC u k (x.1,vR,vC,x.2)) (k + 1)) (kr s (k + 1)) (lK s (k + 1)) (qK s (k + 1) 0 0) (pW (uC u k (x.1,vR,vC,x.2)) s (k + 1)) R) ?_ ?_
   ·repeat (first | exact List.Perm.refl _ | refine iu 0 rfl rfl ?_ | refine iu 1 rfl rfl ?_ | refine iu 2 rfl rfl ?_ | refine iu 3 rfl rfl ?_)
   (exact J.ij func52 rfl .nil (x.1,vR,vC,x.2) (by exact .refl) rfl)
end Fl
open Go.RowKit
namespace Fl
open Sx Go.Proofs.Tryz
set_option maxRecDepth 100000
theorem ni {s:ah} {g:Nat} (a b:Gr):ai (ai s g a) g b=ai s g b:=by
 unfold ai;simp only [List.set_set]
theorem fJ {s:ah} {g:Nat} {f f':Gr→Gr} (hg:g < s.gs.length):aS (aS s g f) g f'=aS s g (fun x=>f' (f x)):=by
 unfold aS;rw [ni,qz _ _ _ _ hg,if_pos rfl]
section
variable {P:Program} {c:Cx} {k:List Item} {f:Fm} {b:Nat} {u:U} {s:ah} {g:Nat}
abbrev jh (u:U) (g:Nat) (v:Value):U:={ u with wk:=fun k=>if k=g then v else u.wk k }
theorem J.Nc (g:Nat) {x:Gr} [hg:Sx.bt g s] [hx:Sx.dD s g x] (h:J P c k f (.row (u.wk g) 3 1 (dO x.ak) :: wl b u s (fI u s) (s.gs.map fun x=>(x.status,x.token)) ((iE u s).eraseIdx (s.gs.length + g)))):J P c k f (wd b u s):=by
 have ex:=hx.h;subst ex;exact J.perm (sZ (wd b u s) (s.gs.length + g + 12) (r:=.row (u.wk g) 3 1 (dO (aa s g).ak)) (zl (u:=u) hg.h)) h
theorem J.Nd (g:Nat) (v:Value) (l:List Int) {x:Gr} {G W:List (List A)} [hg:Sx.bt g s] [hx:Sx.dD s g x] (hW:W=dO l) (hG:G=(fI u s).set g (gW { x with ak:=l } (u.sg g) v)) (h:J P c k f (wd b (jh u g v) (aS s g fun x=>{ x with ak:=l }))):J P c k f (.row v 3 1 W :: wl b u s G (s.gs.map fun x=>(x.status,x.token)) ((iE u s).eraseIdx (s.gs.length + g))):=by
 have ex:=hx.h;subst ex;subst hW hG;refine J.perm ?_ h;have e1:fI (jh u g v) (aS s g fun x=>{ x with ak:=l })=(fI u s).set g (gW { aa s g with ak:=l } (u.sg g) v):=(Ky (u:=u) (u':=jh u g v) (x:={ aa s g with ak:=l }) (v:=u.sg g) (w:=v) hg.h ⟨rfl,if_pos rfl⟩ fun k hk=>⟨rfl,if_neg hk⟩).symm;have e2:(aS s g fun x=>{ x with ak:=l }).gs.map (fun x=>(x.status,x.token))=s.gs.map fun x=>(x.status,x.token):=KC hg.h ⟨rfl,rfl⟩
 have e3:iE (jh u g v) (aS s g fun x=>{ x with ak:=l })=(iE u s).set (s.gs.length + g) (.row v 3 1 (dO l)):=(TJ (x:={ aa s g with ak:=l }) hg.h rfl).symm
 show (wl b (jh u g v) (aS s g fun x=>{ x with ak:=l }) (fI (jh u g v) (aS s g fun x=>{ x with ak:=l })) ((aS s g fun x=>{ x with ak:=l }).gs.map fun x=>(x.status,x.token)) (iE (jh u g v) (aS s g fun x=>{ x with ak:=l }))).Perm _;rw [e1,e2,e3];have hp:=set_perm (r':=an.row v 3 1 (dO l)) (zl (u:=u) hg.h);exact (hp.append_left (wl b u s ((fI u s).set g (gW { aa s g with ak:=l } (u.sg g) v)) (s.gs.map fun x=>(x.status,x.token)) [])).trans List.perm_middle
end
theorem Xd {s:ah} {g o:Nat} {i:Int} {d:Bool} (hg:g < s.gs.length) (ho:o < s.gs.length) (bG:o≠g) (e:(su s i).g=o) :
  aS (aS (aS (aN s i { su s i with g:=(o:Int),done:=d }) o fun x=>{ x with param:=i }) g fun x=>{ x with ak:=(aa s g).ak ++ [(o:Int)] }) g (fun x=>{ x with hold:=-1 })=Sx.serve s g i d:=by
 haveI:Sx.bt g s:=⟨hg⟩
 haveI:Sx.bt o s:=⟨ho⟩
 haveI:lQ g o:=⟨Ne.symm bG⟩
 have h1:∀ D,aa (aN (ai s o { aa s o with param:=i }) i D) g=aa s g:=fun D=>by
  show aa (ai s o { aa s o with param:=i }) g=aa s g;rw [qz _ _ _ _ ho,if_neg (Ne.symm bG)]
 have h2:∀ D,aa (aS (aN s i D) o fun x=>{ x with param:=i }) g=aa s g:=fun D=>Sx.dD.h
 have hs:Sx.serve s g i d=ai (aN (ai s o { aa s o with param:=i }) i { su s i with g:=(o:Int),done:=d }) g { aa s g with ak:=(aa s g).ak ++ [(o:Int)],hold:=-1 }:=by
  unfold Sx.serve;dsimp only;rw [e,Int.toNat_natCast,h1]
 rw [fJ (xA (s:=aN s i _) hg),hs];generalize hx:(aS (aN s i { su s i with g:=(o:Int),done:=d }) o fun x=>{ x with param:=i })=X;have h3:aa X g=aa s g:=by rw [← hx];exact h2 _
 unfold aS;rw [h3,← hx];rfl
theorem Nf (b:Nat) (u:U) (s:ah) (g o:Nat) (i:Int) (d:Bool) (hg:g < s.gs.length) (ho:o < s.gs.length) (bG:o≠g) (h0:0≤i) (h1:i < s.aB.length) (e0:(su s i).g=o) (hw:(aa s g).ak.length≤1000) :
  av prog 137 [.c (.v (pt b)),.c (nI g),.c (nI i),.c (bI d)] (wd b u s) (fun v:Value=>(.aZ [],wd b (jh u g v) (Sx.serve s g i d))):=by
 haveI:Sx.bt g s:=⟨hg⟩
 haveI:Sx.bt o s:=⟨ho⟩
 haveI:lQ o g:=⟨bG⟩
 haveI:lQ g o:=⟨Ne.symm bG⟩
 haveI:Sx.gI i s:=⟨h0,h1⟩
 haveI:Sx.jX s i { su s i with g:=(o:Int) }:=⟨by rw [← e0]⟩
 rw [← Xd hg ho bG e0];refine av.intro func137 rfl rfl rfl (fun ok e=>?_)
 repeat (first | (refine K.load ?_;((refine jq rfl rfl rfl (Qt.bM rfl (jY) (by exact rfl)) ?_))) | (refine K.store ?_;first | ((refine JO.ld (Ld.bQ rfl rfl (by exact rfl) jY) rfl (fun _=>?_)));refine JO.Cz b i ({ su s i with g:=(o:Int),done:=d }) (by exact rfl) ?_ | ((refine JO.ld (Ld.bQ rfl rfl (by exact rfl) aP) rfl (fun _=>?_)));refine JO.bS b o (fun x=>{ x with param:=i }) (by exact rfl) ?_) | (refine K.indexAddr ?_;first | refine jq rfl rfl rfl (Qt.aV rfl rfl (jH (s:=s)) jI) ?_ | refine jq rfl rfl rfl (Qt.aV rfl rfl cW cX) ?_) | refine gn ?_)
 have hl:(dO (aa s g).ak).length≤1000:=by rw [oH];exact hw
 refine J.Nc g ?_;refine J.draw (by kernel_rfl) rfl ?_;refine JW.iU [0] (some 18) ?_;refine tk 0 ?_;refine tk 1 ?_;refine tk 2 ?_;refine tk 3 ?_;refine tk 4 ?_;refine tk 5 ?_;refine tk 6 ?_;refine tk 7 ?_;refine tk 8 ?_;refine tk 9 ?_;refine JD.take 10 rfl rfl (by kernel_rfl) rfl (qb rfl) (Qt.aV rfl rfl cW cX) rfl ?_;refine tk 11 ?_;refine JD.take 12 rfl rfl (by kernel_rfl) rfl (qb rfl) (Qt.bM rfl aP rfl) rfl ?_;refine tk 13 ?_;refine jl 14 rfl rfl rfl rfl (Ld.oW (qb rfl) rfl rfl rfl rfl rfl) .none (fun _=>?_);refine jl 15 rfl rfl rfl rfl (Ld.cB (qb rfl) rfl rfl .read (by (simp;omega))) (.uM rfl) (fun _=>?_);refine jk 16 rfl rfl rfl rfl (Qt.aV rfl rfl cW cX) ?_;refine jk 17 rfl rfl rfl rfl (Qt.fieldAddr rfl rfl) ?_;refine jt 18 rfl rfl (Ld.bQ rfl rfl (by exact rfl) aP) (fun _=>?_);refine cu ?_;rename_i v _;refine J.Nd g v ((aa s g).ak ++ [(o:Int)]) (by simp [dO]) (by exact rfl) ?_
 repeat (first | (refine K.store ?_;((refine JO.ld (Ld.bQ rfl rfl (by exact rfl) aP) rfl (fun _=>?_)));refine JO.bS b g (fun x=>{ x with hold:=-1 }) (by exact rfl) ?_) | (refine K.indexAddr ?_;refine jq rfl rfl rfl (Qt.aV rfl rfl cW cX) ?_) | refine gn ?_)
 (exact J.ij func137 rfl .nil v (by exact .refl) rfl)
end Fl
end Go.Proofs.YtdjhhbpedllnhaaGreat
