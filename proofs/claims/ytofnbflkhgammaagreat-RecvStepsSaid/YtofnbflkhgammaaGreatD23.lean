/-
  What the laws need, part D23.
  Conditions: none.
-/
import Derived.Test.YtofnbflkhgammaaGreatD21
import Derived.Test.YtofnbflkhgammaaGreatD22
set_option linter.unusedVariables false
set_option linter.unusedSimpArgs false
set_option linter.unnecessarySimpa false
set_option maxHeartbeats 2000000
namespace Go.Proofs.YtofnbflkhgammaaGreat
open Go.RowKit
namespace Fl
open Sx Go.Proofs.Tryz
set_option maxRecDepth 100000
section
variable {P:Program} {c:Cx} {f:Fm} {L:List ak} {T:TypeId} {ps:String} {af:Array Edge} {gd:Option (Nat × Bool)} {t:Nat}
theorem Ld.W8 {F:FuncId} {args:List Operand} {tys:Array TypeId} {dm ds:List D} {ι:Type} {dd:ι→D} {r1 r2:ι→ak} [i:aJ P F] (hC:ax P F ds [] (fun x=>(dd x,[r1 x,r2 x]))) (ht:t < c.N) (h:iL f args=some dm) (hle:aK dm ds) :
  Ld P c ⟨some t,.call ⟨.value (.func F),args.toArray,tys⟩,T,ps,af,gd⟩ f L [] (fun x=>(t,dd x) :: f) (fun x=>r1 x :: r2 x :: L) :=
 Ld.WQ hC (fun _=>rfl) ht h hle
end
def gV (x:Gr) (v u:Value):List A :=
  [.r 6 (x.ops.map dH),nI x.at_,nI x.place,nI x.status,bI x.token,nI x.call,bI x.bz,nI x.param,nI x.aH,nI x.hold,nI x.t,nI x.ic,nI x.bQ,nI x.wi,nI x.dL,
   nI x.res.code,nI x.res.cs,nI x.res.v,bI x.res.ok,nI x.res.n,ints x.order,ints x.aF,.v v,.v u,nI x.k]
theorem W9 (x:Gr) (b1:x.ops.length≤100000) (b2:∀ o∈x.ops,o.cases.length≤1000) (b3:x.order.length≤1000) (b4:x.aF.length≤1000) (b5:x.ay.length≤1000) (b6:x.an.length≤1000) :
  ax prog 58 [.agg (eG x)] [] (fun q:Value × Value=>(.agg (gV x q.1 q.2),[.row q.2 3 1 (dI x.an),.row q.1 3 1 (dI x.ay)])):=by
 have C1:=Ly [x.ops] (by simp) (by intro ops ho;obtain rfl:=List.mem_singleton.1 ho;exact ⟨b1,b2⟩);refine ax.intro func58 rfl rfl rfl (fun ok e=>?_);have l5:(dI x.ay).length=x.ay.length:=oC _;have l6:(dI x.an).length=x.an.length:=oC _
 repeat (first | (refine K.indexAddr ?_;refine jx rfl rfl rfl rfl (by omega) (rfl) ?_) | refine aO (C1) ?_ | (refine K.lit ?_;refine JO.ld (Ld.oZ (qb rfl) rfl rfl rfl rfl rfl) rfl (fun _=>?_)) | (refine K.bi ?_;first | (refine JO.ld (Ld.iT (l2:=dI x.order) (qb rfl) rfl rfl .read (by rw [oC];omega)) rfl (fun _=>?_)) | (refine JO.ld (Ld.iT (l2:=dI x.aF) (qb rfl) rfl rfl .read (by rw [oC];omega)) rfl (fun _=>?_)) | (refine JO.ld (Ld.yI (l2:=dI x.ay) (qb rfl) rfl rfl .read (by rw [oC];omega)) rfl ?_;intro v) | (refine JO.ld (Ld.yI (l2:=dI x.an) (qb rfl) rfl rfl .read (by rw [oC];omega)) rfl ?_;intro w)) | refine av ?_ | intro _)
 refine J.perm (gS 2 rfl rfl (gS 2 rfl rfl (.refl _))) ?_
 (exact J.iN [_,_] rfl func58 rfl (.cons (.cell 0 rfl rfl rfl) .nil) (v,w) la rfl)
@[reducible] def wo (b:Nat) (u:U) (s:ah) (G:List (List A)) (B:List (Int × Bool)) (rv cl:List (List A)) (La:List Int) (Q:List (List Int)) (rs:List (Value × Nat × List Int)) (R:List ak):List ak :=
 .box b 81 (wW u s) ::
 .row u.vG 47 25 G ::
 .row u.vR 110 1 rv ::
 .row u.vC 4 1 cl ::
 .row u.vS 52 7 (s.aC.map eS) ::
 .row u.vM 54 13 (s.done.map eM) ::
 .box u.bD 145 [dW s,nI s.drawn] ::
 aP (tB u.pB B) u.TB ::
 aP (tL u.pL La) u.TL ::
 aP (tQ u.pQ s.aC.length Q) u.TQ ::
 aP (tP u.pP s.cV.toNat s.bN.toNat (ee u s)) u.TP ::
 aP (tR rs) u.TR :: R
def l9 (u:U) (k:Nat):List (List A):=(List.range k).map fun i=>[.v (u.rs i)]
def j7 (s:ah) (k:Nat):List (List A):=(s.au.take k).map fun c=>[bI c.closed]
def p9 (u:U) (s:ah) (k:Nat):List (Value × Nat × List Int):=(List.range k).map fun i=>(u.rs i,(cn s (i + 1)).cap.toNat,(cn s (i + 1)).buf)
def sQ (u:U) (s:ah) (k:Nat):List (List A):=(List.range k).map fun g=>gW (aa s g) (u.sg g) (u.wk g)
def uf (u:U) (s:ah) (k:Nat):List ak:=((List.range k).map fun g=>.row (u.sg g) 3 1 (dI (aa s g).ay)) ++ ((List.range k).map fun g=>.row (u.wk g) 3 1 (dI (aa s g).an))
abbrev uC (u:U) (k:Nat) (x:Value × Value × Value × List Nat):U:={ u with vR:=x.2.1,vC:=x.2.2.1,TR:=u.TR ++ x.2.2.2,rs:=fun i=>if i=k then x.1 else u.rs i }
theorem Aq {α:Type} {k:Nat} {h h':Nat→α} {a:α} (e1:h' k=a) (e2:∀ j,j < k→h' j=h j):(List.range k).map h ++ [a]=(List.range (k + 1)).map h':=by
 rw [List.range_succ,List.map_append,List.map_cons,List.map_nil,e1]
 congr 1
 exact List.map_congr_left fun j hj=>(e2 j (by simpa using hj)).symm
theorem Xa (u:U) (k:Nat) (x:Value × Value × Value × List Nat):l9 u k ++ [[A.v x.1]]=l9 (uC u k x) (k + 1) :=
 Aq (by simp) fun j hj=>by have:j≠k:=(by omega);simp [this]
theorem Xb (u:U) (s:ah) (k:Nat) (x:Value × Value × Value × List Nat):p9 u s k ++ [(x.1,(cn s ((k:Int) + 1)).cap.toNat,(cn s ((k:Int) + 1)).buf)]=p9 (uC u k x) s (k + 1) :=
 Aq (by simp) fun j hj=>by have:j≠k:=(by omega);simp [this]
theorem Xc {s:ah} {k:Nat} (hk:k < s.au.length):j7 s k ++ [[bI (cn s ((k:Int) + 1)).closed]]=j7 s (k + 1):=by
 unfold j7;rw [List.take_add_one,oD hk,List.map_append];rfl
theorem Xd (b:Nat) (u:U) (s:ah) (k:Nat) (G:List (List A)) (B:List (Int × Bool)) (R:List ak) (hk:k < s.au.length) (Q:Qs s) (hc:0≤(cn s ((k:Int) + 1)).cap∧(cn s ((k:Int) + 1)).cap≤64∧(((cn s ((k:Int) + 1)).buf.length:Nat):Int)≤(cn s ((k:Int) + 1)).cap) (hl:(cn s ((k:Int) + 1)).lock=-1∨0≤(cn s ((k:Int) + 1)).lock) (hr:(cn s ((k:Int) + 1)).recv.length≤1000) (ht:(cn s ((k:Int) + 1)).send.length≤1000) :
  ax prog 59 [.c (.v (pt b)),.c (nI ((k:Int) + 1)),.agg (eC (cn s ((k:Int) + 1)))] (wo b u s G B (l9 u k) (j7 s k) (lK s k) (qK s k 0 0) (p9 u s k) R)
   (fun x:Value × Value × Value × List Nat=>(.aZ [],wo b (uC u k x) s G B (l9 (uC u k x) (k + 1)) (j7 s (k + 1)) (lK s (k + 1)) (qK s (k + 1) 0 0) (p9 (uC u k x) s (k + 1)) R)):=by
 have c8:=Q.c8;have CR:=W3 _ _ hc;have CL:=Lg u.pL (lK s k) u.TL ((k:Int) + 1 - 1) (cn s ((k:Int) + 1)).lock;rw [WE hk hl] at CL;have w1:IntKind.i64.wrap ((k:Int) + 1 - 1)=(k:Int) + 1 - 1:=eL (by omega) (by omega);have l1:(l9 u k).length≤8:=by simp [l9];omega
 have l2:(j7 s k).length≤8:=by simp [j7];omega
 refine ax.intro func59 rfl rfl rfl (fun ok e=>?_)
 repeat (first | (refine K.store ?_;refine JO.ld (Ld.cZ rfl rfl (by exact rfl)) rfl (fun _=>?_)) | (refine K.call ?_;refine JO.ld (Ld.wY CR (qb rfl) rfl (.cons .refl (.cons .refl .nil))) rfl ?_;intro x) | (refine K.lit ?_;refine JO.ld (Ld.oZ (qb rfl) rfl rfl rfl rfl rfl) rfl (fun _=>?_)) | (refine K.bi ?_;refine JO.ld (Ld.cA (qb rfl) rfl rfl .read (by (simp;omega))) rfl (fun _=>?_)) | refine av ?_ | intro _)
 rename_i b5 _ vR _;refine J.draw (by kernel_rfl) rfl ?_;refine JW.iS [5] (some 11) ?_;refine tk 0 ?_;refine tk 1 ?_;refine tk 2 ?_;refine tk 3 ?_;refine tk 4 ?_;refine tk 5 ?_;refine tk 6 ?_;refine jl 7 rfl rfl rfl rfl (Ld.oZ (qb rfl) rfl rfl rfl rfl rfl) .none (fun _=>?_);refine jl 8 rfl rfl rfl rfl (Ld.cA (qb rfl) rfl rfl .read (by (simp;omega))) (.uI rfl) (fun _=>?_);refine jk 9 rfl rfl rfl rfl (Qt.nilCheck rfl rfl) ?_;refine jk 10 rfl rfl rfl rfl (Qt.fieldAddr rfl rfl) ?_;refine jt 11 rfl rfl (Ld.cZ rfl rfl (by exact rfl)) (fun _=>?_);refine bS ?_
 repeat ((refine J.seq ?_))
 refine J.draw (by kernel_rfl) rfl ?_;refine JW.iS [10] none ?_;refine tk 0 ?_;refine tk 1 ?_;refine tk 2 ?_;refine tk 3 ?_;refine tk 4 ?_;refine JD.take 5 rfl rfl (by kernel_rfl) rfl (qb rfl) (Qt.dj rfl rfl rfl w1) rfl ?_;refine tk 6 ?_;refine tk 7 ?_;refine jl 8 rfl rfl rfl rfl (Ld.fQ CL (qb rfl) rfl (.cons .refl (.cons .refl (.cons .refl .nil)))) (.iO rfl) (fun _=>?_);refine bt ?_;rename_i vC _ _;have eR:l9 u k ++ [[A.v x.1]]=l9 (uC u k (x.1,vR,vC,x.2)) (k + 1):=Xa u k (x.1,vR,vC,x.2);have Xe:j7 s k ++ [[bI (cn s ((k:Int) + 1)).closed]]=j7 s (k + 1):=Xc hk
 repeat (refine gn ?_)
 refine J.loop (ι:={ j:Nat // j≤(cn s ((k:Int) + 1)).recv.length }) (fun q=>[(53,.c (nI q.1)),(52,.c (nI (cn s ((k:Int) + 1)).recv.length)),(51,.c (ints (cn s ((k:Int) + 1)).recv)),(5,.c (.v (pt b5))),(1,.c (nI ((k:Int) + 1))),(0,.c (.v (pt b)))]) (fun q=>.row vC 4 1 (j7 s (k + 1)) :: .row vR 110 1 (l9 (uC u k (x.1,vR,vC,x.2)) (k + 1)) :: aP (tR [(x.1,(cn s ((k:Int) + 1)).cap.toNat,(cn s ((k:Int) + 1)).buf)]) x.2 :: .box b5 72 (eC (cn s ((k:Int) + 1))) :: .box b 81 (wW (uC u k (x.1,vR,vC,x.2)) s) :: .row u.vG 47 25 G :: .row u.vS 52 7 (s.aC.map eS) :: .row u.vM 54 13 (s.done.map eM) :: .box u.bD 145 [dW s,nI s.drawn] :: aP (tB u.pB B) u.TB :: aP (tL u.pL (lK s (k + 1))) u.TL :: aP (tQ u.pQ s.aC.length (qK s k q.1 0)) u.TQ :: aP (tP u.pP s.cV.toNat s.bN.toNat (ee u s)) u.TP :: aP (tR (p9 u s k)) u.TR :: R) (fun q=>(cn s ((k:Int) + 1)).recv.length - q.1) ⟨0,Nat.zero_le _⟩ (fun X h=>?_) (fun q ih=>?_)
 ·refine J.fK ?_ (h.aW ⟨rfl,rfl,rfl,rfl,rfl,rfl,trivial⟩);rw [← eR,← Xe];rfl
 obtain ⟨j,hj⟩:=q;simp only at hj ih ⊢
 by_cases fy:j < (cn s ((k:Int) + 1)).recv.length
 ·have t1:(decide ((j:Int) < ((cn s ((k:Int) + 1)).recv.length:Int)))=true:=by simpa using fy
  obtain ⟨y,hy⟩:∃ y,(cn s ((k:Int) + 1)).recv[j]?=some y:=⟨_,List.getElem?_eq_getElem fy⟩
  have CP:=Fj u.pQ s.aC.length (qK s k j 0) u.TQ (2 * ((k:Int) + 1) - 2) y;rw [WI Q hk hy] at CP
  repeat (refine gn ?_)
  refine J.draw (by kernel_rfl) rfl ?_;refine JW.iS [11] none ?_;refine tk 0 ?_;refine tk 1 ?_;refine tk 2 ?_;refine tk 3 ?_;refine tk 4 ?_;refine tk 6 ?_;refine jl 5 rfl rfl rfl rfl (Ld.pure (LA ((k:Int) + 1) (by omega) (by omega)) (qb rfl) rfl lq) .none (fun _=>?_);refine jl 7 rfl rfl rfl rfl (Ld.fQ CP (qb rfl) rfl (.cons .refl (.cons .refl (.cons .refl .nil)))) (.iO rfl) (fun _=>?_);refine bt ?_
  repeat (refine gn ?_)
  exact (ih ⟨j + 1,by omega⟩ (by simp only;omega)).aW ⟨rfl,rfl,rfl,rfl,rfl,rfl,trivial⟩
 ·have t1:(decide ((j:Int) < ((cn s ((k:Int) + 1)).recv.length:Int)))=false:=by simpa using fy
  obtain rfl:j=(cn s ((k:Int) + 1)).recv.length:=by omega
  repeat (refine gn ?_)
  refine J.loop (ι:={ j:Nat // j≤(cn s ((k:Int) + 1)).send.length }) (fun q=>[(69,.c (nI q.1)),(68,.c (nI (cn s ((k:Int) + 1)).send.length)),(67,.c (ints (cn s ((k:Int) + 1)).send)),(5,.c (.v (pt b5))),(1,.c (nI ((k:Int) + 1))),(0,.c (.v (pt b)))]) (fun q=>.row vC 4 1 (j7 s (k + 1)) :: .row vR 110 1 (l9 (uC u k (x.1,vR,vC,x.2)) (k + 1)) :: aP (tR [(x.1,(cn s ((k:Int) + 1)).cap.toNat,(cn s ((k:Int) + 1)).buf)]) x.2 :: .box b5 72 (eC (cn s ((k:Int) + 1))) :: .box b 81 (wW (uC u k (x.1,vR,vC,x.2)) s) :: .row u.vG 47 25 G :: .row u.vS 52 7 (s.aC.map eS) :: .row u.vM 54 13 (s.done.map eM) :: .box u.bD 145 [dW s,nI s.drawn] :: aP (tB u.pB B) u.TB :: aP (tL u.pL (lK s (k + 1))) u.TL :: aP (tQ u.pQ s.aC.length (qK s k (cn s ((k:Int) + 1)).recv.length q.1)) u.TQ :: aP (tP u.pP s.cV.toNat s.bN.toNat (ee u s)) u.TP :: aP (tR (p9 u s k)) u.TR :: R) (fun q=>(cn s ((k:Int) + 1)).send.length - q.1) ⟨0,Nat.zero_le _⟩ (fun X h=>h.aW ⟨rfl,rfl,rfl,rfl,rfl,rfl,trivial⟩) (fun q iX=>?_);obtain ⟨j,hj⟩:=q;simp only at hj iX ⊢
  by_cases fy:j < (cn s ((k:Int) + 1)).send.length
  ·have t1:(decide ((j:Int) < ((cn s ((k:Int) + 1)).send.length:Int)))=true:=by simpa using fy
   obtain ⟨y,hy⟩:∃ y,(cn s ((k:Int) + 1)).send[j]?=some y:=⟨_,List.getElem?_eq_getElem fy⟩
   have CP:=Fj u.pQ s.aC.length (qK s k (cn s ((k:Int) + 1)).recv.length j) u.TQ (2 * ((k:Int) + 1) - 1) y;rw [WJ Q hk hy] at CP
   repeat (refine gn ?_)
   refine J.draw (by kernel_rfl) rfl ?_;refine JW.iS [11] none ?_;refine tk 0 ?_;refine tk 1 ?_;refine tk 2 ?_;refine tk 3 ?_;refine tk 4 ?_;refine tk 6 ?_;refine jl 5 rfl rfl rfl rfl (Ld.pure (LB ((k:Int) + 1) (by omega) (by omega)) (qb rfl) rfl lq) .none (fun _=>?_);refine jl 7 rfl rfl rfl rfl (Ld.fQ CP (qb rfl) rfl (.cons .refl (.cons .refl (.cons .refl .nil)))) (.iO rfl) (fun _=>?_);refine bt ?_
   repeat (refine gn ?_)
   exact (iX ⟨j + 1,by omega⟩ (by simp only;omega)).aW ⟨rfl,rfl,rfl,rfl,rfl,rfl,trivial⟩
  ·have t1:(decide ((j:Int) < ((cn s ((k:Int) + 1)).send.length:Int)))=false:=by simpa using fy
   obtain rfl:j=(cn s ((k:Int) + 1)).send.length:=by omega
   rw [WL]
   repeat (refine gn ?_)
   refine J.eP 3 ?_;refine J.perm (gS 12 rfl rfl (gS 2 rfl rfl (.refl _))) ?_;refine J.rings ?_;have Xf:=Xb u s k (x.1,vR,vC,x.2);rw [Xf];refine J.perm (L2:=wo b (uC u k (x.1,vR,vC,x.2)) s G B (l9 (uC u k (x.1,vR,vC,x.2)) (k + 1)) (j7 s (k + 1)) (lK s (k + 1)) (qK s (k + 1) 0 0) (p9 (uC u k (x.1,vR,vC,x.2)) s (k + 1)) R) ?_ ?_
   ·repeat (first | exact List.Perm.refl _ | refine gS 0 rfl rfl ?_ | refine gS 1 rfl rfl ?_ | refine gS 2 rfl rfl ?_ | refine gS 3 rfl rfl ?_)
   (exact J.lp func59 rfl .nil (x.1,vR,vC,x.2) (by exact .refl) rfl)
end Fl
open Go.RowKit
namespace Fl
open Sx Go.Proofs.Tryz
set_option maxRecDepth 100000
theorem NG {s:ah} {g o:Nat} (a b:Gr) (h:o≠g):ai (ai s g a) o b=ai (ai s o b) g a:=by
 unfold ai;simp only [ah.mk.injEq,true_and,and_true];exact List.set_comm _ _ (Ne.symm h)
theorem mU {s:ah} {g:Nat} (a b:Gr):ai (ai s g a) g b=ai s g b:=by
 unfold ai;simp only [List.set_set]
theorem kL {s:ah} {g:Nat} {f f':Gr→Gr} (hg:g < s.gs.length):bg (bg s g f) g f'=bg s g (fun x=>f' (f x)):=by
 unfold bg;rw [mU,qE _ _ _ _ hg,if_pos rfl]
theorem Xg {s:ah} {g o:Nat} {i:Int} (hg:g < s.gs.length) (ho:o < s.gs.length) (bO:o≠g) (e:(su s i).g=o) :
  bg (bg (bg (bg (bg s g fun x=>{ x with bQ:=(aa s g).t }) g fun x=>{ x with wi:=(o:Int) }) o fun x=>{ x with bQ:=(aa s g).t }) o fun x=>{ x with wi:=(g:Int) }) o (fun x=>{ x with dL:=(su s i).cs })=Sx.pair s g i:=by
 rw [kL hg,kL (ud ho),kL (ud ho)];simp only [Sx.pair,e,Int.toNat_natCast,bg];rw [qE _ _ _ _ hg,if_neg bO,NG _ _ bO]
theorem NH (b:Nat) (u:U) (s:ah) (g o:Nat) (i:Int) (hg:g < s.gs.length) (ho:o < s.gs.length) (bO:o≠g) (h0:0≤i) (h1:i < s.aC.length) (e0:(su s i).g=o) :
  ax prog 26 [.c (.v (pt b)),.c (nI g),.c (nI i)] (wd b u s) (fun _:Unit=>(.aZ [],wd b u (Sx.pair s g i))):=by
 haveI:Sx.bT g s:=⟨hg⟩
 haveI:Sx.bT o s:=⟨ho⟩
 haveI:mW o g:=⟨bO⟩
 haveI:mW g o:=⟨Ne.symm bO⟩
 haveI:Sx.gX i s:=⟨h0,h1⟩
 haveI:Sx.kK s i { su s i with g:=(o:Int) }:=⟨by rw [← e0]⟩
 rw [← Xg hg ho bO e0];refine ax.intro func26 rfl rfl rfl (fun ok e=>?_)
 repeat ((refine J.seq ?_))
 refine J.draw (by kernel_rfl) rfl ?_;refine JW.base none ?_;refine tk 0 ?_;refine tk 1 ?_;refine tk 2 ?_;refine tk 3 ?_;refine tk 4 ?_;refine JD.take 5 rfl rfl (by kernel_rfl) rfl (qb rfl) (Qt.bM rfl rfl eB eD) rfl ?_;refine tk 6 ?_;refine tk 7 ?_;refine tk 8 ?_;refine tk 9 ?_;refine tk 10 ?_;refine tk 11 ?_;refine tk 12 ?_;refine tk 13 ?_;refine tk 14 ?_;refine JD.take 15 rfl rfl (by kernel_rfl) rfl (qb rfl) (Qt.bM rfl rfl (nL (s:=s)) nM) rfl ?_;refine tk 16 ?_;refine JD.take 17 rfl rfl (by kernel_rfl) rfl (qb rfl) (Qt.cE rfl oL rfl) rfl ?_;refine JD.take 18 rfl rfl (by kernel_rfl) rfl (qb rfl) (Qt.bM rfl rfl eB eD) rfl ?_;refine tk 19 ?_;refine tk 20 ?_;refine bt ?_
 repeat (first | (refine K.load ?_;first | ((refine jq rfl rfl rfl (Qt.cE rfl (oL) (by exact rfl)) ?_)) | ((refine jq rfl rfl rfl (Qt.cE rfl (bX) (by exact rfl)) ?_))) | (refine K.store ?_;first | ((refine JO.ld (Ld.dK rfl rfl (by exact rfl) bX) rfl (fun _=>?_)));refine JO.eK b g (fun x=>{ x with bQ:=(aa s g).t }) (by exact rfl) ?_ | ((refine JO.ld (Ld.dK rfl rfl (by exact rfl) bX) rfl (fun _=>?_)));refine JO.eK b g (fun x=>{ x with wi:=(o:Int) }) (by exact rfl) ?_ | ((refine JO.ld (Ld.dK rfl rfl (by exact rfl) bX) rfl (fun _=>?_)));refine JO.eK b o (fun x=>{ x with bQ:=(aa s g).t }) (by exact rfl) ?_ | ((refine JO.ld (Ld.dK rfl rfl (by exact rfl) bX) rfl (fun _=>?_)));refine JO.eK b o (fun x=>{ x with wi:=(g:Int) }) (by exact rfl) ?_ | ((refine JO.ld (Ld.dK rfl rfl (by exact rfl) bX) rfl (fun _=>?_)));refine JO.eK b o (fun x=>{ x with dL:=(su s i).cs }) (by exact rfl) ?_) | (refine K.indexAddr ?_;refine jq rfl rfl rfl (Qt.bM rfl rfl (nL (s:=s)) nM) ?_) | refine gn ?_)
 (exact J.lp func26 rfl .nil () (by exact .refl) rfl)
section
variable {P:Program} {c:Cx} {k:List Item} {f:Fm} {b:Nat} {u:U} {s:ah} {g:Nat}
abbrev kM (u:U) (g:Nat) (v:Value):U:={ u with wk:=fun k=>if k=g then v else u.wk k }
theorem J.NI (g:Nat) {x:Gr} [hg:Sx.bT g s] [hx:Sx.dY s g x] (h:J P c k f (.row (u.wk g) 3 1 (dI x.an) :: wl b u s (fB u s) (s.gs.map fun x=>(x.status,x.token)) ((iq u s).eraseIdx (s.gs.length + g)))):J P c k f (wd b u s):=by
 have ex:=hx.h;subst ex;exact J.perm (sY (wd b u s) (s.gs.length + g + 12) (r:=.row (u.wk g) 3 1 (dI (aa s g).an)) (zw (u:=u) hg.h)) h
theorem J.NJ (g:Nat) (v:Value) (l:List Int) {x:Gr} {G W:List (List A)} [hg:Sx.bT g s] [hx:Sx.dY s g x] (hW:W=dI l) (hG:G=(fB u s).set g (gW { x with an:=l } (u.sg g) v)) (h:J P c k f (wd b (kM u g v) (bg s g fun x=>{ x with an:=l }))):J P c k f (.row v 3 1 W :: wl b u s G (s.gs.map fun x=>(x.status,x.token)) ((iq u s).eraseIdx (s.gs.length + g))):=by
 have ex:=hx.h;subst ex;subst hW hG;refine J.perm ?_ h;have e1:fB (kM u g v) (bg s g fun x=>{ x with an:=l })=(fB u s).set g (gW { aa s g with an:=l } (u.sg g) v):=(Ln (u:=u) (u':=kM u g v) (x:={ aa s g with an:=l }) (v:=u.sg g) (w:=v) hg.h ⟨rfl,if_pos rfl⟩ fun k hk=>⟨rfl,if_neg hk⟩).symm;have e2:(bg s g fun x=>{ x with an:=l }).gs.map (fun x=>(x.status,x.token))=s.gs.map fun x=>(x.status,x.token):=Lu hg.h ⟨rfl,rfl⟩
 have e3:iq (kM u g v) (bg s g fun x=>{ x with an:=l })=(iq u s).set (s.gs.length + g) (.row v 3 1 (dI l)):=(TS (x:={ aa s g with an:=l }) hg.h rfl).symm
 show (wl b (kM u g v) (bg s g fun x=>{ x with an:=l }) (fB (kM u g v) (bg s g fun x=>{ x with an:=l })) ((bg s g fun x=>{ x with an:=l }).gs.map fun x=>(x.status,x.token)) (iq (kM u g v) (bg s g fun x=>{ x with an:=l }))).Perm _;rw [e1,e2,e3];have hp:=set_perm (r':=ak.row v 3 1 (dI l)) (zw (u:=u) hg.h);exact (hp.append_left (wl b u s ((fB u s).set g (gW { aa s g with an:=l } (u.sg g) v)) (s.gs.map fun x=>(x.status,x.token)) [])).trans List.perm_middle
end
theorem Xh {s:ah} {g o:Nat} {i:Int} {d:Bool} (hg:g < s.gs.length) (ho:o < s.gs.length) (bO:o≠g) (e:(su s i).g=o) :
  bg (bg (bg (aR s i { su s i with g:=(o:Int),done:=d }) o fun x=>{ x with param:=i }) g fun x=>{ x with an:=(aa s g).an ++ [(o:Int)] }) g (fun x=>{ x with hold:=-1 })=Sx.serve s g i d:=by
 haveI:Sx.bT g s:=⟨hg⟩
 haveI:Sx.bT o s:=⟨ho⟩
 haveI:mW g o:=⟨Ne.symm bO⟩
 have h1:∀ D,aa (aR (ai s o { aa s o with param:=i }) i D) g=aa s g:=fun D=>by
  show aa (ai s o { aa s o with param:=i }) g=aa s g;rw [qE _ _ _ _ ho,if_neg (Ne.symm bO)]
 have h2:∀ D,aa (bg (aR s i D) o fun x=>{ x with param:=i }) g=aa s g:=fun D=>Sx.dY.h
 have hs:Sx.serve s g i d=ai (aR (ai s o { aa s o with param:=i }) i { su s i with g:=(o:Int),done:=d }) g { aa s g with an:=(aa s g).an ++ [(o:Int)],hold:=-1 }:=by
  unfold Sx.serve;dsimp only;rw [e,Int.toNat_natCast,h1]
 rw [kL (ud (s:=aR s i _) hg),hs];generalize hx:(bg (aR s i { su s i with g:=(o:Int),done:=d }) o fun x=>{ x with param:=i })=X;have h3:aa X g=aa s g:=by rw [← hx];exact h2 _
 unfold bg;rw [h3,← hx];rfl
theorem Xi (b:Nat) (u:U) (s:ah) (g o:Nat) (i:Int) (d:Bool) (hg:g < s.gs.length) (ho:o < s.gs.length) (bO:o≠g) (h0:0≤i) (h1:i < s.aC.length) (e0:(su s i).g=o) (hw:(aa s g).an.length≤1000) :
  ax prog 28 [.c (.v (pt b)),.c (nI g),.c (nI i),.c (bI d)] (wd b u s) (fun v:Value=>(.aZ [],wd b (kM u g v) (Sx.serve s g i d))):=by
 haveI:Sx.bT g s:=⟨hg⟩
 haveI:Sx.bT o s:=⟨ho⟩
 haveI:mW o g:=⟨bO⟩
 haveI:mW g o:=⟨Ne.symm bO⟩
 haveI:Sx.gX i s:=⟨h0,h1⟩
 haveI:Sx.kK s i { su s i with g:=(o:Int) }:=⟨by rw [← e0]⟩
 rw [← Xh hg ho bO e0];refine ax.intro func28 rfl rfl rfl (fun ok e=>?_)
 repeat (first | (refine K.load ?_;((refine jq rfl rfl rfl (Qt.cE rfl (oL) (by exact rfl)) ?_))) | (refine K.store ?_;first | ((refine JO.ld (Ld.dK rfl rfl (by exact rfl) oL) rfl (fun _=>?_)));refine JO.Al b i ({ su s i with g:=(o:Int),done:=d }) (by exact rfl) ?_ | ((refine JO.ld (Ld.dK rfl rfl (by exact rfl) bX) rfl (fun _=>?_)));refine JO.eK b o (fun x=>{ x with param:=i }) (by exact rfl) ?_) | (refine K.indexAddr ?_;first | refine jq rfl rfl rfl (Qt.bM rfl rfl (nL (s:=s)) nM) ?_ | refine jq rfl rfl rfl (Qt.bM rfl rfl eB eD) ?_) | refine gn ?_)
 have hl:(dI (aa s g).an).length≤1000:=by rw [oC];exact hw
 refine J.NI g ?_;refine J.draw (by kernel_rfl) rfl ?_;refine JW.iS [0] (some 18) ?_;refine tk 0 ?_;refine tk 1 ?_;refine tk 2 ?_;refine tk 3 ?_;refine tk 4 ?_;refine tk 5 ?_;refine tk 6 ?_;refine tk 7 ?_;refine tk 8 ?_;refine tk 9 ?_;refine JD.take 10 rfl rfl (by kernel_rfl) rfl (qb rfl) (Qt.bM rfl rfl eB eD) rfl ?_;refine tk 11 ?_;refine JD.take 12 rfl rfl (by kernel_rfl) rfl (qb rfl) (Qt.cE rfl bX rfl) rfl ?_;refine tk 13 ?_;refine jl 14 rfl rfl rfl rfl (Ld.oZ (qb rfl) rfl rfl rfl rfl rfl) .none (fun _=>?_);refine jl 15 rfl rfl rfl rfl (Ld.cA (qb rfl) rfl rfl .read (by (simp;omega))) (.uI rfl) (fun _=>?_);refine jk 16 rfl rfl rfl rfl (Qt.bM rfl rfl eB eD) ?_;refine jk 17 rfl rfl rfl rfl (Qt.fieldAddr rfl rfl) ?_;refine jt 18 rfl rfl (Ld.dK rfl rfl (by exact rfl) bX) (fun _=>?_);refine bS ?_;rename_i v _;refine J.NJ g v ((aa s g).an ++ [(o:Int)]) (by simp [dI]) (by exact rfl) ?_
 repeat (first | (refine K.store ?_;((refine JO.ld (Ld.dK rfl rfl (by exact rfl) bX) rfl (fun _=>?_)));refine JO.eK b g (fun x=>{ x with hold:=-1 }) (by exact rfl) ?_) | (refine K.indexAddr ?_;refine jq rfl rfl rfl (Qt.bM rfl rfl eB eD) ?_) | refine gn ?_)
 (exact J.lp func28 rfl .nil v (by exact .refl) rfl)
end Fl
end Go.Proofs.YtofnbflkhgammaaGreat
