/-
  What the laws need, part A25.
  Conditions: none.
-/
import Derived.Test.YtofnbflkhgammaaGreatA23
import Derived.Test.YtofnbflkhgammaaGreatA24
set_option linter.unusedVariables false
set_option linter.unusedSimpArgs false
set_option linter.unnecessarySimpa false
set_option maxHeartbeats 2000000
namespace Go.Proofs.YtofnbflkhgammaaGreat
open Go.RowKit
namespace Fl
open Sx
set_option maxRecDepth 100000
section
variable {P:Program} {c:Cx} {f:Fm} {L:List ai} {T:TypeId} {ps:String} {af:Array Edge} {gd:Option (Nat × Bool)} {t:Nat}
theorem Ld.WH {F:FuncId} {args:List Operand} {tys:Array TypeId} {cZ ds:List D} {ι:Type} {dd:ι→D} {r1 r2:ι→ai} [i:aG P F] (hC:aq P F ds [] (fun x=>(dd x,[r1 x,r2 x]))) (ht:t < c.N) (h:iq f args=some cZ) (hle:aL cZ ds) :
  Ld P c ⟨some t,.call ⟨.value (.func F),args.toArray,tys⟩,T,ps,af,gd⟩ f L [] (fun x=>(t,dd x) :: f) (fun x=>r1 x :: r2 x :: L) :=
 Ld.UO hC (fun _=>rfl) ht h hle
end
def gV (x:Gr) (v u:Value):List A :=
  [.r 6 (x.ops.map dO),nI x.at_,nI x.place,nI x.status,bI x.token,nI x.call,bI x.aX,nI x.param,nI x.aK,nI x.hold,nI x.t,nI x.jn,nI x.bG,nI x.wi,nI x.dh,
   nI x.res.code,nI x.res.cs,nI x.res.v,bI x.res.ok,nI x.res.n,ints x.order,ints x.aC,.v v,.v u,nI x.k]
theorem WI (x:Gr) (b1:x.ops.length≤100000) (b2:∀ o∈x.ops,o.cases.length≤1000) (b3:x.order.length≤1000) (b4:x.aC.length≤1000) (b5:x.ak.length≤1000) (b6:x.ah.length≤1000) :
  aq Tryz.prog 58 [.agg (eG x)] [] (fun q:Value × Value=>(.agg (gV x q.1 q.2),[.row q.2 3 1 (di x.ah),.row q.1 3 1 (di x.ak)])):=by
 have C1:=Ez [x.ops] (by simp) (by intro ops ho;obtain rfl:=List.mem_singleton.1 ho;exact ⟨b1,b2⟩);refine aq.intro Tryz.func58 rfl rfl rfl (fun ok e=>?_);have l5:(di x.ak).length=x.ak.length:=nU _;have l6:(di x.ah).length=x.ah.length:=nU _
 repeat (first | (refine K.indexAddr ?_;refine jx rfl rfl rfl rfl (by omega) (rfl) ?_) | refine aJ (C1) ?_ | (refine K.lit ?_;refine JO.ld (Ld.nt (qb rfl) rfl rfl rfl rfl rfl) rfl (fun _=>?_)) | (refine K.bi ?_;first | (refine JO.ld (Ld.gE (l2:=di x.order) (qb rfl) rfl rfl .read (by rw [nU];omega)) rfl (fun _=>?_)) | (refine JO.ld (Ld.gE (l2:=di x.aC) (qb rfl) rfl rfl .read (by rw [nU];omega)) rfl (fun _=>?_)) | (refine JO.ld (Ld.xy (l2:=di x.ak) (qb rfl) rfl rfl .read (by rw [nU];omega)) rfl ?_;intro v) | (refine JO.ld (Ld.xy (l2:=di x.ah) (qb rfl) rfl rfl .read (by rw [nU];omega)) rfl ?_;intro w)) | refine au ?_ | intro _)
 refine J.perm (bt 2 rfl rfl (bt 2 rfl rfl (.refl _))) ?_
 (exact J.nQ [_,_] rfl Tryz.func58 rfl (.cons (.cell 0 rfl rfl rfl) .nil) (v,w) la rfl)
@[reducible] def wo (b:Nat) (u:U) (s:Sx.St) (G:List (List A)) (B:List (Int × Bool)) (rv cl:List (List A)) (La:List Int) (Q:List (List Int)) (rs:List (Value × Nat × List Int)) (R:List ai):List ai :=
 .box b 81 (wW u s) ::
 .row u.vG 47 25 G ::
 .row u.vR 110 1 rv ::
 .row u.vC 4 1 cl ::
 .row u.vS 52 7 (s.aB.map eS) ::
 .row u.vM 54 13 (s.done.map eM) ::
 .box u.bD 145 [dW s,nI s.drawn] ::
 aI (tB u.pB B) u.TB ::
 aI (tL u.pL La) u.TL ::
 aI (tQ u.pQ s.aB.length Q) u.TQ ::
 aI (tP u.pP s.dB.toNat s.bN.toNat (fD u s)) u.TP ::
 aI (tR rs) u.TR :: R
def lF (u:U) (k:Nat):List (List A):=(List.range k).map fun i=>[.v (u.rs i)]
def jN (s:Sx.St) (k:Nat):List (List A):=(s.an.take k).map fun c=>[bI c.closed]
def pe (u:U) (s:Sx.St) (k:Nat):List (Value × Nat × List Int):=(List.range k).map fun i=>(u.rs i,(cn s (i + 1)).cap.toNat,(cn s (i + 1)).buf)
def rO (u:U) (s:Sx.St) (k:Nat):List (List A):=(List.range k).map fun g=>gW (Sx.gr s g) (u.sg g) (u.wk g)
def tu (u:U) (s:Sx.St) (k:Nat):List ai:=((List.range k).map fun g=>.row (u.sg g) 3 1 (di (Sx.gr s g).ak)) ++ ((List.range k).map fun g=>.row (u.wk g) 3 1 (di (Sx.gr s g).ah))
abbrev uC (u:U) (k:Nat) (x:Value × Value × Value × List Nat):U:={ u with vR:=x.2.1,vC:=x.2.2.1,TR:=u.TR ++ x.2.2.2,rs:=fun i=>if i=k then x.1 else u.rs i }
theorem zf {α:Type} {k:Nat} {h h':Nat→α} {a:α} (e1:h' k=a) (e2:∀ j,j < k→h' j=h j):(List.range k).map h ++ [a]=(List.range (k + 1)).map h':=by
 rw [List.range_succ,List.map_append,List.map_cons,List.map_nil,e1]
 congr 1
 exact List.map_congr_left fun j hj=>(e2 j (by simpa using hj)).symm
theorem WJ (u:U) (k:Nat) (x:Value × Value × Value × List Nat):lF u k ++ [[A.v x.1]]=lF (uC u k x) (k + 1) :=
 zf (by simp) fun j hj=>by have:j≠k:=(by omega);simp [this]
theorem WK (u:U) (s:Sx.St) (k:Nat) (x:Value × Value × Value × List Nat):pe u s k ++ [(x.1,(cn s ((k:Int) + 1)).cap.toNat,(cn s ((k:Int) + 1)).buf)]=pe (uC u k x) s (k + 1) :=
 zf (by simp) fun j hj=>by have:j≠k:=(by omega);simp [this]
theorem WL {s:Sx.St} {k:Nat} (hk:k < s.an.length):jN s k ++ [[bI (cn s ((k:Int) + 1)).closed]]=jN s (k + 1):=by
 unfold jN;rw [List.take_add_one,oM hk,List.map_append];rfl
theorem WM (b:Nat) (u:U) (s:Sx.St) (k:Nat) (G:List (List A)) (B:List (Int × Bool)) (R:List ai) (hk:k < s.an.length) (Q:Qs s) (hc:0≤(cn s ((k:Int) + 1)).cap∧(cn s ((k:Int) + 1)).cap≤64∧(((cn s ((k:Int) + 1)).buf.length:Nat):Int)≤(cn s ((k:Int) + 1)).cap) (hl:(cn s ((k:Int) + 1)).lock=-1∨0≤(cn s ((k:Int) + 1)).lock) (hr:(cn s ((k:Int) + 1)).recv.length≤1000) (ht:(cn s ((k:Int) + 1)).send.length≤1000) :
  aq Tryz.prog 59 [.c (.v (pt b)),.c (nI ((k:Int) + 1)),.agg (eC (cn s ((k:Int) + 1)))] (wo b u s G B (lF u k) (jN s k) (lK s k) (qK s k 0 0) (pe u s k) R)
   (fun x:Value × Value × Value × List Nat=>(.aV [],wo b (uC u k x) s G B (lF (uC u k x) (k + 1)) (jN s (k + 1)) (lK s (k + 1)) (qK s (k + 1) 0 0) (pe (uC u k x) s (k + 1)) R)):=by
 have c8:=Q.c8;have CR:=WA _ _ hc;have CL:=Js u.pL (lK s k) u.TL ((k:Int) + 1 - 1) (cn s ((k:Int) + 1)).lock;rw [UC hk hl] at CL;have w1:IntKind.i64.wrap ((k:Int) + 1 - 1)=(k:Int) + 1 - 1:=fJ (by omega) (by omega);have l1:(lF u k).length≤8:=by simp [lF];omega
 have l2:(jN s k).length≤8:=by simp [jN];omega
 refine aq.intro Tryz.func59 rfl rfl rfl (fun ok e=>?_)
 repeat (first | (refine K.store ?_;refine JO.ld (Ld.cG rfl rfl (by exact rfl)) rfl (fun _=>?_)) | (refine K.call ?_;refine JO.ld (Ld.kr CR (qb rfl) rfl (.cons .refl (.cons .refl .nil))) rfl ?_;intro x) | (refine K.lit ?_;refine JO.ld (Ld.nt (qb rfl) rfl rfl rfl rfl rfl) rfl (fun _=>?_)) | (refine K.bi ?_;refine JO.ld (Ld.bY (qb rfl) rfl rfl .read (by (simp;omega))) rfl (fun _=>?_)) | refine au ?_ | intro _)
 rename_i b5 _ vR _;refine J.draw (by kernel_rfl) rfl ?_;refine JW.iR [5] (some 11) ?_;refine tk 0 ?_;refine tk 1 ?_;refine tk 2 ?_;refine tk 3 ?_;refine tk 4 ?_;refine tk 5 ?_;refine tk 6 ?_;refine jl 7 rfl rfl rfl rfl (Ld.nt (qb rfl) rfl rfl rfl rfl rfl) .none (fun _=>?_);refine jl 8 rfl rfl rfl rfl (Ld.bY (qb rfl) rfl rfl .read (by (simp;omega))) (.tS rfl) (fun _=>?_);refine jk 9 rfl rfl rfl rfl (Qt.nilCheck rfl rfl) ?_;refine jk 10 rfl rfl rfl rfl (Qt.fieldAddr rfl rfl) ?_;refine jt 11 rfl rfl (Ld.cG rfl rfl (by exact rfl)) (fun _=>?_);refine bJ ?_
 repeat ((refine J.seq ?_))
 refine J.draw (by kernel_rfl) rfl ?_;refine JW.iR [10] none ?_;refine tk 0 ?_;refine tk 1 ?_;refine tk 2 ?_;refine tk 3 ?_;refine tk 4 ?_;refine JD.take 5 rfl rfl (by kernel_rfl) rfl (qb rfl) (Qt.cP rfl rfl rfl w1) rfl ?_;refine tk 6 ?_;refine tk 7 ?_;refine jl 8 rfl rfl rfl rfl (Ld.ep CL (qb rfl) rfl (.cons .refl (.cons .refl (.cons .refl .nil)))) (.iH rfl) (fun _=>?_);refine bH ?_;rename_i vC _ _;have eR:lF u k ++ [[A.v x.1]]=lF (uC u k (x.1,vR,vC,x.2)) (k + 1):=WJ u k (x.1,vR,vC,x.2);have WN:jN s k ++ [[bI (cn s ((k:Int) + 1)).closed]]=jN s (k + 1):=WL hk
 repeat (refine gn ?_)
 refine J.loop (ι:={ j:Nat // j≤(cn s ((k:Int) + 1)).recv.length }) (fun q=>[(53,.c (nI q.1)),(52,.c (nI (cn s ((k:Int) + 1)).recv.length)),(51,.c (ints (cn s ((k:Int) + 1)).recv)),(5,.c (.v (pt b5))),(1,.c (nI ((k:Int) + 1))),(0,.c (.v (pt b)))]) (fun q=>.row vC 4 1 (jN s (k + 1)) :: .row vR 110 1 (lF (uC u k (x.1,vR,vC,x.2)) (k + 1)) :: aI (tR [(x.1,(cn s ((k:Int) + 1)).cap.toNat,(cn s ((k:Int) + 1)).buf)]) x.2 :: .box b5 72 (eC (cn s ((k:Int) + 1))) :: .box b 81 (wW (uC u k (x.1,vR,vC,x.2)) s) :: .row u.vG 47 25 G :: .row u.vS 52 7 (s.aB.map eS) :: .row u.vM 54 13 (s.done.map eM) :: .box u.bD 145 [dW s,nI s.drawn] :: aI (tB u.pB B) u.TB :: aI (tL u.pL (lK s (k + 1))) u.TL :: aI (tQ u.pQ s.aB.length (qK s k q.1 0)) u.TQ :: aI (tP u.pP s.dB.toNat s.bN.toNat (fD u s)) u.TP :: aI (tR (pe u s k)) u.TR :: R) (fun q=>(cn s ((k:Int) + 1)).recv.length - q.1) ⟨0,Nat.zero_le _⟩ (fun X h=>?_) (fun q ih=>?_)
 ·refine J.dZ ?_ (h.aU ⟨rfl,rfl,rfl,rfl,rfl,rfl,trivial⟩);rw [← eR,← WN];rfl
 obtain ⟨j,hj⟩:=q;simp only at hj ih ⊢
 by_cases eW:j < (cn s ((k:Int) + 1)).recv.length
 ·have t1:(decide ((j:Int) < ((cn s ((k:Int) + 1)).recv.length:Int)))=true:=by simpa using eW
  obtain ⟨y,hy⟩:∃ y,(cn s ((k:Int) + 1)).recv[j]?=some y:=⟨_,List.getElem?_eq_getElem eW⟩
  have CP:=Jv u.pQ s.aB.length (qK s k j 0) u.TQ (2 * ((k:Int) + 1) - 2) y;rw [UF Q hk hy] at CP
  repeat (refine gn ?_)
  refine J.draw (by kernel_rfl) rfl ?_;refine JW.iR [11] none ?_;refine tk 0 ?_;refine tk 1 ?_;refine tk 2 ?_;refine tk 3 ?_;refine tk 4 ?_;refine tk 6 ?_;refine jl 5 rfl rfl rfl rfl (Ld.pure (JJ ((k:Int) + 1) (by omega) (by omega)) (qb rfl) rfl lq) .none (fun _=>?_);refine jl 7 rfl rfl rfl rfl (Ld.ep CP (qb rfl) rfl (.cons .refl (.cons .refl (.cons .refl .nil)))) (.iH rfl) (fun _=>?_);refine bH ?_
  repeat (refine gn ?_)
  exact (ih ⟨j + 1,by omega⟩ (by simp only;omega)).aU ⟨rfl,rfl,rfl,rfl,rfl,rfl,trivial⟩
 ·have t1:(decide ((j:Int) < ((cn s ((k:Int) + 1)).recv.length:Int)))=false:=by simpa using eW
  obtain rfl:j=(cn s ((k:Int) + 1)).recv.length:=by omega
  repeat (refine gn ?_)
  refine J.loop (ι:={ j:Nat // j≤(cn s ((k:Int) + 1)).send.length }) (fun q=>[(69,.c (nI q.1)),(68,.c (nI (cn s ((k:Int) + 1)).send.length)),(67,.c (ints (cn s ((k:Int) + 1)).send)),(5,.c (.v (pt b5))),(1,.c (nI ((k:Int) + 1))),(0,.c (.v (pt b)))]) (fun q=>.row vC 4 1 (jN s (k + 1)) :: .row vR 110 1 (lF (uC u k (x.1,vR,vC,x.2)) (k + 1)) :: aI (tR [(x.1,(cn s ((k:Int) + 1)).cap.toNat,(cn s ((k:Int) + 1)).buf)]) x.2 :: .box b5 72 (eC (cn s ((k:Int) + 1))) :: .box b 81 (wW (uC u k (x.1,vR,vC,x.2)) s) :: .row u.vG 47 25 G :: .row u.vS 52 7 (s.aB.map eS) :: .row u.vM 54 13 (s.done.map eM) :: .box u.bD 145 [dW s,nI s.drawn] :: aI (tB u.pB B) u.TB :: aI (tL u.pL (lK s (k + 1))) u.TL :: aI (tQ u.pQ s.aB.length (qK s k (cn s ((k:Int) + 1)).recv.length q.1)) u.TQ :: aI (tP u.pP s.dB.toNat s.bN.toNat (fD u s)) u.TP :: aI (tR (pe u s k)) u.TR :: R) (fun q=>(cn s ((k:Int) + 1)).send.length - q.1) ⟨0,Nat.zero_le _⟩ (fun X h=>h.aU ⟨rfl,rfl,rfl,rfl,rfl,rfl,trivial⟩) (fun q kL=>?_);obtain ⟨j,hj⟩:=q;simp only at hj kL ⊢
  by_cases eW:j < (cn s ((k:Int) + 1)).send.length
  ·have t1:(decide ((j:Int) < ((cn s ((k:Int) + 1)).send.length:Int)))=true:=by simpa using eW
   obtain ⟨y,hy⟩:∃ y,(cn s ((k:Int) + 1)).send[j]?=some y:=⟨_,List.getElem?_eq_getElem eW⟩
   have CP:=Jv u.pQ s.aB.length (qK s k (cn s ((k:Int) + 1)).recv.length j) u.TQ (2 * ((k:Int) + 1) - 1) y;rw [UG Q hk hy] at CP
   repeat (refine gn ?_)
   refine J.draw (by kernel_rfl) rfl ?_;refine JW.iR [11] none ?_;refine tk 0 ?_;refine tk 1 ?_;refine tk 2 ?_;refine tk 3 ?_;refine tk 4 ?_;refine tk 6 ?_;refine jl 5 rfl rfl rfl rfl (Ld.pure (JK ((k:Int) + 1) (by omega) (by omega)) (qb rfl) rfl lq) .none (fun _=>?_);refine jl 7 rfl rfl rfl rfl (Ld.ep CP (qb rfl) rfl (.cons .refl (.cons .refl (.cons .refl .nil)))) (.iH rfl) (fun _=>?_);refine bH ?_
   repeat (refine gn ?_)
   exact (kL ⟨j + 1,by omega⟩ (by simp only;omega)).aU ⟨rfl,rfl,rfl,rfl,rfl,rfl,trivial⟩
  ·have t1:(decide ((j:Int) < ((cn s ((k:Int) + 1)).send.length:Int)))=false:=by simpa using eW
   obtain rfl:j=(cn s ((k:Int) + 1)).send.length:=by omega
   rw [UI]
   repeat (refine gn ?_)
   refine J.eF 3 ?_;refine J.perm (bt 12 rfl rfl (bt 2 rfl rfl (.refl _))) ?_;refine J.rings ?_;have WO:=WK u s k (x.1,vR,vC,x.2);rw [WO];refine J.perm (L2:=wo b (uC u k (x.1,vR,vC,x.2)) s G B (lF (uC u k (x.1,vR,vC,x.2)) (k + 1)) (jN s (k + 1)) (lK s (k + 1)) (qK s (k + 1) 0 0) (pe (uC u k (x.1,vR,vC,x.2)) s (k + 1)) R) ?_ ?_
   ·repeat (first | exact List.Perm.refl _ | refine bt 0 rfl rfl ?_ | refine bt 1 rfl rfl ?_ | refine bt 2 rfl rfl ?_ | refine bt 3 rfl rfl ?_)
   (exact J.jI Tryz.func59 rfl .nil (x.1,vR,vC,x.2) (by exact .refl) rfl)
end Fl
open Go.RowKit
namespace Fl
open Sx
set_option maxRecDepth 100000
theorem WQ {s:Sx.St} {g o:Nat} (a b:Gr) (h:o≠g):Sx.aa (Sx.aa s g a) o b=Sx.aa (Sx.aa s o b) g a:=by
 unfold Sx.aa;simp only [Sx.St.mk.injEq,true_and,and_true];exact List.set_comm _ _ (Ne.symm h)
theorem mc {s:Sx.St} {g:Nat} (a b:Gr):Sx.aa (Sx.aa s g a) g b=Sx.aa s g b:=by
 unfold Sx.aa;simp only [List.set_set]
theorem qj {s:Sx.St} {g:Nat} {f f':Gr→Gr} (hg:g < s.gs.length):Sx.bq (Sx.bq s g f) g f'=Sx.bq s g (fun x=>f' (f x)):=by
 unfold Sx.bq;rw [mc,lR _ _ _ _ hg,if_pos rfl]
theorem WR {s:Sx.St} {g o:Nat} {i:Int} (hg:g < s.gs.length) (ho:o < s.gs.length) (br:o≠g) (e:(su s i).g=o) :
  Sx.bq (Sx.bq (Sx.bq (Sx.bq (Sx.bq s g fun x=>{ x with bG:=(Sx.gr s g).t }) g fun x=>{ x with wi:=(o:Int) }) o fun x=>{ x with bG:=(Sx.gr s g).t }) o fun x=>{ x with wi:=(g:Int) }) o (fun x=>{ x with dh:=(su s i).cs })=Sx.pair s g i:=by
 rw [qj hg,qj (we ho),qj (we ho)];simp only [Sx.pair,e,Int.toNat_natCast,Sx.bq];rw [lR _ _ _ _ hg,if_neg br,WQ _ _ br]
theorem WS (b:Nat) (u:U) (s:Sx.St) (g o:Nat) (i:Int) (hg:g < s.gs.length) (ho:o < s.gs.length) (br:o≠g) (h0:0≤i) (h1:i < s.aB.length) (e0:(su s i).g=o) :
  aq Tryz.prog 26 [.c (.v (pt b)),.c (nI g),.c (nI i)] (wd b u s) (fun _:Unit=>(.aV [],wd b u (Sx.pair s g i))):=by
 haveI:Sx.cy g s:=⟨hg⟩
 haveI:Sx.cy o s:=⟨ho⟩
 haveI:oa o g:=⟨br⟩
 haveI:oa g o:=⟨Ne.symm br⟩
 haveI:Sx.ko i s:=⟨h0,h1⟩
 haveI:Sx.lD s i { su s i with g:=(o:Int) }:=⟨by rw [← e0]⟩
 rw [← WR hg ho br e0];refine aq.intro Tryz.func26 rfl rfl rfl (fun ok e=>?_)
 repeat ((refine J.seq ?_))
 refine J.draw (by kernel_rfl) rfl ?_;refine JW.base none ?_;refine tk 0 ?_;refine tk 1 ?_;refine tk 2 ?_;refine tk 3 ?_;refine tk 4 ?_;refine JD.take 5 rfl rfl (by kernel_rfl) rfl (qb rfl) (Qt.bF rfl rfl fo fq) rfl ?_;refine tk 6 ?_;refine tk 7 ?_;refine tk 8 ?_;refine tk 9 ?_;refine tk 10 ?_;refine tk 11 ?_;refine tk 12 ?_;refine tk 13 ?_;refine tk 14 ?_;refine JD.take 15 rfl rfl (by kernel_rfl) rfl (qb rfl) (Qt.bF rfl rfl (oh (s:=s)) oo) rfl ?_;refine tk 16 ?_;refine JD.take 17 rfl rfl (by kernel_rfl) rfl (qb rfl) (Qt.cJ rfl og rfl) rfl ?_;refine JD.take 18 rfl rfl (by kernel_rfl) rfl (qb rfl) (Qt.bF rfl rfl fo fq) rfl ?_;refine tk 19 ?_;refine tk 20 ?_;refine bH ?_
 repeat (first | (refine K.load ?_;first | ((refine jq rfl rfl rfl (Qt.cJ rfl (og) (by exact rfl)) ?_)) | ((refine jq rfl rfl rfl (Qt.cJ rfl (cF) (by exact rfl)) ?_))) | (refine K.store ?_;first | ((refine JO.ld (Ld.dY rfl rfl (by exact rfl) cF) rfl (fun _=>?_)));refine JO.fu b g (fun x=>{ x with bG:=(Sx.gr s g).t }) (by exact rfl) ?_ | ((refine JO.ld (Ld.dY rfl rfl (by exact rfl) cF) rfl (fun _=>?_)));refine JO.fu b g (fun x=>{ x with wi:=(o:Int) }) (by exact rfl) ?_ | ((refine JO.ld (Ld.dY rfl rfl (by exact rfl) cF) rfl (fun _=>?_)));refine JO.fu b o (fun x=>{ x with bG:=(Sx.gr s g).t }) (by exact rfl) ?_ | ((refine JO.ld (Ld.dY rfl rfl (by exact rfl) cF) rfl (fun _=>?_)));refine JO.fu b o (fun x=>{ x with wi:=(g:Int) }) (by exact rfl) ?_ | ((refine JO.ld (Ld.dY rfl rfl (by exact rfl) cF) rfl (fun _=>?_)));refine JO.fu b o (fun x=>{ x with dh:=(su s i).cs }) (by exact rfl) ?_) | (refine K.indexAddr ?_;refine jq rfl rfl rfl (Qt.bF rfl rfl (oh (s:=s)) oo) ?_) | refine gn ?_)
 (exact J.jI Tryz.func26 rfl .nil () (by exact .refl) rfl)
section
variable {P:Program} {c:Cx} {k:List Item} {f:Fm} {b:Nat} {u:U} {s:Sx.St} {g:Nat}
abbrev iM (u:U) (g:Nat) (v:Value):U:={ u with wk:=fun k=>if k=g then v else u.wk k }
theorem J.Mr (g:Nat) {x:Gr} [hg:Sx.cy g s] [hx:Sx.dR s g x] (h:J P c k f (.row (u.wk g) 3 1 (di x.ah) :: wl b u s (dc u s) (s.gs.map fun x=>(x.status,x.token)) ((fE u s).eraseIdx (s.gs.length + g)))):J P c k f (wd b u s):=by
 have ex:=hx.h;subst ex;exact J.perm (rV (wd b u s) (s.gs.length + g + 12) (r:=.row (u.wk g) 3 1 (di (Sx.gr s g).ah)) (yh (u:=u) hg.h)) h
theorem J.Ms (g:Nat) (v:Value) (l:List Int) {x:Gr} {G W:List (List A)} [hg:Sx.cy g s] [hx:Sx.dR s g x] (hW:W=di l) (hG:G=(dc u s).set g (gW { x with ah:=l } (u.sg g) v)) (h:J P c k f (wd b (iM u g v) (Sx.bq s g fun x=>{ x with ah:=l }))):J P c k f (.row v 3 1 W :: wl b u s G (s.gs.map fun x=>(x.status,x.token)) ((fE u s).eraseIdx (s.gs.length + g))):=by
 have ex:=hx.h;subst ex;subst hW hG;refine J.perm ?_ h;have e1:dc (iM u g v) (Sx.bq s g fun x=>{ x with ah:=l })=(dc u s).set g (gW { Sx.gr s g with ah:=l } (u.sg g) v):=(Ev (u:=u) (u':=iM u g v) (x:={ Sx.gr s g with ah:=l }) (v:=u.sg g) (w:=v) hg.h ⟨rfl,if_pos rfl⟩ fun k hk=>⟨rfl,if_neg hk⟩).symm;have e2:(Sx.bq s g fun x=>{ x with ah:=l }).gs.map (fun x=>(x.status,x.token))=s.gs.map fun x=>(x.status,x.token):=Ex hg.h ⟨rfl,rfl⟩
 have e3:fE (iM u g v) (Sx.bq s g fun x=>{ x with ah:=l })=(fE u s).set (s.gs.length + g) (.row v 3 1 (di l)):=(Sr (x:={ Sx.gr s g with ah:=l }) hg.h rfl).symm
 show (wl b (iM u g v) (Sx.bq s g fun x=>{ x with ah:=l }) (dc (iM u g v) (Sx.bq s g fun x=>{ x with ah:=l })) ((Sx.bq s g fun x=>{ x with ah:=l }).gs.map fun x=>(x.status,x.token)) (fE (iM u g v) (Sx.bq s g fun x=>{ x with ah:=l }))).Perm _;rw [e1,e2,e3];have hp:=set_perm (r':=ai.row v 3 1 (di l)) (yh (u:=u) hg.h);exact (hp.append_left (wl b u s ((dc u s).set g (gW { Sx.gr s g with ah:=l } (u.sg g) v)) (s.gs.map fun x=>(x.status,x.token)) [])).trans List.perm_middle
end
theorem WT {s:Sx.St} {g o:Nat} {i:Int} {d:Bool} (hg:g < s.gs.length) (ho:o < s.gs.length) (br:o≠g) (e:(su s i).g=o) :
  Sx.bq (Sx.bq (Sx.bq (Sx.aF s i { su s i with g:=(o:Int),done:=d }) o fun x=>{ x with param:=i }) g fun x=>{ x with ah:=(Sx.gr s g).ah ++ [(o:Int)] }) g (fun x=>{ x with hold:=-1 })=Sx.serve s g i d:=by
 haveI:Sx.cy g s:=⟨hg⟩
 haveI:Sx.cy o s:=⟨ho⟩
 haveI:oa g o:=⟨Ne.symm br⟩
 have h1:∀ D,Sx.gr (Sx.aF (Sx.aa s o { Sx.gr s o with param:=i }) i D) g=Sx.gr s g:=fun D=>by
  show Sx.gr (Sx.aa s o { Sx.gr s o with param:=i }) g=Sx.gr s g;rw [lR _ _ _ _ ho,if_neg (Ne.symm br)]
 have h2:∀ D,Sx.gr (Sx.bq (Sx.aF s i D) o fun x=>{ x with param:=i }) g=Sx.gr s g:=fun D=>Sx.dR.h
 have hs:Sx.serve s g i d=Sx.aa (Sx.aF (Sx.aa s o { Sx.gr s o with param:=i }) i { su s i with g:=(o:Int),done:=d }) g { Sx.gr s g with ah:=(Sx.gr s g).ah ++ [(o:Int)],hold:=-1 }:=by
  unfold Sx.serve;dsimp only;rw [e,Int.toNat_natCast,h1]
 rw [qj (we (s:=Sx.aF s i _) hg),hs];generalize hx:(Sx.bq (Sx.aF s i { su s i with g:=(o:Int),done:=d }) o fun x=>{ x with param:=i })=X;have h3:Sx.gr X g=Sx.gr s g:=by rw [← hx];exact h2 _
 unfold Sx.bq;rw [h3,← hx];rfl
theorem Mt (b:Nat) (u:U) (s:Sx.St) (g o:Nat) (i:Int) (d:Bool) (hg:g < s.gs.length) (ho:o < s.gs.length) (br:o≠g) (h0:0≤i) (h1:i < s.aB.length) (e0:(su s i).g=o) (hw:(Sx.gr s g).ah.length≤1000) :
  aq Tryz.prog 28 [.c (.v (pt b)),.c (nI g),.c (nI i),.c (bI d)] (wd b u s) (fun v:Value=>(.aV [],wd b (iM u g v) (Sx.serve s g i d))):=by
 haveI:Sx.cy g s:=⟨hg⟩
 haveI:Sx.cy o s:=⟨ho⟩
 haveI:oa o g:=⟨br⟩
 haveI:oa g o:=⟨Ne.symm br⟩
 haveI:Sx.ko i s:=⟨h0,h1⟩
 haveI:Sx.lD s i { su s i with g:=(o:Int) }:=⟨by rw [← e0]⟩
 rw [← WT hg ho br e0];refine aq.intro Tryz.func28 rfl rfl rfl (fun ok e=>?_)
 repeat (first | (refine K.load ?_;((refine jq rfl rfl rfl (Qt.cJ rfl (og) (by exact rfl)) ?_))) | (refine K.store ?_;first | ((refine JO.ld (Ld.dY rfl rfl (by exact rfl) og) rfl (fun _=>?_)));refine JO.Fv b i ({ su s i with g:=(o:Int),done:=d }) (by exact rfl) ?_ | ((refine JO.ld (Ld.dY rfl rfl (by exact rfl) cF) rfl (fun _=>?_)));refine JO.fu b o (fun x=>{ x with param:=i }) (by exact rfl) ?_) | (refine K.indexAddr ?_;first | refine jq rfl rfl rfl (Qt.bF rfl rfl (oh (s:=s)) oo) ?_ | refine jq rfl rfl rfl (Qt.bF rfl rfl fo fq) ?_) | refine gn ?_)
 have hl:(di (Sx.gr s g).ah).length≤1000:=by rw [nU];exact hw
 refine J.Mr g ?_;refine J.draw (by kernel_rfl) rfl ?_;refine JW.iR [0] (some 18) ?_;refine tk 0 ?_;refine tk 1 ?_;refine tk 2 ?_;refine tk 3 ?_;refine tk 4 ?_;refine tk 5 ?_;refine tk 6 ?_;refine tk 7 ?_;refine tk 8 ?_;refine tk 9 ?_;refine JD.take 10 rfl rfl (by kernel_rfl) rfl (qb rfl) (Qt.bF rfl rfl fo fq) rfl ?_;refine tk 11 ?_;refine JD.take 12 rfl rfl (by kernel_rfl) rfl (qb rfl) (Qt.cJ rfl cF rfl) rfl ?_;refine tk 13 ?_;refine jl 14 rfl rfl rfl rfl (Ld.nt (qb rfl) rfl rfl rfl rfl rfl) .none (fun _=>?_);refine jl 15 rfl rfl rfl rfl (Ld.bY (qb rfl) rfl rfl .read (by (simp;omega))) (.tS rfl) (fun _=>?_);refine jk 16 rfl rfl rfl rfl (Qt.bF rfl rfl fo fq) ?_;refine jk 17 rfl rfl rfl rfl (Qt.fieldAddr rfl rfl) ?_;refine jt 18 rfl rfl (Ld.dY rfl rfl (by exact rfl) cF) (fun _=>?_);refine bJ ?_;rename_i v _;refine J.Ms g v ((Sx.gr s g).ah ++ [(o:Int)]) (by simp [di]) (by exact rfl) ?_
 repeat (first | (refine K.store ?_;((refine JO.ld (Ld.dY rfl rfl (by exact rfl) cF) rfl (fun _=>?_)));refine JO.fu b g (fun x=>{ x with hold:=-1 }) (by exact rfl) ?_) | (refine K.indexAddr ?_;refine jq rfl rfl rfl (Qt.bF rfl rfl fo fq) ?_) | refine gn ?_)
 (exact J.jI Tryz.func28 rfl .nil v (by exact .refl) rfl)
end Fl
end Go.Proofs.YtofnbflkhgammaaGreat
