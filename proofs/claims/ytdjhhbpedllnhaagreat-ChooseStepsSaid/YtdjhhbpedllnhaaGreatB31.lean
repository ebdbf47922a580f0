/-
  What the laws need, part B31.
  Conditions: none.
-/
import Derived.Test.YtdjhhbpedllnhaaGreatB30
set_option linter.unusedVariables false
set_option linter.unusedSimpArgs false
set_option linter.unnecessarySimpa false
set_option maxHeartbeats 2000000
namespace Go.Proofs.YtdjhhbpedllnhaaGreat
open Go.RowKit
namespace Fl
open Sx Go.Proofs.Tryz
set_option maxRecDepth 100000
theorem V0 (b:Nat) (u:U) {s:ah} {g:Nat} (hg:g < s.gs.length) (l:List Int):(wd b u s).set (g + 12) (.row (u.sg g) 3 1 (aF l))=wd b u (aK s g fun x=>{ x with aq:=l }):=by
 have eu:{ u with sg:=fun k=>if k=g then u.sg g else u.sg k }=u:=by
  have:(fun k=>if k=g then u.sg g else u.sg k)=u.sg:=by funext k;split;rename_i e;rw [e];rfl
  rw [this]
 have e1:dQ u (aK s g fun x=>{ x with aq:=l })=dQ u s:=by
  unfold aK;rw [← D8 (u:=u) (x:={ aa s g with aq:=l }) hg];exact nC (by rw [D7 hg];rfl)
 have e2:(aK s g fun x=>{ x with aq:=l }).gs.map (fun x=>(x.status,x.token))=s.gs.map fun x=>(x.status,x.token):=yD hg ⟨rfl,rfl⟩
 have e3:eE u (aK s g fun x=>{ x with aq:=l })=(eE u s).set g (.row (u.sg g) 3 1 (aF l)):=by
  have:=D9 (u:=u) (x:={ aa s g with aq:=l }) (v:=u.sg g) hg rfl;rw [eu] at this;exact this.symm
 show wl b u s (dQ u s) (s.gs.map fun x=>(x.status,x.token)) ((eE u s).set g _)=wl b u (aK s g fun x=>{ x with aq:=l }) (dQ u (aK s g fun x=>{ x with aq:=l })) ((aK s g fun x=>{ x with aq:=l }).gs.map fun x=>(x.status,x.token)) (eE u (aK s g fun x=>{ x with aq:=l }));rw [e1,e2,e3];rfl
theorem LY (b:Nat) (u:U) {s:ah} {g:Nat} (hg:g < s.gs.length) (l:List Int) (i:Nat) (x:Int):jB (wd b u s) (g + 12) (.row (u.sg g) 3 1 ((aF l).set i [nI x])) (wd b u (aK s g fun y=>{ y with aq:=l.set i x })):=⟨by
 rw [← V0 b u hg,show (aF l).set i [nI x]=aF (l.set i x) by unfold aF;rw [List.map_set]]⟩
theorem V1 {l:List Int} (h:∀ x∈l,-1≤x):l.any (fun x=>x != -1)=jT l:=by
 unfold jT
 induction l with
 | nil=>rfl
 | cons x l ih =>
  have:=h x (by simp);rw [List.any_cons,List.any_cons,ih fun y hy=>h y (by simp [hy])]
  congr 1
  by_cases e:x=-1
  ·subst e;rfl
  ·rw [show (x != -1)=true by simpa using e,decide_eq_true (by omega)]
theorem V2 (b:Nat) (u:U) (s:ah) (g kk:Nat) (hg:g < s.gs.length) (k0:1≤(aa s g).k) (k1:(aa s g).k≤(aa s g).aB.length) (hl:(aa s g).aB.length≤1000) (hc:ax (aa s g).aB ((aa s g).k - 1)=(kk:Int) + 1) (hk:kk < s.av.length) (h8:kk < 8) (ho:(cn s ((kk:Int) + 1)).lock=g) (sl:(aa s g).aq.length≤1000) (sm:∀ x∈(aa s g).aq,-1≤x) (S:ah)
  (hS:S=if (Sx.ck s g).2=true then (Sx.ck s g).1 else if (aa s g).res.code=0 then Sx.aS (Sx.ck s g).1 g 13 else if jT (aa s g).aq=true then Sx.aS (Sx.ck s g).1 g 34 else Sx.au (Sx.ck s g).1 g) :
  an prog 86 [.c (.v (pt b)),.c (nI g)] (wd b u s) (fun _:Unit=>(.bp [],wd b u S)):=by
 have C1:=LL b u s g kk hg k0 k1 hl hc hk h8 ho;have e2:(Sx.ck s g).2=!(decide ((aa s g).k - 1≤0)):=by
  unfold Sx.ck;dsimp only
  by_cases z:(aa s g).k - 1≤0
  ·rw [decide_eq_true z,decide_eq_false (by omega)];rfl
  ·rw [decide_eq_false z,decide_eq_true (by omega)];rfl
 have gF:aa (Sx.ck s g).1 g={ aa s g with k:=(aa s g).k - 1 }:=JI hg;rw [e2] at hS;generalize (Sx.ck s g).1=F at C1 gF hS;generalize decide ((aa s g).k - 1≤0)=q at C1 hS;have pH:g < F.gs.length:=by
  false_or_by_contra
  rename_i z;have:aa F g=clean [] 0:=by unfold aa;rw [List.getD_eq_getElem?_getD,List.getElem?_eq_none (by omega)];rfl
  rw [this] at gF;have:=congrArg (fun x:Gr=>x.aB.length) gF;simp only [clean,List.length_nil] at this;omega
 refine an.intro func86 rfl rfl rfl (fun ok e=>?_)
 cases q with
 | false =>
  rw [if_pos (show (!false)=true from rfl)] at hS;subst hS
  repeat (first | (refine K.call ?_;refine JO.ld (Ld.aY (C1) (qb rfl) rfl (by (exact aJ.cons .refl (.cons .refl .nil)))) rfl ?_;intro _) | refine gn ?_)
  (exact J.bN func86 rfl .nil () (by exact .refl) rfl)
 | true =>
 rw [if_neg (by simp)] at hS;haveI:Sx.bJ g F:=⟨pH⟩
 haveI:Sx.dB F g { aa s g with k:=(aa s g).k - 1 }:=⟨gF⟩
 cases c0:((aa s g).res.code == 0) with
 | true =>
  rw [if_pos (by simpa using c0)] at hS;subst hS
  repeat (first | (refine K.load ?_;((refine jq rfl rfl rfl (Qt.aL rfl (aN) (by exact rfl)) ?_))) | (refine K.store ?_;((refine JO.ld (Ld.bL rfl rfl (by exact rfl) aN) rfl (fun _=>?_)));refine JO.cH b g (fun x=>{ x with place:=13 }) (by exact rfl) ?_) | (refine K.indexAddr ?_;refine jq rfl rfl rfl (Qt.aI rfl rfl cL cM) ?_) | (refine K.call ?_;refine JO.ld (Ld.aY (C1) (qb rfl) rfl (by (exact aJ.cons .refl (.cons .refl .nil)))) rfl ?_;intro _) | refine gn ?_)
  (exact J.iV func86 rfl .nil () (by exact .refl) rfl)
 | false =>
 rw [if_neg (by simpa using c0)] at hS;have es:(aa F g).aq=(aa s g).aq:=by rw [gF]
 have CC:=VF (u.sg g) (aa s g).aq sl;rw [V1 sm] at CC;have CW:an prog 152 [.c (.v (u.sg g)),.c (.v (Cj 151))] (wd b u F) (fun _:Unit=>(.c (bI (jT (aa s g).aq)),wd b u F)):=by
  have hj:(wd b u F)[g + 12]?=some (.row (u.sg g) 3 1 (aF (aa s g).aq)):=by rw [← es];exact vT (u:=u) pH
  exact an.at_ (g + 12) hj CC fun _=>(nC hj).symm
 cases sg:jT (aa s g).aq with
 | true =>
  rw [sg] at CW;rw [if_pos sg] at hS;subst hS
  repeat (first | (refine K.load ?_;((refine jq rfl rfl rfl (Qt.aL rfl (aN) (by exact rfl)) ?_))) | (refine K.store ?_;((refine JO.ld (Ld.bL rfl rfl (by exact rfl) aN) rfl (fun _=>?_)));refine JO.cH b g (fun x=>{ x with place:=34 }) (by exact rfl) ?_) | (refine K.indexAddr ?_;refine jq rfl rfl rfl (Qt.aI rfl rfl cL cM) ?_) | (refine K.call ?_;first | (refine JO.ld (Ld.aY (C1) (qb rfl) rfl (by (exact aJ.cons .refl (.cons .refl .nil)))) rfl ?_;intro _) | (refine JO.ld (Ld.aY (CW) (qb rfl) rfl (by (exact aJ.cons .refl (.cons .refl .nil)))) rfl ?_;intro _)) | refine gn ?_)
  (exact J.iV func86 rfl .nil () (by exact .refl) rfl)
 | false =>
  rw [sg] at CW;rw [if_neg (by rw [sg];simp)] at hS;have CL:=LH b u F g pH;have eS:S=aK F g fun x=>{ x with place:=if 0 < (aa F g).au.length then 17 else 18 }:=by
   rw [hS];unfold Sx.au Sx.aS aK;split <;> rfl
  rw [eS]
  repeat (first | (refine K.load ?_;((refine jq rfl rfl rfl (Qt.aL rfl (aN) (by exact rfl)) ?_))) | (refine K.store ?_;((refine JO.ld (Ld.bL rfl rfl (by exact rfl) aN) rfl (fun _=>?_)));refine JO.cH b g (fun x=>{ x with place:=if 0 < (aa F g).au.length then 17 else 18 }) (by exact rfl) ?_) | (refine K.indexAddr ?_;refine jq rfl rfl rfl (Qt.aI rfl rfl cL cM) ?_) | (refine K.call ?_;first | (refine JO.ld (Ld.aY (C1) (qb rfl) rfl (by (exact aJ.cons .refl (.cons .refl .nil)))) rfl ?_;intro _) | (first | (refine JO.ld (Ld.aY CW (qb rfl) rfl (.cons .refl (.cons .refl .nil))) rfl ?_;intro _) | (refine JO.ld (Ld.aY CL (qb rfl) rfl (.cons .refl (.cons .refl .nil))) rfl ?_;intro _))) | refine gn ?_)
  (exact J.iV func86 rfl .nil () (by exact .refl) rfl)
theorem JO.YQ {P:Program} {c:Cx} {ops:Array Oper} {l:List Oper} {k:List Item} {f:Fm} {L:List aj} {I I2:Item} {ι:Type} (f':ι→Fm) (L':ι→List aj) (rest:∀ x,J P c k (f' x) (L' x)) (h:∀ K,(∀ x,J P c K (f' x) (L' x))→JO P c ops l (I :: I2 :: K) f L):JO P c ops l (I :: I2 :: k) f L:=h k rest
theorem V3 (b:Nat) (u:U) (s:ah) (g:Nat) (hg:g < s.gs.length) (h0:0≤(aa s g).param) (h1:(aa s g).param < s.aA.length) :
  an prog 87 [.c (.v (pt b)),.c (nI g)] (wd b u s) (fun _:Unit=>(.bp [],wd b u (Sx.kj s g))):=by
 haveI:Sx.bJ g s:=⟨hg⟩
 haveI:Sx.gQ (aa s g).param s:=⟨h0,h1⟩
 have er:∀ r:Md.aj,ai s g { aa s g with res:=r,param:=-1,k:=0,place:=31 }=aK (aK (aK (aK s g fun x=>{ x with res:=r }) g fun x=>{ x with param:=-1 }) g fun x=>{ x with k:=0 }) g fun x=>{ x with place:=31 }:=fun r=>by
  rw [gR Sx.bJ.h,gR Sx.bJ.h,gR hg];rfl
 refine an.intro func87 rfl rfl rfl (fun ok e=>?_);unfold Sx.kj;dsimp only;rw [er];obtain ⟨d,hd⟩:∃ d,su s (aa s g).param=d:=⟨_,rfl⟩
 rw [hd];haveI:Sx.jJ s (aa s g).param d:=⟨hd⟩
 obtain ⟨dl,dg,dc,pF,LZ,dv,dd⟩:=d;simp only;generalize hr:(if LZ=true∧dd=true then { (if dd=true then { eB dv true with cs:=pF } else { eB 0 false with cs:=pF }:Md.aj) with v:=0 } else if LZ=true then ⟨3,pF,0,false,0⟩ else (if dd=true then { eB dv true with cs:=pF } else { eB 0 false with cs:=pF }:Md.aj):Md.aj)=r
 repeat (first | (refine K.indexAddr ?_;refine jq rfl rfl rfl (Qt.aI rfl rfl cL cM) ?_) | refine gn ?_)
 refine J.draw (by kernel_rfl) rfl ?_;refine JW.base (some 11) ?_;refine tk 0 ?_;refine tk 1 ?_;refine tk 2 ?_;refine tk 3 ?_;refine tk 4 ?_;refine tk 5 ?_;refine tk 6 ?_;refine JD.take 7 rfl rfl (by kernel_rfl) rfl (qb rfl) (Qt.aL rfl aN rfl) rfl ?_;refine JD.take 8 rfl rfl (by kernel_rfl) rfl (qb rfl) (Qt.aI rfl rfl (mF (s:=s)) mG) rfl ?_;refine JD.take 9 rfl rfl (by kernel_rfl) rfl (qb rfl) (Qt.C8 rfl oq rfl) rfl ?_;refine jl 10 rfl rfl rfl rfl (Ld.alloc (qb rfl)) .none (fun _=>?_);refine jt 11 rfl rfl (Ld.bq rfl rfl rfl (by exact rfl) (by exact rfl)) (fun _=>?_);refine bR ?_
 repeat (first | (refine K.store ?_;refine JO.ld (Ld.bq rfl rfl rfl (by exact rfl) (by exact rfl)) rfl (fun _=>?_)) | refine ay ?_ | intro _)
 rename_i b5 _ b6 _;refine JO.YQ (ι:=Unit) (fun _=>[(6,.c (.v (pt b6))),(4,.ow u.vG 25 g 0),(0,.c (.v (pt b))),(1,.c (nI g))]) (fun _=>.box b6 45 (qZ r) :: .box b5 52 [bI dl,nI dg,nI dc,nI pF,bI LZ,nI dv,bI dd] :: wd b u s) (fun _=>?_) (fun KK rest=>?_)
 ·repeat (first | (refine K.store ?_;first | (first | refine JO.ld (Ld.bL rfl rfl (by exact rfl) aN) rfl (fun _=>?_) | refine JO.ld (Ld.tO rfl rfl rfl (by exact rfl) (by exact rfl) aN) rfl (fun _=>?_));refine JO.cH b g (fun x=>{ x with res:=r }) (by exact rfl) ?_ | ((refine JO.ld (Ld.bL rfl rfl (by exact rfl) aN) rfl (fun _=>?_)));refine JO.cH b g (fun x=>{ x with param:=-1 }) (by exact rfl) ?_ | ((refine JO.ld (Ld.bL rfl rfl (by exact rfl) aN) rfl (fun _=>?_)));refine JO.cH b g (fun x=>{ x with k:=0 }) (by exact rfl) ?_ | ((refine JO.ld (Ld.bL rfl rfl (by exact rfl) aN) rfl (fun _=>?_)));refine JO.cH b g (fun x=>{ x with place:=31 }) (by exact rfl) ?_) | refine gn ?_)
  (exact J.jF [_,_] rfl func87 rfl .nil () (by exact .refl) rfl)
 ·subst hr
  cases dd with
  | true =>
   cases LZ with
   | true =>
    repeat (first | (refine K.store ?_;refine JO.ld (Ld.cY rfl rfl (by exact rfl)) rfl (fun _=>?_)) | refine gn ?_)
    exact (rest ()).aW ⟨rfl,rfl,rfl,rfl,trivial⟩
   | false =>
    repeat (refine gn ?_)
    refine J.draw (by kernel_rfl) rfl ?_;refine JW.sv none (.tmp 6) rfl ?_;refine tk 0 ?_;refine tk 1 ?_;refine tk 2 ?_;refine JD.gU (i:=3) (by kernel_rfl) ?_
    (refine JS.st rfl rfl rfl (Ld.cY rfl rfl (by exact rfl)) (.lA rfl) (fun _=>?_))
    refine tk 4 ?_;refine JD.gU (i:=5) (by kernel_rfl) ?_
    (refine JS.st rfl rfl rfl (Ld.cY rfl rfl (by exact rfl)) (.lA rfl) (fun _=>?_))
    refine bE ?_
    all_goals
     repeat ((refine J.inBlock ?_))
     exact (rest ()).aW ⟨rfl,rfl,rfl,rfl,trivial⟩
  | false =>
   cases LZ
   all_goals
    repeat (first | (refine K.store ?_;refine JO.ld (Ld.cY rfl rfl (by exact rfl)) rfl (fun _=>?_)) | refine gn ?_)
    exact (rest ()).aW ⟨rfl,rfl,rfl,rfl,trivial⟩
theorem V4 (s:ah) (i:Int) (g:Nat):aa (aZ s i) g=aa s g:=by unfold aa;rw [Sx.fR]
theorem V5 (b:Nat) (u:U) (s:ah) (g:Nat) (hg:g < s.gs.length) (Q:Qs s) (k0:0≤(aa s g).k) (k1:(aa s g).k < (aa s g).order.length) (ol:(aa s g).order.length≤1000) (i0:0≤ax (aa s g).order (aa s g).k) (i1:ax (aa s g).order (aa s g).k < (aa s g).aq.length) :
  an prog 88 [.c (.v (pt b)),.c (nI g)] (wd b u s) (fun _:Unit=>(.bp [],wd b u (iU s g))):=by
 haveI:Sx.bJ g s:=⟨hg⟩
 haveI:=zL b u hg;have CH:=uP b u s g hg k0 k1;have w2:IntKind.i64.wrap ((aa s g).k + 1)=(aa s g).k + 1:=dJ (by omega) (by omega);unfold iU;dsimp only;generalize ax (aa s g).order (aa s g).k=i at i0 i1 CH ⊢;have AS:=at_atK i0 i1;have t1:decide (i < ((aF (aa s g).aq).length:Int))=true:=decide_eq_true (by rw [c7];exact i1);have i2:i < ((aF (aa s g).aq).length:Int):=by rw [c7];exact i1
 generalize ax (aa s g).aq i=d at AS ⊢;obtain ⟨w,WD⟩:=BC b u Q d;have gD:=V4 s d g;have Cl:g < (aZ s d).gs.length:=by rw [Vb];exact hg
 generalize aZ s d=S at WD gD Cl ⊢;haveI:Sx.bJ g S:=⟨Cl⟩
 haveI:Sx.dB S g (aa s g):=⟨gD⟩
 refine an.intro func88 rfl rfl rfl (fun ok e=>?_)
 repeat (first | (refine K.load ?_;((refine jq rfl rfl rfl (Qt.aL rfl (aN) (by exact rfl)) ?_))) | (refine K.indexAddr ?_;refine jq rfl rfl rfl (Qt.aI rfl rfl cL cM) ?_) | (refine K.call ?_;refine JO.ld (Ld.aY (CH) (qb rfl) rfl (by (exact aJ.cons .refl (.cons .refl .nil)))) rfl ?_;intro _) | refine gn ?_)
 refine J.draw (by kernel_rfl) rfl ?_;refine JW.base (some 11) ?_;refine JD.bz 0 rfl rfl (by kernel_rfl) rfl (qb rfl) (Qt.move rfl) rfl ?_;refine JD.bz 1 rfl rfl (by kernel_rfl) rfl (qb rfl) (Qt.nilCheck rfl rfl) rfl ?_;refine JD.bz 2 rfl rfl (by kernel_rfl) rfl (qb rfl) (Qt.fieldAddr rfl rfl) rfl ?_;refine tk 3 ?_;refine JD.bz 4 rfl rfl (by kernel_rfl) rfl (qb rfl) (Qt.move rfl) rfl ?_;refine JD.bz 5 rfl rfl (by kernel_rfl) rfl (qb rfl) (Qt.nilCheck rfl rfl) rfl ?_;refine JD.bz 6 rfl rfl (by kernel_rfl) rfl (qb rfl) (Qt.fieldAddr rfl rfl) rfl ?_;refine JD.bz 7 rfl rfl (by kernel_rfl) rfl (qb rfl) (Qt.aL rfl aN rfl) rfl ?_;refine JD.bz 8 rfl rfl (by kernel_rfl) rfl (qb rfl) (Qt.move rfl) rfl ?_;refine JD.bz 9 rfl rfl (by kernel_rfl) rfl (qb rfl) (Qt.aI rfl rfl i0 i2) rfl ?_;refine JD.take 10 rfl rfl (by kernel_rfl) rfl (qb rfl) (Qt.aL rfl AS rfl) rfl ?_;refine jt 11 rfl rfl (Ld.aY WD (qb rfl) rfl (.cons .refl (.cons .refl .nil))) (fun _=>?_);refine bR ?_
 repeat (first | (refine K.load ?_;refine jq rfl rfl rfl (Qt.aL rfl (aN) (by exact rfl)) ?_) | (refine K.store ?_;((refine JO.ld (Ld.bL rfl rfl (by exact rfl) aN) rfl (fun _=>?_)));refine JO.cH b g (fun x=>{ x with k:=(aa s g).k + 1 }) (by exact rfl) ?_) | (refine K.binOp ?_;refine jq rfl rfl rfl ((Qt.cJ rfl rfl rfl w2)) ?_) | refine gn ?_)
 by_cases c:(aa s g).k + 1 < (aa s g).order.length
 ·have c1:decide ((aa s g).k + 1 ≥ ((aa s g).order.length:Int))=false:=decide_eq_false (by omega);rw [if_pos c,uD Cl,gD,az];have e2:ai S g { aa s g with k:=(aa s g).k + 1 }=aK S g fun x=>{ x with k:=(aa s g).k + 1 }:=by unfold aK;rw [gD]
  rw [e2];refine J.draw (by kernel_rfl) rfl ?_;refine JW.base none ?_;refine tk 0 ?_;refine tk 1 ?_;refine tk 2 ?_;refine JD.take 3 rfl rfl (by kernel_rfl) rfl (qb rfl) (Qt.aL rfl aN rfl) rfl ?_;refine tk 4 ?_;refine tk 5 ?_;refine tk 6 ?_;refine JD.take 7 rfl rfl (by kernel_rfl) rfl (qb rfl) (Qt.aL rfl aN rfl) rfl ?_;refine tk 8 ?_;refine JD.take 9 rfl rfl (by kernel_rfl) rfl (qb rfl) (Qt.cmp rfl rfl (congrArg some c1)) rfl ?_;refine bE ?_
  repeat (refine gn ?_)
  (exact J.iV func88 rfl .nil () (by exact .refl) rfl)
 ·have c1:decide ((aa s g).k + 1 ≥ ((aa s g).order.length:Int))=true:=decide_eq_true (by omega);have CU:=uQ b u (aK S g fun x=>{ x with k:=(aa s g).k + 1 }) g 33 Sx.bJ.h;rw [if_neg c];have e2:Sx.unlock S g 33=Sx.unlock (aK S g fun x=>{ x with k:=(aa s g).k + 1 }) g 33:=by
   unfold aK;rw [rS Cl];rfl
  rw [e2];refine J.draw (by kernel_rfl) rfl ?_;refine JW.base none ?_;refine tk 0 ?_;refine tk 1 ?_;refine tk 2 ?_;refine JD.take 3 rfl rfl (by kernel_rfl) rfl (qb rfl) (Qt.aL rfl aN rfl) rfl ?_;refine tk 4 ?_;refine tk 5 ?_;refine tk 6 ?_;refine JD.take 7 rfl rfl (by kernel_rfl) rfl (qb rfl) (Qt.aL rfl aN rfl) rfl ?_;refine tk 8 ?_;refine JD.take 9 rfl rfl (by kernel_rfl) rfl (qb rfl) (Qt.cmp rfl rfl (congrArg some c1)) rfl ?_;refine bE ?_
  repeat (first | (refine K.call ?_;refine JO.ld (Ld.aY (CU) (qb rfl) rfl (by (exact aJ.cons .refl (.cons .refl (.cons .refl .nil))))) rfl ?_;intro _) | refine gn ?_)
  (exact J.iV func88 rfl .nil () (by exact .refl) rfl)
theorem V6 (b:Nat) (u:U) (s:ah) (g k:Nat) (o:Pn.Op) (hg:g < s.gs.length) (Q:Qs s) (h:zM s g k o) (i1:ax (aa s g).order (aa s g).k < (aa s g).aq.length)
  (m:0≤ax (aa s g).aq (ax (aa s g).order (aa s g).k)∧ax (aa s g).aq (ax (aa s g).order (aa s g).k) < s.aA.length∧∀ c,ax (aa s g).aq (ax (aa s g).order (aa s g).k)∉(cn s c).recv∧ax (aa s g).aq (ax (aa s g).order (aa s g).k)∉(cn s c).send) :
  an prog 85 [.c (.v (pt b)),.c (nI g),.agg (dH o)] (wd b u s) (fun _:Unit=>(.bp [],wd b u (iT s g o))):=by
 haveI:Sx.bJ g s:=⟨hg⟩
 haveI:=zL b u hg;obtain ⟨k0,k1,ol,i0,io,ci⟩:=h;have CH:=uP b u s g hg k0 k1;have AC:=at_case i0 io;have w2:IntKind.i64.wrap ((aa s g).k + 1)=(aa s g).k + 1:=dJ (by omega) (by omega);unfold iT;dsimp only;generalize ax (aa s g).order (aa s g).k=i at i0 i1 io m ci CH AC ⊢;have AS:=at_atK i0 i1;have i2:i < ((aF (aa s g).aq).length:Int):=by rw [c7];exact i1
 generalize ax (aa s g).aq i=d at m AS ⊢;obtain ⟨he,hk,h8,c0,bl⟩:=ci;have RC:=LF (aH o i).ch k he h8;have SC:=LG (aH o i).ch k he h8;have WR:=Sn b u Q hk d m.1 m.2.1 m.2.2;have WS:=Sm b u Q hk d m.1 m.2.1 m.2.2;rw [he];generalize aH o i=c at AC RC SC he ⊢;obtain ⟨zN,Ck,cv⟩:=c;simp only at he RC SC ⊢;have key:∀ (S:ah),S.gs=s.gs→S.step=s.step→(if (aa s g).k + 1 < (aa s g).order.length then Sx.next S g 29 else Sx.unlock (ai S g { aa s g with iy:=S.step }) g 30)=(if (aa s g).k + 1 < (aa s g).order.length then aK S g fun x=>{ x with k:=(aa s g).k + 1 } else Sx.unlock (aK (aK S g fun x=>{ x with k:=(aa s g).k + 1 }) g fun x=>{ x with iy:=S.step }) g 30):=fun S e1 e2=>by
  have gS:aa S g=aa s g:=by unfold aa;rw [e1]
  have hS:g < S.gs.length:=by rw [e1];exact hg
  split
  ·rw [uD hS,gS,az];unfold aK;rw [gS]
  ·rw [gR hS];unfold aK;rw [rS hS,rS hS,gS]
 obtain ⟨q,hq⟩:∃ q,(if zN=true then 2 * ((k:Int) + 1) - 1 else 2 * ((k:Int) + 1) - 2)=q:=⟨_,rfl⟩
 obtain ⟨S,hS⟩:∃ S,aE s ((k:Int) + 1) (if zN=true then { cn s ((k:Int) + 1) with send:=(cn s ((k:Int) + 1)).send ++ [d] } else { cn s ((k:Int) + 1) with recv:=(cn s ((k:Int) + 1)).recv ++ [d] })=S:=⟨_,rfl⟩
 have W:an prog 109 [.c (.v u.pQ),.c (nI q),.c (nI d)] (wd b u s) (fun _:Unit=>(.c (bI true),wd b u S)):=by
  subst hq hS
  cases zN
  ·exact WR
  ·exact WS
 have gS:aa S g=aa s g:=by rw [← hS];rfl
 have oA:g < S.gs.length:=by rw [← hS];exact hg
 rw [hS,key S (by rw [← hS];rfl) (by rw [← hS];rfl)];clear hS WR WS;haveI:Sx.bJ g S:=⟨oA⟩
 haveI:Sx.dB S g (aa s g):=⟨gS⟩
 have CU:=uQ b u (aK (aK S g fun x=>{ x with k:=(aa s g).k + 1 }) g fun x=>{ x with iy:=S.step }) g 30 Sx.bJ.h;refine an.intro func85 rfl rfl rfl (fun ok e=>?_)
 repeat (first | (refine K.indexAddr ?_;refine jq rfl rfl rfl (Qt.aI rfl rfl cL cM) ?_) | (refine K.call ?_;first | (refine JO.ld (Ld.aY (CH) (qb rfl) rfl (by (exact aJ.cons .refl (.cons .refl .nil)))) rfl ?_;intro _) | (refine JO.pure RC rfl (qb rfl) rfl (.cons .refl .nil) ?_)) | refine ay ?_ | intro _)
 rename_i b5 _;refine J.Ih (ι:=Unit) (fun _=>[(8,.c (nI q)),(7,.c (nI i)),(6,.ow u.vG 25 g 0),(0,.c (.v (pt b))),(1,.c (nI g))]) (fun _=>.box b5 50 (dH o) :: wd b u s) (fun _=>?_) (fun KK rest=>?_)
 ·repeat ((refine J.seq ?_))
  refine J.draw (by kernel_rfl) rfl ?_;refine JW.base (some 12) ?_;refine JD.bz 0 rfl rfl (by kernel_rfl) rfl (qb rfl) (Qt.move rfl) rfl ?_;refine JD.bz 1 rfl rfl (by kernel_rfl) rfl (qb rfl) (Qt.nilCheck rfl rfl) rfl ?_;refine JD.bz 2 rfl rfl (by kernel_rfl) rfl (qb rfl) (Qt.fieldAddr rfl rfl) rfl ?_;refine tk 3 ?_;refine tk 4 ?_;refine JD.bz 5 rfl rfl (by kernel_rfl) rfl (qb rfl) (Qt.move rfl) rfl ?_;refine JD.bz 6 rfl rfl (by kernel_rfl) rfl (qb rfl) (Qt.nilCheck rfl rfl) rfl ?_;refine JD.bz 7 rfl rfl (by kernel_rfl) rfl (qb rfl) (Qt.fieldAddr rfl rfl) rfl ?_;refine JD.bz 8 rfl rfl (by kernel_rfl) rfl (qb rfl) (Qt.aL rfl aN rfl) rfl ?_;refine JD.bz 9 rfl rfl (by kernel_rfl) rfl (qb rfl) (Qt.move rfl) rfl ?_;refine JD.bz 10 rfl rfl (by kernel_rfl) rfl (qb rfl) (Qt.aI rfl rfl i0 i2) rfl ?_;refine JD.take 11 rfl rfl (by kernel_rfl) rfl (qb rfl) (Qt.aL rfl AS rfl) rfl ?_;refine jt 12 rfl rfl (Ld.aY W (qb rfl) rfl (.cons .refl (.cons .refl (.cons .refl .nil)))) (fun _=>?_);refine bR ?_
  repeat (first | (refine K.load ?_;refine jq rfl rfl rfl (Qt.aL rfl (aN) (by exact rfl)) ?_) | (refine K.store ?_;((refine JO.ld (Ld.bL rfl rfl (by exact rfl) aN) rfl (fun _=>?_)));refine JO.cH b g (fun x=>{ x with k:=(aa s g).k + 1 }) (by exact rfl) ?_) | (refine K.binOp ?_;refine jq rfl rfl rfl ((Qt.cJ rfl rfl rfl w2)) ?_) | refine gn ?_)
  by_cases c:(aa s g).k + 1 < (aa s g).order.length
  ·have c1:decide ((aa s g).k + 1 ≥ ((aa s g).order.length:Int))=false:=decide_eq_false (by omega);rw [if_pos c];refine J.draw (by kernel_rfl) rfl ?_;refine JW.base none ?_;refine tk 0 ?_;refine tk 1 ?_;refine tk 2 ?_;refine JD.take 3 rfl rfl (by kernel_rfl) rfl (qb rfl) (Qt.aL rfl aN rfl) rfl ?_;refine tk 4 ?_;refine tk 5 ?_;refine tk 6 ?_;refine JD.take 7 rfl rfl (by kernel_rfl) rfl (qb rfl) (Qt.aL rfl aN rfl) rfl ?_;refine tk 8 ?_;refine JD.take 9 rfl rfl (by kernel_rfl) rfl (qb rfl) (Qt.cmp rfl rfl (congrArg some c1)) rfl ?_;refine bE ?_
   repeat (refine gn ?_)
   (exact J.jF [_] rfl func85 rfl .nil () (by exact .refl) rfl)
  ·have c1:decide ((aa s g).k + 1 ≥ ((aa s g).order.length:Int))=true:=decide_eq_true (by omega);rw [if_neg c];refine J.draw (by kernel_rfl) rfl ?_;refine JW.base none ?_;refine tk 0 ?_;refine tk 1 ?_;refine tk 2 ?_;refine JD.take 3 rfl rfl (by kernel_rfl) rfl (qb rfl) (Qt.aL rfl aN rfl) rfl ?_;refine tk 4 ?_;refine tk 5 ?_;refine tk 6 ?_;refine JD.take 7 rfl rfl (by kernel_rfl) rfl (qb rfl) (Qt.aL rfl aN rfl) rfl ?_;refine tk 8 ?_;refine JD.take 9 rfl rfl (by kernel_rfl) rfl (qb rfl) (Qt.cmp rfl rfl (congrArg some c1)) rfl ?_;refine bE ?_
   repeat (first | (refine K.store ?_;((refine JO.ld (Ld.bL rfl rfl (by exact rfl) aN) rfl (fun _=>?_)));refine JO.cH b g (fun x=>{ x with iy:=S.step }) (by exact rfl) ?_) | (refine K.call ?_;refine JO.ld (Ld.aY (CU) (qb rfl) rfl (by (exact aJ.cons .refl (.cons .refl (.cons .refl .nil))))) rfl ?_;intro _) | refine gn ?_)
   (exact J.jF [_] rfl func85 rfl .nil () (by exact .refl) rfl)
 ·subst hq
  cases zN with
  | true =>
   repeat (first | (refine K.call ?_;refine JO.pure SC rfl (qb rfl) rfl (.cons .refl .nil) ?_) | refine gn ?_)
   exact (rest ()).aW ⟨rfl,rfl,rfl,rfl,rfl,trivial⟩
  | false =>
   repeat (refine gn ?_)
   exact (rest ()).aW ⟨rfl,rfl,rfl,rfl,rfl,trivial⟩
theorem V7 (b:Nat) (u:U) (s:ah) (g k:Nat) (o:Pn.Op) (hg:g < s.gs.length) (h:zM s g k o) (i1:ax (aa s g).order (aa s g).k < (aa s g).aq.length) (hu:bY u s) (h0:0≤s.fresh) (hc:g < s.cache.length) (hs:(bn s g).2.2=true→0≤(bn s g).2.1∧(bn s g).2.1 < s.aA.length) :
  an prog 84 [.c (.v (pt b)),.c (nI g),.agg (dH o)] (wd b u s) (fun x:{ u':U // bY u' (aA s g o) }=>(.bp [],wd b x.1 (aA s g o))):=by
 haveI:Sx.bJ g s:=⟨hg⟩
 obtain ⟨k0,k1,ol,i0,io,ci⟩:=h;have AC:=at_case i0 io;have w2:IntKind.i64.wrap ((aa s g).k + 1)=(aa s g).k + 1:=dJ (by omega) (by omega);have CT:=Vf b u s hu h0 hc;have hv:=fun T=>Vd (T:=T) hu h0 hc
 have gF:aa (bn s g).1 g=aa s g:=Sx.dB.h;have lF:(bn s g).1.aA.length=s.aA.length:=by rw [Sx.qp.2.1]
 have pH:g < (bn s g).1.gs.length:=Sx.bJ.h;have er:aA s g o=if (bn s g).2.2=true then Sx.next (ai (aV (bn s g).1 (bn s g).2.1 ⟨true,g,(aH o (ax (aa s g).order (aa s g).k)).ch,ax (aa s g).order (aa s g).k,(aH o (ax (aa s g).order (aa s g).k)).send,(aH o (ax (aa s g).order (aa s g).k)).v,false⟩) g { aa s g with aq:=(aa s g).aq.set (ax (aa s g).order (aa s g).k).toNat (bn s g).2.1 }) g 29 else Sx.unlock (ai (bn s g).1 g { aa s g with res:={ (aa s g).res with code:=6 } }) g 30:=rfl
 have CH:=fun v (F:ah) (hF:g < F.gs.length) (e:aa F g=aa s g)=>uP b v F g hF (by rw [e];exact k0) (by rw [e];exact k1)
 generalize hi:ax (aa s g).order (aa s g).k=i at i0 i1 io ci AC er;generalize bn s g=r at CT hv gF lF pH hs er;obtain ⟨F,x,V8⟩:=r;simp only at CT hv gF lF pH hs er;generalize aA s g o=S at er ⊢;haveI:Sx.bJ g F:=⟨pH⟩
 haveI:Sx.dB F g (aa s g):=⟨gF⟩
 refine an.intro func84 rfl rfl rfl (fun ok e=>?_)
 cases V8 with
 | false =>
  rw [if_neg (by simp)] at er;have e2:S=Sx.unlock (aK F g fun x=>{ x with res:={ x.res with code:=6 } }) g 30:=by rw [er];unfold aK;rw [gF]
  repeat (first | (refine K.store ?_;((refine JO.ld (Ld.bL rfl rfl (by exact rfl) aN) rfl (fun _=>?_)));refine JO.cH b g (fun x=>{ x with res:={ x.res with code:=6 } }) (by exact rfl) ?_) | (refine K.indexAddr ?_;refine jq rfl rfl rfl (Qt.aI rfl rfl cL cM) ?_) | (refine K.call ?_;refine JO.ld (Ld.aY CT (qb rfl) rfl (.cons .refl (.cons .refl .nil))) rfl ?_;intro T) | refine ay ?_ | intro _)
  have CU:=uQ b (lP u s g T) (aK F g fun x=>{ x with res:={ x.res with code:=6 } }) g 30 Sx.bJ.h;have kW:bY (lP u s g T) S:=by rw [e2];exact (hv T).to
  rw [e2] at kW ⊢
  repeat  ((refine K.call ?_;(refine JO.ld (Ld.aY (CU) (qb rfl) rfl (by (exact aJ.cons .refl (.cons .refl (.cons .refl .nil))))) rfl ?_;intro _)))
  repeat ((refine JO.nil ?_))
  (exact J.fC [_] rfl func84 rfl .nil ⟨lP u s g T,kW⟩ (by exact .refl) rfl)
 | true =>
  rw [if_pos rfl] at er;obtain ⟨x0,x1⟩:=hs rfl;haveI:Sx.gQ x F:=⟨x0,by rw [lF];exact x1⟩
  have i2:i < ((aF (aa s g).aq).length:Int):=by rw [c7];exact i1
  have Gb:i.toNat < (aF (aa s g).aq).length:=by omega
  have HQ:x.toNat < (F.aA.map eS).length:=by rw [List.length_map,lF];omega
  repeat (first | (refine K.indexAddr ?_;refine jq rfl rfl rfl (Qt.aI rfl rfl cL cM) ?_) | (refine K.call ?_;refine JO.ld (Ld.aY CT (qb rfl) rfl (.cons .refl (.cons .refl .nil))) rfl ?_;intro T) | refine ay ?_ | intro _)
  have L3:=hv T;have CH:=CH (lP u s g T) F pH gF;have R1:=zL b (lP u s g T) pH;have T1:=LY b (lP u s g T) pH (aa F g).aq i.toNat x;rw [gF] at CH R1 T1;rw [hi] at CH;have L4:aa (aV F x ⟨true,g,(aH o i).ch,i,(aH o i).send,(aH o i).v,false⟩) g=aa s g:=gF;have Cm:g < (aV F x ⟨true,g,(aH o i).ch,i,(aH o i).send,(aH o i).v,false⟩).gs.length:=pH
  repeat (first | (refine K.call ?_;refine JO.ld (Ld.aY CH (qb rfl) rfl (.cons .refl (.cons .refl .nil))) rfl ?_;intro _) | refine oJ ?_)
  repeat (first | (refine K.load ?_;((refine jq rfl rfl rfl (Qt.aL rfl (aN) (by exact rfl)) ?_))) | (refine K.store ?_;(refine JO.ld (Ld.eK rfl rfl rfl rfl Gb) rfl (fun _=>?_))) | (refine K.indexAddr ?_;refine jq rfl rfl rfl (Qt.aI rfl rfl i0 i2) ?_) | refine ay ?_ | intro _)
  refine J.draw (by kernel_rfl) rfl ?_;refine JW.base (some 15) ?_;refine tk 0 ?_;refine tk 1 ?_;refine tk 2 ?_;refine tk 3 ?_;refine tk 4 ?_;refine tk 5 ?_;refine tk 6 ?_;refine tk 7 ?_;refine tk 8 ?_;refine tk 9 ?_;refine tk 10 ?_;refine tk 11 ?_;refine tk 12 ?_;refine tk 13 ?_;refine JD.take 14 rfl rfl (by kernel_rfl) rfl (qb rfl) (Qt.aI rfl rfl (mF (s:=F)) (mG (s:=F))) rfl ?_;refine jt 15 rfl rfl (Ld.eK rfl rfl rfl rfl HQ) (fun _=>?_);refine bR ?_;refine J.wG b x ⟨true,g,(aH o i).ch,i,(aH o i).send,(aH o i).v,false⟩ (by exact rfl) ?_
  repeat (first | (refine K.load ?_;refine jq rfl rfl rfl (Qt.aL rfl (aN) (by exact rfl)) ?_) | (refine K.store ?_;((refine JO.ld (Ld.bL rfl rfl (by exact rfl) aN) rfl (fun _=>?_)));refine JO.cH b g (fun x=>{ x with k:=(aa s g).k + 1 }) (by exact rfl) ?_) | (refine K.binOp ?_;refine jq rfl rfl rfl ((Qt.cJ rfl rfl rfl w2)) ?_) | refine gn ?_)
  by_cases c:(aa s g).k + 1=(aa s g).order.length
  ·have c1:decide ((aa s g).k + 1 ≥ ((aa s g).order.length:Int))=true:=decide_eq_true (by omega);have e2:S=aK (aK (aK (aV (aK F g fun y=>{ y with aq:=(aa s g).aq.set i.toNat x }) x ⟨true,g,(aH o i).ch,i,(aH o i).send,(aH o i).v,false⟩) g fun x=>{ x with k:=(aa s g).k + 1 }) g fun x=>{ x with k:=0 }) g fun x=>{ x with place:=29 }:=by
    rw [er,oZ Cm,if_pos c]
    show _=aK (aK (aK (aK (aV F x ⟨true,g,(aH o i).ch,i,(aH o i).send,(aH o i).v,false⟩) g fun y=>{ y with aq:=(aa s g).aq.set i.toNat x }) g fun x=>{ x with k:=(aa s g).k + 1 }) g fun x=>{ x with k:=0 }) g fun x=>{ x with place:=29 }
    rw [gR Sx.bJ.h,gR Sx.bJ.h,gR Cm];unfold aK;rw [L4]
   have kW:bY (lP u s g T) S:=by rw [e2];exact L3.to
   rw [e2] at kW ⊢;refine J.draw (by kernel_rfl) rfl ?_;refine JW.base none ?_;refine tk 0 ?_;refine tk 1 ?_;refine tk 2 ?_;refine JD.take 3 rfl rfl (by kernel_rfl) rfl (qb rfl) (Qt.aL rfl aN rfl) rfl ?_;refine tk 4 ?_;refine tk 5 ?_;refine tk 6 ?_;refine JD.take 7 rfl rfl (by kernel_rfl) rfl (qb rfl) (Qt.aL rfl aN rfl) rfl ?_;refine tk 8 ?_;refine JD.take 9 rfl rfl (by kernel_rfl) rfl (qb rfl) (Qt.cmp rfl rfl (congrArg some c1)) rfl ?_;refine bE ?_
   repeat (first | (refine K.store ?_;first | ((refine JO.ld (Ld.bL rfl rfl (by exact rfl) aN) rfl (fun _=>?_)));refine JO.cH b g (fun x=>{ x with k:=0 }) (by exact rfl) ?_ | ((refine JO.ld (Ld.bL rfl rfl (by exact rfl) aN) rfl (fun _=>?_)));refine JO.cH b g (fun x=>{ x with place:=29 }) (by exact rfl) ?_) | refine gn ?_)
   (exact J.jF [_,_] rfl func84 rfl .nil ⟨lP u s g T,kW⟩ (by exact .refl) rfl)
  ·have c1:decide ((aa s g).k + 1 ≥ ((aa s g).order.length:Int))=false:=decide_eq_false (by omega);have e2:S=aK (aV (aK F g fun y=>{ y with aq:=(aa s g).aq.set i.toNat x }) x ⟨true,g,(aH o i).ch,i,(aH o i).send,(aH o i).v,false⟩) g fun x=>{ x with k:=(aa s g).k + 1 }:=by
    rw [er,oZ Cm,if_neg c]
    show _=aK (aK (aV F x ⟨true,g,(aH o i).ch,i,(aH o i).send,(aH o i).v,false⟩) g fun y=>{ y with aq:=(aa s g).aq.set i.toNat x }) g fun x=>{ x with k:=(aa s g).k + 1 }
    rw [gR Cm];unfold aK;rw [L4]
   have kW:bY (lP u s g T) S:=by rw [e2];exact L3.to
   rw [e2] at kW ⊢;refine J.draw (by kernel_rfl) rfl ?_;refine JW.base none ?_;refine tk 0 ?_;refine tk 1 ?_;refine tk 2 ?_;refine JD.take 3 rfl rfl (by kernel_rfl) rfl (qb rfl) (Qt.aL rfl aN rfl) rfl ?_;refine tk 4 ?_;refine tk 5 ?_;refine tk 6 ?_;refine JD.take 7 rfl rfl (by kernel_rfl) rfl (qb rfl) (Qt.aL rfl aN rfl) rfl ?_;refine tk 8 ?_;refine JD.take 9 rfl rfl (by kernel_rfl) rfl (qb rfl) (Qt.cmp rfl rfl (congrArg some c1)) rfl ?_;refine bE ?_
   repeat (refine gn ?_)
   (exact J.jF [_,_] rfl func84 rfl .nil ⟨lP u s g T,kW⟩ (by exact .refl) rfl)
theorem V9 (b:Nat) (u:U) {s:ah} {g:Nat} {x:Gr} {G:List (List A)} (hg:g < s.gs.length) [hx:Sx.dB s g x] (hG:G=(dQ u s).set g (gW x (.slice none 0 0) (u.wk g))):wd b (jw u g (.slice none 0 0)) (aK s g fun x=>{ x with aq:=[] })=(wl b u s G (s.gs.map fun x=>(x.status,x.token)) (eE u s)).set (g + 12) (.row (.slice none 0 0) 3 1 []):=by
 have ex:=hx.h;subst ex hG;have e1:dQ (jw u g (.slice none 0 0)) (aK s g fun x=>{ x with aq:=[] })=(dQ u s).set g (gW { aa s g with aq:=[] } (.slice none 0 0) (u.wk g)):=(AO (u:=u) (u':=jw u g (.slice none 0 0)) (x:={ aa s g with aq:=[] }) (v:=.slice none 0 0) (w:=u.wk g) hg ⟨if_pos rfl,rfl⟩ fun k hk=>⟨if_neg hk,rfl⟩).symm;have e2:(aK s g fun x=>{ x with aq:=[] }).gs.map (fun x=>(x.status,x.token))=s.gs.map fun x=>(x.status,x.token):=yD hg ⟨rfl,rfl⟩
 have e3:eE (jw u g (.slice none 0 0)) (aK s g fun x=>{ x with aq:=[] })=(eE u s).set g (.row (.slice none 0 0) 3 1 []):=(D9 (x:={ aa s g with aq:=[] }) (v:=.slice none 0 0) hg rfl).symm
 show wl b (jw u g (.slice none 0 0)) (aK s g fun x=>{ x with aq:=[] }) (dQ (jw u g (.slice none 0 0)) (aK s g fun x=>{ x with aq:=[] })) ((aK s g fun x=>{ x with aq:=[] }).gs.map fun x=>(x.status,x.token)) (eE (jw u g (.slice none 0 0)) (aK s g fun x=>{ x with aq:=[] }))=wl b u s _ _ ((eE u s).set g _);rw [e1,e2,e3];rfl
abbrev nF (u:U) (H:List Bool) (T:List Nat):U:={ u with H:=H,TP:=T }
def uR (s S:ah) (g:Nat) (i:Int):ah :=
 if (aa s g).k + 1=(aa s g).order.length then Sx.au (Sx.next (ai S g { aa s g with aq:=[] }) g 34) g else Sx.next (ai S g { aa s g with aq:=(aa s g).aq.set i.toNat (-1) }) g 34
end Fl
end Go.Proofs.YtdjhhbpedllnhaaGreat
