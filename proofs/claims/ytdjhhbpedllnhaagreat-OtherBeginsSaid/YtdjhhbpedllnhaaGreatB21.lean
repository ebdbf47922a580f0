/-
  What the laws need, part B21.
  Conditions: none.
-/
import Derived.Test.YtdjhhbpedllnhaaGreatB10
import Derived.Test.YtdjhhbpedllnhaaGreatB20
set_option linter.unusedVariables false
set_option linter.unusedSimpArgs false
set_option linter.unnecessarySimpa false
set_option maxHeartbeats 2000000
namespace Go.Proofs.YtdjhhbpedllnhaaGreat
open Go.RowKit
namespace Fl
open Sx Go.Proofs.Tryz
set_option maxRecDepth 100000
def bY (u:U) (s:ah):Prop:=Po.Inv s.dx.toNat s.bX.toNat (dV u s)
class cW (s' s:ah):Prop where h:s'.dx=s.dx∧s'.bX=s.bX∧s'.cache=s.cache∧s'.middle=s.middle∧s'.fresh=s.fresh
instance (priority:=low) cW.Lc {s:ah}:cW s s:=⟨rfl,rfl,rfl,rfl,rfl⟩
section
variable {s s':ah} {g:Nat} {f:Gr→Gr} {x:Gr} {i:Int} {d:Su} {c:Int} {n:Cn}
instance cW.Bw [h:cW s' s]:cW (aK s' g f) s:=⟨h.h⟩
instance cW.dR [h:cW s' s]:cW (ai s' g x) s:=⟨h.h⟩
instance cW.gI [h:cW s' s]:cW (aV s' i d) s:=⟨h.h⟩
instance cW.dS [h:cW s' s]:cW (aE s' c n) s:=⟨h.h⟩
instance cW.aS [h:cW s' s]:cW (Sx.aS s' g i) s:=⟨h.h⟩
instance cW.free [h:cW s' s]:cW (Sx.free s' c) s:=⟨h.h⟩
instance cW.gi [h:cW s' s]:cW (Sx.gi s' g) s:=⟨h.h⟩
instance cW.ready [h:cW s' s]:cW (Sx.ready s' g) s:=⟨h.h⟩
instance cW.pair [h:cW s' s]:cW (Sx.pair s' g i) s:=⟨h.h⟩
instance cW.serve {b:Bool} [h:cW s' s]:cW (Sx.serve s' g i b) s:=⟨h.h⟩
instance cW.au [h:cW s' s]:cW (Sx.au s' g) s:=⟨by unfold Sx.au;split <;> exact h.h⟩
instance cW.drop [h:cW s' s]:cW (aZ s' i) s:=⟨by unfold aZ;split <;> exact h.h⟩
instance cW.tryLock [h:cW s' s]:cW (Sx.tryLock s' g c).1 s:=⟨by unfold Sx.tryLock;split <;> exact h.h⟩
theorem bY.to {u:U} (h:bY u s) [e:cW s' s]:bY u s':=by
 obtain ⟨e1,e2,e3,e4,e5⟩:=e.h;unfold bY dV at h ⊢;rw [e1,e2,e3,e4,e5];exact h
theorem bY.wk {u:U} {v:Value} (h:bY u s):bY (j4 u g v) s:=h
end
section
variable {u:U} {s:ah}
theorem UH (v:bY u s) (h0:0≤s.fresh) (y:Int):Po.live (dV u s).f (dV u s).H y=gM s y:=by
 rw [v.live y];unfold gM;have e1:decide (y < ((dV u s).f:Int))=decide (y < s.fresh):=by
  show decide (y < ((s.fresh.toNat:Nat):Int))=_;rw [Int.toNat_of_nonneg h0]
 have e2:decide (Po.ei (dV u s) y=0)=!(tX s).contains y:=by
  have:Po.ei (dV u s) y=(tX s).count y:=by unfold tX Po.ei dV;rw [List.count_append]
  rw [this,Bool.eq_iff_iff];simp [List.count_eq_zero]
 rw [e1,e2]
theorem Le {g:Nat} (hg:g < s.cache.length):Po.lC (dV u s).C (g:Int)=true:=by
 unfold Po.lC dV;simp;exact hg
abbrev tj (u:U) (s:ah) (g:Nat) (y:Int) (T:List Nat):U:={ u with H:=(Po.cz s.bX.toNat (dV u s) g y).1.H,TP:=T }
theorem Lf (v:bY u s) (h0:0≤s.fresh) {g:Nat} (hg:g < s.cache.length) (y:Int) (T:List Nat):dV (tj u s g y T) (dO s g y)=(Po.cz s.bX.toNat (dV u s) g y).1:=by
 have h1:=UH v h0 y;have ht:=Le (u:=u) hg;have e:(Po.cz s.bX.toNat (dV u s) g y).1=if Po.live (dV u s).f (dV u s).H y then Po.qY s.bX.toNat (dV u s) g (s.cache.getD g []) y else dV u s:=by
  unfold Po.cz;rw [ht,Bool.true_and]
  split <;> rfl
 unfold tj;rw [e];unfold dO;rw [← h1]
 split <;> rfl
theorem Lg {g:Nat} {y:Int}:(dO s g y).dx=s.dx∧(dO s g y).bX=s.bX:=by unfold dO;split <;> exact ⟨rfl,rfl⟩
theorem Lh (v:bY u s) (h0:0≤s.fresh) {g:Nat} (hg:g < s.cache.length) (y:Int) (T:List Nat):bY (tj u s g y T) (dO s g y):=by
 unfold bY;rw [Lf v h0 hg y T,Lg.1,Lg.2];exact v.cz g y
theorem Lj (b:Nat) (v:bY u s) (h0:0≤s.fresh) {g:Nat} (hg:g < s.cache.length) (y:Int) (T:List Nat):wd b (tj u s g y T) (dO s g y)=(wd b u s).set 10 (aM (tP u.pP s.dx.toNat s.bX.toNat (Po.cz s.bX.toNat (dV u s) g y).1) T):=by
 rw [← Lf v h0 hg y T];unfold dO
 split <;> rfl
theorem UI {s:ah} {g:Nat} {y i:Int} {d:Su}:dO (aV s i d) g y=aV (dO s g y) i d:=by
 unfold dO;rw [show gM (aV s i d) y=gM s y from rfl]
 split <;> rfl
end
theorem UJ (b:Nat) (u:U) (s:ah) (v:bY u s) (h0:0≤s.fresh) {g:Nat} (hg:g < s.cache.length) (y:Int) :
  an prog 117 [.c (.v u.pP),.c (nI g),.c (nI y)] (wd b u s) (fun T:List Nat=>(.c (bI (Po.cz s.bX.toNat (dV u s) g y).2),wd b (tj u s g y T) (dO s g y))) :=
 an.at_ 10 rfl (Im u.pP s.dx.toNat s.bX.toNat (dV u s) u.TP g hg y v) fun T=>Lj b v h0 hg y T
theorem UK {b:Nat} {u:U} {s:ah} {g:Nat} (hg:g < s.gs.length):wd b u (Sx.ready s g)=(wd b u s).set 7 (aM (tB u.pB (Bc.AE (s.gs.map fun x=>(x.status,x.token)) g)) u.TB):=by
 have hm:Bc.mem (s.gs.map fun x=>(x.status,x.token)) (g:Int)=((aa s g).status,(aa s g).token):=by
  unfold Bc.mem;rw [Int.toNat_natCast,List.getD_eq_getElem?_getD,Bz s hg];rfl
 have hs:Bc.status (s.gs.map fun x=>(x.status,x.token)) (g:Int)=(aa s g).status:=Eb hg;unfold Sx.ready Bc.AE;rw [hs,hm,Int.toNat_natCast]
 by_cases c:(aa s g).status=1
 ·rw [if_pos c,if_pos c,wH b u s g { aa s g with status:=0 } hg rfl]
 ·rw [if_neg c,if_neg c]
  by_cases c0:(aa s g).status=0
  ·rw [if_pos c0,if_pos c0,wH b u s g { aa s g with token:=true } hg rfl,c0]
  ·rw [if_neg c0,if_neg c0,wH b u s g (aa s g) hg rfl,nC (Bz s hg)]
def locked (s:ah) (g:Nat) (ch:Int):ah:=if (Sx.tryLock s g ch).2=true then (if (ag s g).kind=6 then Sx.aS (Sx.tryLock s g ch).1 g 21 else Sx.aS (Sx.tryLock s g ch).1 g 5) else s
theorem UL (b:Nat) (u:U) (s:ah) (g k:Nat) (hg:g < s.gs.length) (hk:k < s.av.length) (h8:k < 8) (h0:0≤(aa s g).at_) (hc:(ag s g).cases.length≤1000) :
  an prog 114 [.c (.v (pt b)),.c (nI g),.c (nI ((k:Int) + 1 - 1))] (wd b u s) (fun _:Unit=>(.bp [],wd b u (locked s g ((k:Int) + 1)))):=by
 haveI:Sx.bJ g s:=⟨hg⟩
 have W:=J4 b u s k g hk h8
 by_cases hl:(cn s ((k:Int) + 1)).lock=-1
 ·have e1:Sx.tryLock s g ((k:Int) + 1)=(aE s ((k:Int) + 1) { cn s ((k:Int) + 1) with lock:=(g:Int) },true):=by unfold Sx.tryLock;rw [if_pos hl]
  rw [e1] at W;dsimp only at W;have O:=FH b u (aE s ((k:Int) + 1) { cn s ((k:Int) + 1) with lock:=(g:Int) }) g hg h0 hc;refine an.intro func114 rfl rfl rfl (fun ok e=>?_)
  cases Lk:((ag s g).kind == 6) with
  | true =>
   have ek:(ag s g).kind=6:=by simpa using Lk
   have er:locked s g ((k:Int) + 1)=Sx.aS (aE s ((k:Int) + 1) { cn s ((k:Int) + 1) with lock:=(g:Int) }) g 21:=by unfold locked;rw [e1,if_pos rfl,if_pos ek]
   rw [er]
   repeat (first | (refine K.store ?_;((refine JO.ld (Ld.bL rfl rfl (by exact rfl) aN) rfl (fun _=>?_)));refine JO.cH b g (fun x=>{ x with place:=21 }) (by exact rfl) ?_) | (refine K.indexAddr ?_;refine jq rfl rfl rfl (Qt.aI rfl rfl cL cM) ?_) | (refine K.call ?_;first | (refine JO.ld (Ld.aY (W) (qb rfl) rfl (by (exact aJ.cons .refl (.cons .refl (.cons .refl .nil))))) rfl ?_;intro _) | (refine JO.ld (Ld.aY (O) (qb rfl) rfl (by (exact aJ.cons .refl (.cons .refl .nil)))) rfl ?_;intro _)) | refine gn ?_)
   (exact J.iV func114 rfl .nil () (by exact .refl) rfl)
  | false =>
   have ek:¬ (ag s g).kind=6:=by simpa using Lk
   have er:locked s g ((k:Int) + 1)=Sx.aS (aE s ((k:Int) + 1) { cn s ((k:Int) + 1) with lock:=(g:Int) }) g 5:=by unfold locked;rw [e1,if_pos rfl,if_neg ek]
   rw [er]
   repeat (first | (refine K.store ?_;((refine JO.ld (Ld.bL rfl rfl (by exact rfl) aN) rfl (fun _=>?_)));refine JO.cH b g (fun x=>{ x with place:=5 }) (by exact rfl) ?_) | (refine K.indexAddr ?_;refine jq rfl rfl rfl (Qt.aI rfl rfl cL cM) ?_) | (refine K.call ?_;first | (refine JO.ld (Ld.aY (W) (qb rfl) rfl (by (exact aJ.cons .refl (.cons .refl (.cons .refl .nil))))) rfl ?_;intro _) | (refine JO.ld (Ld.aY (O) (qb rfl) rfl (by (exact aJ.cons .refl (.cons .refl .nil)))) rfl ?_;intro _)) | refine gn ?_)
   (exact J.iV func114 rfl .nil () (by exact .refl) rfl)
 ·have e1:Sx.tryLock s g ((k:Int) + 1)=(s,false):=by unfold Sx.tryLock;rw [if_neg hl]
  rw [e1] at W;dsimp only at W;have er:locked s g ((k:Int) + 1)=s:=by unfold locked;rw [e1,if_neg (by simp)]
  rw [er];refine an.intro func114 rfl rfl rfl (fun ok e=>?_)
  repeat (first | (refine K.call ?_;refine JO.ld (Ld.aY (W) (qb rfl) rfl (by (exact aJ.cons .refl (.cons .refl (.cons .refl .nil))))) rfl ?_;intro _) | refine gn ?_)
  (exact J.bN func114 rfl .nil () (by exact .refl) rfl)
structure uO (s:ah) (g:Nat):Prop where
 lt:g < s.gs.length
 dD:0≤(aa s g).at_
 oc:(ag s g).cases.length≤1000
 ch:0≤(ag s g).ch∧(ag s g).ch≤1000
 c8:s.av.length≤8
 fr:0≤s.fresh
 l4:(aa s g).place=4→aT s (ag s g).ch=true
 BF:(aa s g).place=12∨(aa s g).place=16→aT s (ag s g).ch=true∧(cn s (ag s g).ch).lock=g
 BH:(aa s g).place=15→g < s.cache.length∧0≤(aa s g).bh∧(aa s g).bh < s.aA.length
 BI:(aa s g).place=17→∃ (a:Nat) (l:List Int),(aa s g).au=(a:Int) :: l∧a < s.gs.length∧a≠g∧l.length≤1000
theorem UM (b:Nat) (u:U) (s:ah) (g:Nat) (h:uO s g) (hu:bY u s) :
  an prog 69 [.c (.v (pt b)),.c (nI g)] (wd b u s) (fun x:{ u':U // bY u' (common s g).1 }=>(.c (bI (common s g).2),wd b x.1 (common s g).1)):=by
 have hg:=h.lt;haveI:Sx.bJ g s:=⟨hg⟩
 have c8:=h.c8;have nJ:=h.ch;have O:=FH b u s g hg h.dD h.oc;have w1:IntKind.i64.wrap ((ag s g).ch - 1)=(ag s g).ch - 1:=dJ (by omega) (by omega);refine an.intro func69 rfl rfl rfl (fun ok e=>?_)
 cases p4:((aa s g).place == 4) with
 | true =>
  have e4:(aa s g).place=4:=by simpa using p4
  obtain ⟨k,hk,bF⟩:=qo (h.l4 e4);have er:common s g=(locked s g (ag s g).ch,true):=by unfold common locked;simp only [e4];simp;split <;> (try split) <;> rfl
  have C1:=UL b u s g k hg bF (by omega) h.dD h.oc;rw [← hk] at C1;have nE:bY u (locked s g (ag s g).ch):=by
   unfold locked;split
   ·split
    ·exact hu.to
    ·exact hu.to
   ·exact hu
  rw [er]
  repeat (first | (refine K.load ?_;((refine jq rfl rfl rfl (Qt.aL rfl (aN) (by exact rfl)) ?_))) | (refine K.indexAddr ?_;refine jq rfl rfl rfl (Qt.aI rfl rfl cL cM) ?_) | (refine K.binOp ?_;refine jq rfl rfl rfl ((Qt.cJ rfl rfl rfl w1)) ?_) | (refine K.call ?_;first | (refine JO.ld (Ld.aY (O) (qb rfl) rfl (by (exact aJ.cons .refl (.cons .refl .nil)))) rfl ?_;intro _) | (refine JO.ld (Ld.aY (C1) (qb rfl) rfl (by (exact aJ.cons .refl (.cons .refl (.cons .refl .nil))))) rfl ?_;intro _)) | refine gn ?_)
  (exact J.bN func69 rfl (.cons (.tmp rfl) .nil) ⟨u,nE⟩ (by exact .refl) rfl)
 | false =>
 have n4:¬ (aa s g).place=4:=by simpa using p4
 cases zg:((aa s g).place == 12) with
 | true =>
  have rM:(aa s g).place=12:=by simpa using zg
  obtain ⟨hm,hl⟩:=h.BF (.inl rM);obtain ⟨k,hk,bF⟩:=qo hm;have er:common s g=(Sx.aS (Sx.free s (ag s g).ch) g 13,true):=by unfold common;simp [rM]
  have C1:=E4 b u s k g bF (by omega) (by rw [← hk];exact hl);rw [← hk] at C1;rw [er]
  repeat (first | (refine K.load ?_;((refine jq rfl rfl rfl (Qt.aL rfl (aN) (by exact rfl)) ?_))) | (refine K.store ?_;((refine JO.ld (Ld.bL rfl rfl (by exact rfl) aN) rfl (fun _=>?_)));refine JO.cH b g (fun x=>{ x with place:=13 }) (by exact rfl) ?_) | (refine K.indexAddr ?_;refine jq rfl rfl rfl (Qt.aI rfl rfl cL cM) ?_) | (refine K.binOp ?_;refine jq rfl rfl rfl ((Qt.cJ rfl rfl rfl w1)) ?_) | (refine K.call ?_;first | (refine JO.ld (Ld.aY (O) (qb rfl) rfl (by (exact aJ.cons .refl (.cons .refl .nil)))) rfl ?_;intro _) | (refine JO.ld (Ld.aY (C1) (qb rfl) rfl (by (exact aJ.cons .refl (.cons .refl (.cons .refl .nil))))) rfl ?_;intro _)) | refine gn ?_)
  have nE:bY u (Sx.aS (Sx.free s (ag s g).ch) g 13):=hu.to
  (exact J.bN func69 rfl (.cons (.tmp rfl) .nil) ⟨u,nE⟩ (by exact .refl) rfl)
 | false =>
 have Fc:¬ (aa s g).place=12:=by simpa using zg
 cases zh:((aa s g).place == 13) with
 | true =>
  have oX:(aa s g).place=13:=by simpa using zh
  have er:common s g=(Sx.gi (Sx.aS s g 14) g,true):=by unfold common;simp [oX]
  have C1:=Sg b u (aK s g fun x=>{ x with place:=14 }) g (wD hg);rw [er]
  repeat (first | (refine K.load ?_;((refine jq rfl rfl rfl (Qt.aL rfl (aN) (by exact rfl)) ?_))) | (refine K.store ?_;((refine JO.ld (Ld.bL rfl rfl (by exact rfl) aN) rfl (fun _=>?_)));refine JO.cH b g (fun x=>{ x with place:=14 }) (by exact rfl) ?_) | (refine K.indexAddr ?_;refine jq rfl rfl rfl (Qt.aI rfl rfl cL cM) ?_) | (refine K.binOp ?_;refine jq rfl rfl rfl ((Qt.cJ rfl rfl rfl w1)) ?_) | (refine K.call ?_;first | (refine JO.ld (Ld.aY (O) (qb rfl) rfl (by (exact aJ.cons .refl (.cons .refl .nil)))) rfl ?_;intro _) | (refine JO.ld (Ld.aY (C1) (qb rfl) rfl (by (exact aJ.cons .refl (.cons .refl .nil)))) rfl ?_;intro _)) | refine gn ?_)
  have nE:bY u (Sx.gi (Sx.aS s g 14) g):=hu.to
  (exact J.bN func69 rfl (.cons (.tmp rfl) .nil) ⟨u,nE⟩ (by exact .refl) rfl)
 | false =>
 have BK:¬ (aa s g).place=13:=by simpa using zh
 cases zi:((aa s g).place == 15) with
 | true =>
  have rN:(aa s g).place=15:=by simpa using zi
  obtain ⟨f1,f2,f3⟩:=h.BH rN;haveI:Sx.gQ (aa s g).bh s:=⟨f2,f3⟩
  have er:common s g=(Sx.aS (ai (Sx.cz s g (aa s g).bh) g { aa s g with bh:=-1 }) g 18,true):=by unfold common;simp [rN]
  have Cd:bY u (aV s (aa s g).bh fB):=hu.to;have C1:=Im u.pP (aV s (aa s g).bh fB).dx.toNat (aV s (aa s g).bh fB).bX.toNat (dV u (aV s (aa s g).bh fB)) u.TP g f1 (aa s g).bh Cd;have e2:Sx.aS (ai (Sx.cz s g (aa s g).bh) g { aa s g with bh:=-1 }) g 18=aK (aK (dO (aV s (aa s g).bh fB) g (aa s g).bh) g fun x=>{ x with bh:=-1 }) g fun x=>{ x with place:=18 }:=by
   have h3:aa (dO (aV s (aa s g).bh fB) g (aa s g).bh) g=aa s g:=Sx.dB.h;have e3:aK (dO (aV s (aa s g).bh fB) g (aa s g).bh) g (fun x=>{ x with bh:=-1 })=ai (Sx.cz s g (aa s g).bh) g { aa s g with bh:=-1 }:=by
    unfold aK;rw [h3,UI];rfl
   rw [e3];rfl
  rw [er,e2];have HQ:((aa s g).bh).toNat < (s.aA.map eS).length:=by rw [List.length_map];omega
  repeat (first | (refine K.load ?_;((refine jq rfl rfl rfl (Qt.aL rfl (aN) (by exact rfl)) ?_))) | (refine K.indexAddr ?_;refine jq rfl rfl rfl (Qt.aI rfl rfl cL cM) ?_) | (refine K.binOp ?_;refine jq rfl rfl rfl ((Qt.cJ rfl rfl rfl w1)) ?_) | (refine K.call ?_;refine JO.ld (Ld.aY (O) (qb rfl) rfl (by (exact aJ.cons .refl (.cons .refl .nil)))) rfl ?_;intro _) | refine gn ?_)
  refine J.draw (by kernel_rfl) rfl ?_;refine JW.base (some 10) ?_;refine tk 0 ?_;refine tk 1 ?_;refine tk 2 ?_;refine tk 3 ?_;refine tk 4 ?_;refine tk 5 ?_;refine tk 6 ?_;refine JD.take 7 rfl rfl (by kernel_rfl) rfl (qb rfl) (Qt.aL rfl aN rfl) rfl ?_;refine tk 8 ?_;refine JD.take 9 rfl rfl (by kernel_rfl) rfl (qb rfl) (Qt.aI rfl rfl (mF (s:=s)) mG) rfl ?_;refine jt 10 rfl rfl (Ld.eK rfl rfl rfl rfl HQ) (fun _=>?_);refine bR ?_;refine J.wG b (aa s g).bh fB (by exact rfl) ?_
  repeat ((refine J.seq ?_))
  refine J.draw (by kernel_rfl) rfl ?_;refine JW.iZ [10] none ?_;refine tk 0 ?_;refine tk 1 ?_;refine tk 2 ?_;refine tk 3 ?_;refine tk 4 ?_;refine tk 5 ?_;refine tk 6 ?_;refine tk 7 ?_;refine JD.take 8 rfl rfl (by kernel_rfl) rfl (qb rfl) (Qt.aL rfl aN rfl) rfl ?_;refine jl 9 rfl rfl rfl rfl (Ld.fY C1 (qb rfl) rfl (.cons .refl (.cons .refl (.cons .refl .nil)))) (.jb rfl) (fun _=>?_);refine bE ?_;rename_i T;refine J.dN (Lj b Cd h.fr f1 (aa s g).bh T) ?_
  repeat (first | (refine K.store ?_;first | ((refine JO.ld (Ld.bL rfl rfl (by exact rfl) aN) rfl (fun _=>?_)));refine JO.cH b g (fun x=>{ x with bh:=-1 }) (by exact rfl) ?_ | ((refine JO.ld (Ld.bL rfl rfl (by exact rfl) aN) rfl (fun _=>?_)));refine JO.cH b g (fun x=>{ x with place:=18 }) (by exact rfl) ?_) | refine gn ?_)
  have nE:bY (tj u (aV s (aa s g).bh fB) g (aa s g).bh T) (aK (aK (dO (aV s (aa s g).bh fB) g (aa s g).bh) g fun x=>{ x with bh:=-1 }) g fun x=>{ x with place:=18 }):=(Lh Cd h.fr f1 (aa s g).bh T).to
  (exact J.bN func69 rfl (.cons (.tmp rfl) .nil) ⟨tj u (aV s (aa s g).bh fB) g (aa s g).bh T,nE⟩ (by exact .refl) rfl)
 | false =>
 have Ff:¬ (aa s g).place=15:=by simpa using zi
 cases zj:((aa s g).place == 16) with
 | true =>
  have rO:(aa s g).place=16:=by simpa using zj
  obtain ⟨hm,hl⟩:=h.BF (.inr rO);obtain ⟨k,hk,bF⟩:=qo hm;have er:common s g=(Sx.au (Sx.free s (ag s g).ch) g,true):=by unfold common;simp [rO]
  have C1:=E4 b u s k g bF (by omega) (by rw [← hk];exact hl);rw [← hk] at C1;have C2:=Iq b u (Sx.free s (ag s g).ch) g hg;have nE:bY u (Sx.au (Sx.free s (ag s g).ch) g):=hu.to;rw [er]
  repeat (first | (refine K.load ?_;((refine jq rfl rfl rfl (Qt.aL rfl (aN) (by exact rfl)) ?_))) | (refine K.indexAddr ?_;refine jq rfl rfl rfl (Qt.aI rfl rfl cL cM) ?_) | (refine K.binOp ?_;refine jq rfl rfl rfl ((Qt.cJ rfl rfl rfl w1)) ?_) | (refine K.call ?_;first | (refine JO.ld (Ld.aY (O) (qb rfl) rfl (by (exact aJ.cons .refl (.cons .refl .nil)))) rfl ?_;intro _) | (refine JO.ld (Ld.aY (C1) (qb rfl) rfl (by (exact aJ.cons .refl (.cons .refl (.cons .refl .nil))))) rfl ?_;intro _) | (refine JO.ld (Ld.aY (C2) (qb rfl) rfl (by (exact aJ.cons .refl (.cons .refl .nil)))) rfl ?_;intro _)) | refine gn ?_)
  (exact J.bN func69 rfl (.cons (.tmp rfl) .nil) ⟨u,nE⟩ (by exact .refl) rfl)
 | false =>
 have Fg:¬ (aa s g).place=16:=by simpa using zj
 cases zm:((aa s g).place == 17) with
 | true =>
  have nu:(aa s g).place=17:=by simpa using zm
  obtain ⟨a,l,f1,f2,f3,f4⟩:=h.BI nu;haveI:Sx.bJ a s:=⟨f2⟩
  haveI:oo g a:=⟨Ne.symm f3⟩
  have hr:aa (Sx.ready s a) g=aa s g:=Sx.dB.h;have Ce:g < (Sx.ready s a).gs.length:=Sx.bJ.h;have er:common s g=(Sx.au (aK (Sx.ready s a) g fun x=>{ x with au:=l }) g,true):=by
   unfold common aK;simp [nu,f1,hr]
  have nE:∀ v,bY (j4 u g v) (Sx.au (aK (Sx.ready s a) g fun x=>{ x with au:=l }) g):=fun v=>bY.wk hu.to
  have C1:=Oy u.pB (s.gs.map fun x=>(x.status,x.token)) u.TB (a:Int);haveI:fU (wd b u s) (u.wk g) 3 1 (aF (aa s g).au) (s.gs.length + g + 12):=⟨vU (u:=u) hg⟩
  have w0:(aF (aa s g).au)[(0:Int).toNat]?=some [nI (a:Int)]:=by rw [f1];rfl
  have w2:(0:Int) < ((aF (aa s g).au).length:Int):=by rw [c7,f1];simp
  have w3:((aF (aa s g).au).take (((aF (aa s g).au).length:Int)).toNat).drop (1:Int).toNat=aF l:=by
   rw [Int.toNat_natCast,List.take_of_length_le (Nat.le_refl _),f1];rfl
  have w4:(1:Int)≤((aF (aa s g).au).length:Int):=by omega
  have w5:(aF l).length≤1000:=by rw [c7];exact f4
  rw [er]
  repeat (first | (refine K.load ?_;((refine jq rfl rfl rfl (Qt.aL rfl (aN) (by exact rfl)) ?_))) | (refine K.indexAddr ?_;refine jq rfl rfl rfl (Qt.aI rfl rfl cL cM) ?_) | (refine K.binOp ?_;refine jq rfl rfl rfl ((Qt.cJ rfl rfl rfl w1)) ?_) | (refine K.call ?_;refine JO.ld (Ld.aY (O) (qb rfl) rfl (by (exact aJ.cons .refl (.cons .refl .nil)))) rfl ?_;intro _) | refine gn ?_)
  refine J.draw (by kernel_rfl) rfl ?_;refine JW.iZ [7] none ?_;refine tk 0 ?_;refine tk 1 ?_;refine tk 2 ?_;refine tk 3 ?_;refine tk 4 ?_;refine tk 5 ?_;refine tk 6 ?_;refine JD.take 7 rfl rfl (by kernel_rfl) rfl (qb rfl) (Qt.aL rfl aN rfl) rfl ?_;refine JD.take 8 rfl rfl (by kernel_rfl) rfl (qb rfl) (Qt.aI rfl rfl (by omega) w2) rfl ?_;refine JD.take 9 rfl rfl (by kernel_rfl) rfl (qb rfl) (Qt.aL rfl w0 rfl) rfl ?_;refine jl 10 rfl rfl rfl rfl (Ld.fY C1 (qb rfl) rfl (.cons .refl (.cons .refl .nil))) (.jb rfl) (fun _=>?_);refine bE ?_;refine J.dN (UK f2) ?_;refine J.Ke g ?_;refine J.seq ?_;refine J.region ?_
  repeat (first | (refine K.load ?_;refine jq rfl rfl rfl (Qt.aL rfl (aN) (by exact rfl)) ?_) | (refine K.store ?_;refine JO.ld (Ld.bL rfl rfl (by exact rfl) aN) rfl (fun _=>?_)) | (refine K.slice ?_;refine JO.ld (xR (qb rfl) rfl rfl rfl (by (omega)) (by (omega)) (by (omega)) (w3)) rfl (fun _=>?_)) | (refine K.bi ?_;refine JO.ld (Ld.tV (qb rfl) rfl rfl .dj (by omega)) rfl ?_;intro v) | refine oJ ?_)
  refine JO.nil ?_;refine J.cS 1 ?_;refine J.Kf g v l rfl (by exact rfl) ?_;have C2:=Iq b (j4 u g v) (aK (Sx.ready s a) g fun x=>{ x with au:=l }) g (wD Ce)
  repeat (first | (refine K.call ?_;refine JO.ld (Ld.aY (C2) (qb rfl) rfl (by (exact aJ.cons .refl (.cons .refl .nil)))) rfl ?_;intro _) | refine gn ?_)
  (exact J.bN func69 rfl (.cons (.tmp rfl) .nil) ⟨j4 u g v,nE v⟩ (by exact .refl) rfl)
 | false =>
  have BL:¬ (aa s g).place=17:=by simpa using zm
  have er:common s g=(s,false):=by unfold common;simp [n4,Fc,BK,Ff,Fg,BL]
  have nE:bY u s:=hu;rw [er]
  repeat (first | (refine K.load ?_;((refine jq rfl rfl rfl (Qt.aL rfl (aN) (by exact rfl)) ?_))) | (refine K.indexAddr ?_;refine jq rfl rfl rfl (Qt.aI rfl rfl cL cM) ?_) | (refine K.binOp ?_;refine jq rfl rfl rfl ((Qt.cJ rfl rfl rfl w1)) ?_) | (refine K.call ?_;refine JO.ld (Ld.aY (O) (qb rfl) rfl (by (exact aJ.cons .refl (.cons .refl .nil)))) rfl ?_;intro _) | refine gn ?_)
  (exact J.bN func69 rfl (.cons (.tmp rfl) .nil) ⟨u,nE⟩ (by exact .refl) rfl)
end Fl
open Go.RowKit
namespace Fl
open Sx Go.Proofs.Tryz
set_option maxRecDepth 100000
structure FI (s:ah):Prop extends Fw s where
 qs:Qs s
 st:∀ g:Nat,g < s.gs.length→0≤(aa s g).status∧(aa s g).status≤2
 lk:∀ k:Nat,k < s.av.length→(cn s ((k:Int) + 1)).lock=-1∨0≤(cn s ((k:Int) + 1)).lock
 UN:∀ k:Nat,k < s.av.length→0≤(cn s ((k:Int) + 1)).cap∧(cn s ((k:Int) + 1)).cap≤64∧(((cn s ((k:Int) + 1)).buf.length:Nat):Int)≤(cn s ((k:Int) + 1)).cap
 ql:∀ k:Nat,k < s.av.length→(cn s ((k:Int) + 1)).recv.length≤1000∧(cn s ((k:Int) + 1)).send.length≤1000
 sN:0≤s.dx
 cN:0≤s.bX
 po:Po.of s.dx.toNat s.bX.toNat s.fresh.toNat s.cache s.middle=true
 pi:∀ H,Po.settle s.fresh.toNat (List.replicate s.dx.toNat false) (s.cache.flatten ++ s.middle)=(H,true)→Po.Inv s.dx.toNat s.bX.toNat ⟨s.cache,s.middle,s.fresh.toNat,H⟩
 d0:0≤s.drawn
 d1:s.drawn≤s.di.length
theorem UO {u u':U} {s:ah} {k:Nat} {v w:Value} (e1:u'.sg k=v) (e2:u'.wk k=w) (h:∀ j,j < k→u'.sg j=u.sg j∧u'.wk j=u.wk j) :
  (sX u' s (k + 1)).Perm (.row w 3 1 (aF (aa s k).au) :: .row v 3 1 (aF (aa s k).aq) :: sX u s k):=by
 have h1:((List.range (k + 1)).map fun g=>aj.row (u'.sg g) 3 1 (aF (aa s g).aq))=((List.range k).map fun g=>aj.row (u.sg g) 3 1 (aF (aa s g).aq)) ++ [.row v 3 1 (aF (aa s k).aq)]:=(uk (by rw [e1]) fun j hj=>by rw [(h j hj).1]).symm;have h2:((List.range (k + 1)).map fun g=>aj.row (u'.wk g) 3 1 (aF (aa s g).au))=((List.range k).map fun g=>aj.row (u.wk g) 3 1 (aF (aa s g).au)) ++ [.row w 3 1 (aF (aa s k).au)]:=(uk (by rw [e2]) fun j hj=>by rw [(h j hj).2]).symm;unfold sX;rw [h1,h2];generalize ((List.range k).map fun g=>aj.row (u.sg g) 3 1 (aF (aa s g).aq))=A;generalize ((List.range k).map fun g=>aj.row (u.wk g) 3 1 (aF (aa s g).au))=B;rw [← List.append_assoc];refine (List.perm_append_comm (l₁:=A ++ [_] ++ B) (l₂:=[_])).trans ?_;refine List.Perm.cons _ ?_;rw [List.append_assoc];exact List.perm_middle
abbrev uG (u:U) (k:Nat) (x:Value × Value × Value):U:={ u with vG:=x.1,sg:=fun i=>if i=k then x.2.1 else u.sg i,wk:=fun i=>if i=k then x.2.2 else u.wk i }
theorem UP (u:U) (s:ah) (k:Nat) (x:Value × Value × Value):rW u s k ++ [gW (aa s k) x.2.1 x.2.2]=rW (uG u k x) s (k + 1) :=
 uk (by simp) fun j hj=>by have:j≠k:=(by omega);simp [this]
theorem Cf (s:ah) (h:FI s) :
  an prog 14 [.agg (aC s)] [] (fun x:{ x:Nat × U // bY x.2 s }=>(.c (.v (pt x.1.1)),wd x.1.1 x.1.2 s)):=by
 have g8:=h.gs;have c8:=h.ch;have mA:=h.su;have dn:=h.dn;have dr:=h.dr;have d0:=h.d0;have d1:=h.d1;have fr:=h.fr;have sN:=h.sN;have cN:=h.cN;have CB:=OA (s.gs.length:Int);rw [RW g8] at CB;have CL:=NZ (s.av.length:Int);rw [R2 c8] at CL;have CD:=Pe s.di dr;have CQ:=Oq s.aA.length 16 mA (by omega);rw [R6 (s:=s)] at CQ;have CP:=O8 s.dx.toNat s.bX.toNat s.fresh.toNat s.cache s.middle h.mb h.cb h.po;rw [show ((s.dx.toNat:Nat):Int)=s.dx by omega,show ((s.bX.toNat:Nat):Int)=s.bX by omega,show ((s.fresh.toNat:Nat):Int)=s.fresh by omega] at CP;refine an.intro func14 rfl rfl rfl (fun ok e=>?_)
 repeat (first | refine ay ?_ | intro _)
 refine J.draw (by kernel_rfl) rfl ?_;refine JW.base none ?_;refine tk 0 ?_;refine tk 1 ?_;refine tk 2 ?_;refine tk 3 ?_;refine tk 4 ?_;refine tk 5 ?_;refine tk 6 ?_;refine tk 8 ?_;refine tk 9 ?_;refine tk 10 ?_;refine tk 12 ?_;refine tk 13 ?_;refine tk 15 ?_;refine tk 16 ?_;refine tk 18 ?_;refine tk 19 ?_;refine tk 21 ?_;refine tk 22 ?_;refine jl 7 rfl rfl rfl rfl (Ld.vX CB (qb rfl) rfl (.cons .refl .nil)) .none (fun _=>?_);refine jl 11 rfl rfl rfl rfl (Ld.vX CL (qb rfl) rfl (.cons .refl .nil)) .none (fun _=>?_);refine jl 14 rfl rfl rfl rfl (Ld.tV (qb rfl) rfl rfl .read (by (simp;omega))) .none (fun _=>?_);refine jl 17 rfl rfl rfl rfl (Ld.vX CD (qb rfl) rfl (.cons .refl .nil)) .none (fun _=>?_);refine jl 20 rfl rfl rfl rfl (Ld.iI (qb rfl) rfl rfl .read (by (simp;omega))) .none (fun _=>?_);refine jl 23 rfl rfl rfl rfl (Ld.tV (qb rfl) rfl rfl .read (by (simp;omega))) .none (fun _=>?_);refine jk 24 rfl rfl rfl rfl (Qt.build rfl (by kernel_rfl)) ?_;refine jl 25 rfl rfl rfl rfl (Ld.box (qb rfl) rfl rfl) .none (fun _=>?_);refine jk 26 rfl rfl rfl rfl (Qt.assign rfl) ?_;refine bE ?_;rename_i b1 xB xL vS bD _ vM bW
 repeat (first | (refine K.store ?_;refine JO.ld (Ld.cY rfl rfl (by exact rfl)) rfl (fun _=>?_)) | (refine K.call ?_;first | (refine JO.ld (Ld.vX CQ (qb rfl) rfl (.cons .refl (.cons .refl .nil))) rfl ?_;intro xQ) | (refine JO.ld (Ld.vX CP (qb rfl) rfl (.cons .refl (.cons .refl (.cons .refl (.cons .refl (.cons .refl .nil)))))) rfl ?_;intro xP)) | refine gn ?_)
 have CS:=Pg bD s.di s.drawn d0 d1 dr;refine J.draw (by kernel_rfl) rfl ?_;refine JW.iZ [4] none ?_;refine tk 0 ?_;refine tk 1 ?_;refine tk 2 ?_;refine tk 3 ?_;refine tk 4 ?_;refine tk 5 ?_;refine jl 6 rfl rfl rfl rfl (Ld.fY CS (qb rfl) rfl (.cons .refl (.cons .refl .nil))) (.lA rfl) (fun _=>?_);refine bE ?_;refine J.mg 47 25 ?_;refine J.mg 106 1 ?_;refine J.mg 4 1 ?_;refine J.Qa (Φ:=tR []) tR.ok tR.none ?_;obtain ⟨u0,qH⟩:∃ u:U,u=⟨.slice none 0 0,xB.1,.slice none 0 0,.slice none 0 0,xL.1,xQ.1,vS,xP.1.1,bD,vM,xB.2,xL.2,xQ.2,xP.1.2.1,[],xP.1.2.2,fun _=>.slice none 0 0,fun _=>.slice none 0 0,fun _=>.slice none 0 0⟩:=⟨_,rfl⟩
 have UQ:bY u0 s:=by rw [qH];exact h.pi _ (by rw [show ((s.fresh.toNat:Nat):Int)=s.fresh by omega];exact xP.2)
 have hv:u0.vG=.slice none 0 0∧u0.vR=.slice none 0 0∧u0.vC=.slice none 0 0:=by rw [qH];exact ⟨rfl,rfl,rfl⟩
 refine J.perm (L2:=.box b1 36 (aC s) :: wo bW u0 s (rW u0 s 0) (bK s 0) (lN u0 0) (jZ s 0) (lK s 0) (qK s 0 0 0) (pz u0 s 0) (sX u0 s 0)) ?_ ?_
 ·subst qH
  repeat (first | exact List.Perm.refl _ | refine gY 0 rfl rfl ?_ | refine gY 1 rfl rfl ?_ | refine gY 2 rfl rfl ?_ | refine gY 3 rfl rfl ?_ | refine gY 4 rfl rfl ?_ | refine gY 5 rfl rfl ?_ | refine gY 6 rfl rfl ?_ | refine gY 7 rfl rfl ?_ | refine gY 8 rfl rfl ?_ | refine gY 9 rfl rfl ?_ | refine gY 10 rfl rfl ?_ | refine gY 11 rfl rfl ?_ | refine gY 12 rfl rfl ?_)
 clear qH
 repeat (refine gn ?_)
 refine J.loop (ι:={ q:Nat × Value × (Nat→Value) × (Nat→Value) // q.1≤s.gs.length }) (fun q=>[(73,.c (nI q.1.1)),(72,.c (nI s.gs.length)),(71,.c (.r 25 (s.gs.map eG))),(3,.c (.v (pt bW))),(1,.c (.v (pt b1)))]) (fun q=>.box b1 36 (aC s) :: wo bW { u0 with vG:=q.1.2.1,sg:=q.1.2.2.1,wk:=q.1.2.2.2 } s (rW { u0 with vG:=q.1.2.1,sg:=q.1.2.2.1,wk:=q.1.2.2.2 } s q.1.1) (bK s q.1.1) (lN u0 0) (jZ s 0) (lK s 0) (qK s 0 0 0) (pz u0 s 0) (sX { u0 with vG:=q.1.2.1,sg:=q.1.2.2.1,wk:=q.1.2.2.2 } s q.1.1)) (fun q=>s.gs.length - q.1.1) ⟨(0,u0.vG,u0.sg,u0.wk),Nat.zero_le _⟩ (fun X h=>h.aW ⟨rfl,rfl,rfl,rfl,rfl,trivial⟩) (fun q ih=>?_);obtain ⟨⟨k,vG,sg,wk⟩,hk⟩:=q;simp only at hk ih ⊢
 by_cases bF:k < s.gs.length
 ·have t1:(decide ((k:Int) < (s.gs.length:Int)))=true:=by simpa using bF
  have hx:s.gs[k]?=some (aa s k):=by unfold aa;rw [List.getD_eq_getElem?_getD,List.getElem?_eq_getElem bF];rfl
  have hm:=List.mem_of_getElem? hx;obtain ⟨o1,o2⟩:=h.op _ hm;obtain ⟨o3,o4,o5,o6⟩:=h.Iu _ hm;have BS:=Oz u0.pB (bK s k) u0.TB (k:Int) (aa s k).status (aa s k).token;rw [RV bF (h.st k bF)] at BS;have CG:=Sr (aa s k) o1 o2 o3 o4 o5 o6;have gl:(rW { u0 with vG:=vG,sg:=sg,wk:=wk } s k).length≤8:=by simp [rW];omega
  repeat (first | (refine K.store ?_;refine JO.ld (Ld.bq rfl rfl rfl (by exact rfl) (by exact rfl)) rfl (fun _=>?_)) | refine ay ?_ | intro _)
  refine J.draw (by kernel_rfl) rfl ?_;refine JW.iZ [9] none ?_;refine tk 0 ?_;refine tk 1 ?_;refine tk 2 ?_;refine tk 3 ?_;refine tk 4 ?_;refine tk 5 ?_;refine tk 6 ?_;refine tk 7 ?_;refine tk 8 ?_;refine jl 9 rfl rfl rfl rfl (Ld.fY BS (qb rfl) rfl (.cons .refl (.cons .refl (.cons .refl (.cons .refl .nil))))) (.jb rfl) (fun _=>?_);refine bE ?_
  repeat (first | (refine K.store ?_;first | refine JO.ld (Ld.bq rfl rfl rfl (by exact rfl) (by exact rfl)) rfl (fun _=>?_) | refine JO.ld (Ld.cY rfl rfl (by exact rfl)) rfl (fun _=>?_)) | (refine K.call ?_;refine JO.ld (Ld.Sq CG (qb rfl) rfl (.cons .refl .nil)) rfl ?_;intro x) | refine gn ?_)
  refine J.draw (by kernel_rfl) rfl ?_;refine JW.iZ [5] (some 10) ?_;refine tk 0 ?_;refine tk 1 ?_;refine tk 2 ?_;refine tk 3 ?_;refine tk 4 ?_;refine tk 5 ?_;refine jl 6 rfl rfl rfl rfl (Ld.jS (qb rfl) rfl rfl rfl rfl rfl) .none (fun _=>?_);refine jl 7 rfl rfl rfl rfl (Ld.cy (qb rfl) rfl rfl .read (by (simp;omega))) (.pW rfl) (fun _=>?_);refine jk 8 rfl rfl rfl rfl (Qt.nilCheck rfl rfl) ?_;refine jk 9 rfl rfl rfl rfl (Qt.fieldAddr rfl rfl) ?_;refine jt 10 rfl rfl (Ld.cY rfl rfl (by exact rfl)) (fun _=>?_);refine bR ?_
  repeat (refine gn ?_)
  rename_i b5 _ _ _ _ _ _ wO _;refine J.cS 3 ?_;refine J.perm (L2:=.box b1 36 (aC s) :: wo bW (uG { u0 with vG:=vG,sg:=sg,wk:=wk } k (wO,x)) s (rW (uG { u0 with vG:=vG,sg:=sg,wk:=wk } k (wO,x)) s (k + 1)) (bK s (k + 1)) (lN u0 0) (jZ s 0) (lK s 0) (qK s 0 0 0) (pz u0 s 0) (sX (uG { u0 with vG:=vG,sg:=sg,wk:=wk } k (wO,x)) s (k + 1))) ?_ ?_
  ·rw [← UP]
   repeat (first | refine gY 0 rfl rfl ?_ | refine gY 1 rfl rfl ?_ | refine gY 2 rfl rfl ?_ | refine gY 3 rfl rfl ?_ | refine gY 4 rfl rfl ?_)
   exact UO (u:={ u0 with vG:=vG,sg:=sg,wk:=wk }) (if_pos rfl) (if_pos rfl) fun j hj=>⟨if_neg (by omega),if_neg (by omega)⟩
  ·exact (ih ⟨(k + 1,wO,(uG { u0 with vG:=vG,sg:=sg,wk:=wk } k (wO,x)).sg,(uG { u0 with vG:=vG,sg:=sg,wk:=wk } k (wO,x)).wk),by simp only;omega⟩ (by simp only;omega)).aW ⟨rfl,rfl,rfl,rfl,rfl,trivial⟩
 ·have t1:(decide ((k:Int) < (s.gs.length:Int)))=false:=by simpa using bF
  obtain rfl:k=s.gs.length:=by omega
  rw [RY]
  repeat (refine gn ?_)
  have Lm:bY { u0 with vG:=vG,sg:=sg,wk:=wk } s:=UQ;generalize Cd:({ u0 with vG:=vG,sg:=sg,wk:=wk }:U)=u1 at Lm ⊢;refine J.loop (ι:={ q:Nat × Value × Value × List Nat × (Nat→Value) // q.1≤s.av.length }) (fun q=>[(106,.c (nI q.1.1)),(105,.c (nI s.av.length)),(104,.c (.r 6 (s.av.map eC))),(3,.c (.v (pt bW))),(1,.c (.v (pt b1)))]) (fun q=>.box b1 36 (aC s) :: wo bW { u1 with vR:=q.1.2.1,vC:=q.1.2.2.1,TR:=q.1.2.2.2.1,rs:=q.1.2.2.2.2 } s (rW u1 s s.gs.length) (s.gs.map fun x=>(x.status,x.token)) (lN { u1 with vR:=q.1.2.1,vC:=q.1.2.2.1,TR:=q.1.2.2.2.1,rs:=q.1.2.2.2.2 } q.1.1) (jZ s q.1.1) (lK s q.1.1) (qK s q.1.1 0 0) (pz { u1 with vR:=q.1.2.1,vC:=q.1.2.2.1,TR:=q.1.2.2.2.1,rs:=q.1.2.2.2.2 } s q.1.1) (sX u1 s s.gs.length)) (fun q=>s.av.length - q.1.1) ⟨(0,u1.vR,u1.vC,u1.TR,u1.rs),Nat.zero_le _⟩ (fun X h=>?_) (fun q fP=>?_)
  ·exact h.aW ⟨rfl,rfl,rfl,rfl,rfl,trivial⟩
  obtain ⟨⟨j,vR,vC,TR,rs⟩,hj⟩:=q;simp only at hj fP ⊢
  by_cases ff:j < s.av.length
  ·have t1:(decide ((j:Int) < (s.av.length:Int)))=true:=by simpa using ff
   have hx:(s.av.map eC)[((j:Int)).toNat]?=some (eC (cn s ((j:Int) + 1))):=by rw [Int.toNat_natCast,List.getElem?_map,mY ff];rfl
   have CA:=Sz bW { u1 with vR:=vR,vC:=vC,TR:=TR,rs:=rs } s j (rW u1 s s.gs.length) (s.gs.map fun x=>(x.status,x.token)) (sX u1 s s.gs.length) ff h.qs (h.UN j ff) (h.lk j ff) (h.ql j ff).1 (h.ql j ff).2
   repeat (first | (refine K.store ?_;refine JO.ld (Ld.bq rfl rfl rfl (by exact rfl) (by exact rfl)) rfl (fun _=>?_)) | (refine K.call ?_;refine JO.ld (Ld.aY CA (qb rfl) rfl (.cons .refl (.cons .refl (.cons .refl .nil)))) rfl ?_;intro x) | refine ay ?_ | intro _)
   refine J.cS 0 ?_;exact (fP ⟨(j + 1,x.2.1,x.2.2.1,TR ++ x.2.2.2,fun i=>if i=j then x.1 else rs i),by simp only;omega⟩ (by simp only;omega)).aW ⟨rfl,rfl,rfl,rfl,rfl,trivial⟩
  ·have t1:(decide ((j:Int) < (s.av.length:Int)))=false:=by simpa using ff
   obtain rfl:j=s.av.length:=by omega
   rw [R3,R8,show jZ s s.av.length=s.av.map fun c=>[bI c.closed] by unfold jZ;rw [List.take_of_length_le (Nat.le_refl _)]]
   repeat (refine gn ?_)
   refine J.dN (L':=.box b1 36 (aC s) :: wd bW { u1 with vR:=vR,vC:=vC,TR:=TR,rs:=rs } s) rfl ?_
   (exact J.fC [_] rfl func14 rfl (.cons (.tmp rfl) .nil) ⟨(bW,{ u1 with vR:=vR,vC:=vC,TR:=TR,rs:=rs }),Lm⟩ (by exact .refl) rfl)
end Fl
end Go.Proofs.YtdjhhbpedllnhaaGreat
