/-
  What the laws need, part A43.
  Conditions: none.
-/
import Derived.Test.YtofnbflkhgammaaGreatA25
import Derived.Test.YtofnbflkhgammaaGreatA42
set_option linter.unusedVariables false
set_option linter.unusedSimpArgs false
set_option linter.unnecessarySimpa false
set_option maxHeartbeats 2000000
namespace Go.Proofs.YtofnbflkhgammaaGreat
open Go.RowKit
namespace Fl
open Sx
set_option maxRecDepth 100000
def dH (u:U) (s:Sx.St):Prop:=Po.Inv s.dB.toNat s.bN.toNat (fD u s)
class dX (s' s:Sx.St):Prop where h:s'.dB=s.dB∧s'.bN=s.bN∧s'.cache=s.cache∧s'.middle=s.middle∧s'.fresh=s.fresh
instance (priority:=low) dX.aaP {s:Sx.St}:dX s s:=⟨rfl,rfl,rfl,rfl,rfl⟩
section
variable {s s':Sx.St} {g:Nat} {f:Gr→Gr} {x:Gr} {i:Int} {d:Su} {c:Int} {n:Cn}
instance dX.bq [h:dX s' s]:dX (Sx.bq s' g f) s:=⟨h.h⟩
instance dX.aa [h:dX s' s]:dX (Sx.aa s' g x) s:=⟨h.h⟩
instance dX.aF [h:dX s' s]:dX (Sx.aF s' i d) s:=⟨h.h⟩
instance dX.av [h:dX s' s]:dX (Sx.av s' c n) s:=⟨h.h⟩
instance dX.aE [h:dX s' s]:dX (Sx.aE s' g i) s:=⟨h.h⟩
instance dX.free [h:dX s' s]:dX (Sx.free s' c) s:=⟨h.h⟩
instance dX.fh [h:dX s' s]:dX (Sx.fh s' g) s:=⟨h.h⟩
instance dX.ready [h:dX s' s]:dX (Sx.ready s' g) s:=⟨h.h⟩
instance dX.ah [h:dX s' s]:dX (Sx.ah s' g) s:=⟨by unfold Sx.ah;split <;> exact h.h⟩
instance dX.drop [h:dX s' s]:dX (Sx.drop s' i) s:=⟨by unfold Sx.drop;split <;> exact h.h⟩
instance dX.tryLock [h:dX s' s]:dX (Sx.tryLock s' g c).1 s:=⟨by unfold Sx.tryLock;split <;> exact h.h⟩
theorem dH.to {u:U} (h:dH u s) [e:dX s' s]:dH u s':=by
 obtain ⟨e1,e2,e3,e4,e5⟩:=e.h;unfold dH fD at h ⊢;rw [e1,e2,e3,e4,e5];exact h
theorem dH.wk {u:U} {v:Value} (h:dH u s):dH (iM u g v) s:=h
end
section
variable {u:U} {s:Sx.St}
theorem YH (v:dH u s) (h0:0≤s.fresh) (y:Int):Po.live (fD u s).f (fD u s).H y=gw s y:=by
 rw [v.live y];unfold gw;have e1:decide (y < ((fD u s).f:Int))=decide (y < s.fresh):=by
  show decide (y < ((s.fresh.toNat:Nat):Int))=_;rw [Int.toNat_of_nonneg h0]
 have e2:decide (Po.dN (fD u s) y=0)=!(tU s).contains y:=by
  have:Po.dN (fD u s) y=(tU s).count y:=by unfold tU Po.dN fD;rw [List.count_append]
  rw [this,Bool.eq_iff_iff];simp [List.count_eq_zero]
 rw [e1,e2]
theorem YI {g:Nat} (hg:g < s.cache.length):Po.mB (fD u s).C (g:Int)=true:=by
 unfold Po.mB fD;simp;exact hg
abbrev wF (u:U) (s:Sx.St) (g:Nat) (y:Int) (T:List Nat):U:={ u with H:=(Po.bR s.bN.toNat (fD u s) g y).1.H,TP:=T }
theorem Ni (v:dH u s) (h0:0≤s.fresh) {g:Nat} (hg:g < s.cache.length) (y:Int) (T:List Nat):fD (wF u s g y T) (dU s g y)=(Po.bR s.bN.toNat (fD u s) g y).1:=by
 have h1:=YH v h0 y;have ht:=YI (u:=u) hg;have e:(Po.bR s.bN.toNat (fD u s) g y).1=if Po.live (fD u s).f (fD u s).H y then Po.pM s.bN.toNat (fD u s) g (s.cache.getD g []) y else fD u s:=by
  unfold Po.bR;rw [ht,Bool.true_and]
  split <;> rfl
 unfold wF;rw [e];unfold dU;rw [← h1]
 split <;> rfl
theorem Nj {g:Nat} {y:Int}:(dU s g y).dB=s.dB∧(dU s g y).bN=s.bN:=by unfold dU;split <;> exact ⟨rfl,rfl⟩
theorem YJ (v:dH u s) (h0:0≤s.fresh) {g:Nat} (hg:g < s.cache.length) (y:Int) (T:List Nat):dH (wF u s g y T) (dU s g y):=by
 unfold dH;rw [Ni v h0 hg y T,Nj.1,Nj.2];exact v.bR g y
theorem YK (b:Nat) (v:dH u s) (h0:0≤s.fresh) {g:Nat} (hg:g < s.cache.length) (y:Int) (T:List Nat):wd b (wF u s g y T) (dU s g y)=(wd b u s).set 10 (aI (tP u.pP s.dB.toNat s.bN.toNat (Po.bR s.bN.toNat (fD u s) g y).1) T):=by
 rw [← Ni v h0 hg y T];unfold dU
 split <;> rfl
theorem YL {s:Sx.St} {g:Nat} {y i:Int} {d:Su}:dU (Sx.aF s i d) g y=Sx.aF (dU s g y) i d:=by
 unfold dU;rw [show gw (Sx.aF s i d) y=gw s y from rfl]
 split <;> rfl
end
theorem YM {b:Nat} {u:U} {s:Sx.St} {g:Nat} (hg:g < s.gs.length):wd b u (Sx.ready s g)=(wd b u s).set 7 (aI (tB u.pB (Bc.nB (s.gs.map fun x=>(x.status,x.token)) g)) u.TB):=by
 have hm:Bc.mem (s.gs.map fun x=>(x.status,x.token)) (g:Int)=((Sx.gr s g).status,(Sx.gr s g).token):=by
  unfold Bc.mem;rw [Int.toNat_natCast,List.getD_eq_getElem?_getD,BB s hg];rfl
 have hs:Bc.status (s.gs.map fun x=>(x.status,x.token)) (g:Int)=(Sx.gr s g).status:=EA hg;unfold Sx.ready Bc.nB;rw [hs,hm,Int.toNat_natCast]
 by_cases c:(Sx.gr s g).status=1
 ·rw [if_pos c,if_pos c,wj b u s g { Sx.gr s g with status:=0 } hg rfl]
 ·rw [if_neg c,if_neg c]
  by_cases c0:(Sx.gr s g).status=0
  ·rw [if_pos c0,if_pos c0,wj b u s g { Sx.gr s g with token:=true } hg rfl,c0]
  ·rw [if_neg c0,if_neg c0,wj b u s g (Sx.gr s g) hg rfl,ta (BB s hg)]
def locked (s:Sx.St) (g:Nat) (ch:Int):Sx.St:=if (Sx.tryLock s g ch).2=true then (if (Sx.op s g).kind=6 then Sx.aE (Sx.tryLock s g ch).1 g 21 else Sx.aE (Sx.tryLock s g ch).1 g 5) else s
theorem YN (b:Nat) (u:U) (s:Sx.St) (g k:Nat) (hg:g < s.gs.length) (hk:k < s.an.length) (h8:k < 8) (h0:0≤(Sx.gr s g).at_) (hc:(Sx.op s g).cases.length≤1000) :
  aq Tryz.prog 78 [.c (.v (pt b)),.c (nI g),.c (nI ((k:Int) + 1 - 1))] (wd b u s) (fun _:Unit=>(.aV [],wd b u (locked s g ((k:Int) + 1)))):=by
 haveI:Sx.cy g s:=⟨hg⟩
 have W:=UY b u s k g hk h8
 by_cases hl:(cn s ((k:Int) + 1)).lock=-1
 ·have e1:Sx.tryLock s g ((k:Int) + 1)=(Sx.av s ((k:Int) + 1) { cn s ((k:Int) + 1) with lock:=(g:Int) },true):=by unfold Sx.tryLock;rw [if_pos hl]
  rw [e1] at W;dsimp only at W;have O:=Cj b u (Sx.av s ((k:Int) + 1) { cn s ((k:Int) + 1) with lock:=(g:Int) }) g hg h0 hc;refine aq.intro Tryz.func78 rfl rfl rfl (fun ok e=>?_)
  cases wG:((Sx.op s g).kind == 6) with
  | true =>
   have ek:(Sx.op s g).kind=6:=by simpa using wG
   have er:locked s g ((k:Int) + 1)=Sx.aE (Sx.av s ((k:Int) + 1) { cn s ((k:Int) + 1) with lock:=(g:Int) }) g 21:=by unfold locked;rw [e1,if_pos rfl,if_pos ek]
   rw [er]
   repeat (first | (refine K.store ?_;((refine JO.ld (Ld.dY rfl rfl (by exact rfl) cF) rfl (fun _=>?_)));refine JO.fu b g (fun x=>{ x with place:=21 }) (by exact rfl) ?_) | (refine K.indexAddr ?_;refine jq rfl rfl rfl (Qt.bF rfl rfl fo fq) ?_) | (refine K.call ?_;first | (refine JO.ld (Ld.bU (W) (qb rfl) rfl (by (exact aL.cons .refl (.cons .refl (.cons .refl .nil))))) rfl ?_;intro _) | (refine JO.ld (Ld.bU (O) (qb rfl) rfl (by (exact aL.cons .refl (.cons .refl .nil)))) rfl ?_;intro _)) | refine gn ?_)
   (exact J.jI Tryz.func78 rfl .nil () (by exact .refl) rfl)
  | false =>
   have ek:¬ (Sx.op s g).kind=6:=by simpa using wG
   have er:locked s g ((k:Int) + 1)=Sx.aE (Sx.av s ((k:Int) + 1) { cn s ((k:Int) + 1) with lock:=(g:Int) }) g 5:=by unfold locked;rw [e1,if_pos rfl,if_neg ek]
   rw [er]
   repeat (first | (refine K.store ?_;((refine JO.ld (Ld.dY rfl rfl (by exact rfl) cF) rfl (fun _=>?_)));refine JO.fu b g (fun x=>{ x with place:=5 }) (by exact rfl) ?_) | (refine K.indexAddr ?_;refine jq rfl rfl rfl (Qt.bF rfl rfl fo fq) ?_) | (refine K.call ?_;first | (refine JO.ld (Ld.bU (W) (qb rfl) rfl (by (exact aL.cons .refl (.cons .refl (.cons .refl .nil))))) rfl ?_;intro _) | (refine JO.ld (Ld.bU (O) (qb rfl) rfl (by (exact aL.cons .refl (.cons .refl .nil)))) rfl ?_;intro _)) | refine gn ?_)
   (exact J.jI Tryz.func78 rfl .nil () (by exact .refl) rfl)
 ·have e1:Sx.tryLock s g ((k:Int) + 1)=(s,false):=by unfold Sx.tryLock;rw [if_neg hl]
  rw [e1] at W;dsimp only at W;have er:locked s g ((k:Int) + 1)=s:=by unfold locked;rw [e1,if_neg (by simp)]
  rw [er];refine aq.intro Tryz.func78 rfl rfl rfl (fun ok e=>?_)
  repeat (first | (refine K.call ?_;refine JO.ld (Ld.bU (W) (qb rfl) rfl (by (exact aL.cons .refl (.cons .refl (.cons .refl .nil))))) rfl ?_;intro _) | refine gn ?_)
  (exact J.kJ Tryz.func78 rfl .nil () (by exact .refl) rfl)
structure Ck (s:Sx.St) (g:Nat):Prop where
 lt:g < s.gs.length
 cY:0≤(Sx.gr s g).at_
 oc:(Sx.op s g).cases.length≤1000
 ch:0≤(Sx.op s g).ch∧(Sx.op s g).ch≤1000
 c8:s.an.length≤8
 fr:0≤s.fresh
 l4:(Sx.gr s g).place=4→Sx.made s (Sx.op s g).ch=true
 BU:(Sx.gr s g).place=12∨(Sx.gr s g).place=16→Sx.made s (Sx.op s g).ch=true∧(cn s (Sx.op s g).ch).lock=g
 BW:(Sx.gr s g).place=15→g < s.cache.length∧0≤(Sx.gr s g).aK∧(Sx.gr s g).aK < s.aB.length
 BX:(Sx.gr s g).place=17→∃ (a:Nat) (l:List Int),(Sx.gr s g).ah=(a:Int) :: l∧a < s.gs.length∧a≠g∧l.length≤1000
theorem Nk (b:Nat) (u:U) (s:Sx.St) (g:Nat) (h:Ck s g) (hu:dH u s) :
  aq Tryz.prog 30 [.c (.v (pt b)),.c (nI g)] (wd b u s) (fun x:{ u':U // dH u' (common s g).1 }=>(.c (bI (common s g).2),wd b x.1 (common s g).1)):=by
 have hg:=h.lt;haveI:Sx.cy g s:=⟨hg⟩
 have c8:=h.c8;have pG:=h.ch;have O:=Cj b u s g hg h.cY h.oc;have w1:IntKind.i64.wrap ((Sx.op s g).ch - 1)=(Sx.op s g).ch - 1:=fJ (by omega) (by omega);refine aq.intro Tryz.func30 rfl rfl rfl (fun ok e=>?_)
 cases p4:((Sx.gr s g).place == 4) with
 | true =>
  have e4:(Sx.gr s g).place=4:=by simpa using p4
  obtain ⟨k,hk,aR⟩:=rK (h.l4 e4);have er:common s g=(locked s g (Sx.op s g).ch,true):=by unfold common locked;simp only [e4];simp;split <;> (try split) <;> rfl
  have C1:=YN b u s g k hg aR (by omega) h.cY h.oc;rw [← hk] at C1;have eL:dH u (locked s g (Sx.op s g).ch):=by
   unfold locked;split
   ·split
    ·exact hu.to
    ·exact hu.to
   ·exact hu
  rw [er]
  repeat (first | (refine K.load ?_;((refine jq rfl rfl rfl (Qt.cJ rfl (cF) (by exact rfl)) ?_))) | (refine K.indexAddr ?_;refine jq rfl rfl rfl (Qt.bF rfl rfl fo fq) ?_) | (refine K.binOp ?_;refine jq rfl rfl rfl ((Qt.cP rfl rfl rfl w1)) ?_) | (refine K.call ?_;first | (refine JO.ld (Ld.bU (O) (qb rfl) rfl (by (exact aL.cons .refl (.cons .refl .nil)))) rfl ?_;intro _) | (refine JO.ld (Ld.bU (C1) (qb rfl) rfl (by (exact aL.cons .refl (.cons .refl (.cons .refl .nil))))) rfl ?_;intro _)) | refine gn ?_)
  (exact J.kJ Tryz.func30 rfl (.cons (.tmp rfl) .nil) ⟨u,eL⟩ (by exact .refl) rfl)
 | false =>
 have n4:¬ (Sx.gr s g).place=4:=by simpa using p4
 cases zj:((Sx.gr s g).place == 12) with
 | true =>
  have rC:(Sx.gr s g).place=12:=by simpa using zj
  obtain ⟨hm,hl⟩:=h.BU (.inl rC);obtain ⟨k,hk,aR⟩:=rK hm;have er:common s g=(Sx.aE (Sx.free s (Sx.op s g).ch) g 13,true):=by unfold common;simp [rC]
  have C1:=LG b u s k g aR (by omega) (by rw [← hk];exact hl);rw [← hk] at C1;rw [er]
  repeat (first | (refine K.load ?_;((refine jq rfl rfl rfl (Qt.cJ rfl (cF) (by exact rfl)) ?_))) | (refine K.store ?_;((refine JO.ld (Ld.dY rfl rfl (by exact rfl) cF) rfl (fun _=>?_)));refine JO.fu b g (fun x=>{ x with place:=13 }) (by exact rfl) ?_) | (refine K.indexAddr ?_;refine jq rfl rfl rfl (Qt.bF rfl rfl fo fq) ?_) | (refine K.binOp ?_;refine jq rfl rfl rfl ((Qt.cP rfl rfl rfl w1)) ?_) | (refine K.call ?_;first | (refine JO.ld (Ld.bU (O) (qb rfl) rfl (by (exact aL.cons .refl (.cons .refl .nil)))) rfl ?_;intro _) | (refine JO.ld (Ld.bU (C1) (qb rfl) rfl (by (exact aL.cons .refl (.cons .refl (.cons .refl .nil))))) rfl ?_;intro _)) | refine gn ?_)
  have eL:dH u (Sx.aE (Sx.free s (Sx.op s g).ch) g 13):=hu.to
  (exact J.kJ Tryz.func30 rfl (.cons (.tmp rfl) .nil) ⟨u,eL⟩ (by exact .refl) rfl)
 | false =>
 have FU:¬ (Sx.gr s g).place=12:=by simpa using zj
 cases zl:((Sx.gr s g).place == 13) with
 | true =>
  have rD:(Sx.gr s g).place=13:=by simpa using zl
  have er:common s g=(Sx.fh (Sx.aE s g 14) g,true):=by unfold common;simp [rD]
  have C1:=UZ b u (Sx.bq s g fun x=>{ x with place:=14 }) g (we hg);rw [er]
  repeat (first | (refine K.load ?_;((refine jq rfl rfl rfl (Qt.cJ rfl (cF) (by exact rfl)) ?_))) | (refine K.store ?_;((refine JO.ld (Ld.dY rfl rfl (by exact rfl) cF) rfl (fun _=>?_)));refine JO.fu b g (fun x=>{ x with place:=14 }) (by exact rfl) ?_) | (refine K.indexAddr ?_;refine jq rfl rfl rfl (Qt.bF rfl rfl fo fq) ?_) | (refine K.binOp ?_;refine jq rfl rfl rfl ((Qt.cP rfl rfl rfl w1)) ?_) | (refine K.call ?_;first | (refine JO.ld (Ld.bU (O) (qb rfl) rfl (by (exact aL.cons .refl (.cons .refl .nil)))) rfl ?_;intro _) | (refine JO.ld (Ld.bU (C1) (qb rfl) rfl (by (exact aL.cons .refl (.cons .refl .nil)))) rfl ?_;intro _)) | refine gn ?_)
  have eL:dH u (Sx.fh (Sx.aE s g 14) g):=hu.to
  (exact J.kJ Tryz.func30 rfl (.cons (.tmp rfl) .nil) ⟨u,eL⟩ (by exact .refl) rfl)
 | false =>
 have FV:¬ (Sx.gr s g).place=13:=by simpa using zl
 cases zm:((Sx.gr s g).place == 15) with
 | true =>
  have rE:(Sx.gr s g).place=15:=by simpa using zm
  obtain ⟨f1,f2,f3⟩:=h.BW rE;haveI:Sx.ko (Sx.gr s g).aK s:=⟨f2,f3⟩
  have er:common s g=(Sx.aE (Sx.aa (Sx.bR s g (Sx.gr s g).aK) g { Sx.gr s g with aK:=-1 }) g 18,true):=by unfold common;simp [rE]
  have Cl:dH u (Sx.aF s (Sx.gr s g).aK eI):=hu.to;have C1:=Sh u.pP (Sx.aF s (Sx.gr s g).aK eI).dB.toNat (Sx.aF s (Sx.gr s g).aK eI).bN.toNat (fD u (Sx.aF s (Sx.gr s g).aK eI)) u.TP g (Sx.gr s g).aK Cl;have e2:Sx.aE (Sx.aa (Sx.bR s g (Sx.gr s g).aK) g { Sx.gr s g with aK:=-1 }) g 18=Sx.bq (Sx.bq (dU (Sx.aF s (Sx.gr s g).aK eI) g (Sx.gr s g).aK) g fun x=>{ x with aK:=-1 }) g fun x=>{ x with place:=18 }:=by
   have h3:Sx.gr (dU (Sx.aF s (Sx.gr s g).aK eI) g (Sx.gr s g).aK) g=Sx.gr s g:=Sx.dR.h;have e3:Sx.bq (dU (Sx.aF s (Sx.gr s g).aK eI) g (Sx.gr s g).aK) g (fun x=>{ x with aK:=-1 })=Sx.aa (Sx.bR s g (Sx.gr s g).aK) g { Sx.gr s g with aK:=-1 }:=by
    unfold Sx.bq;rw [h3,YL];rfl
   rw [e3];rfl
  rw [er,e2];have HQ:((Sx.gr s g).aK).toNat < (s.aB.map eS).length:=by rw [List.length_map];omega
  repeat (first | (refine K.load ?_;((refine jq rfl rfl rfl (Qt.cJ rfl (cF) (by exact rfl)) ?_))) | (refine K.indexAddr ?_;refine jq rfl rfl rfl (Qt.bF rfl rfl fo fq) ?_) | (refine K.binOp ?_;refine jq rfl rfl rfl ((Qt.cP rfl rfl rfl w1)) ?_) | (refine K.call ?_;refine JO.ld (Ld.bU (O) (qb rfl) rfl (by (exact aL.cons .refl (.cons .refl .nil)))) rfl ?_;intro _) | refine gn ?_)
  refine J.draw (by kernel_rfl) rfl ?_;refine JW.base (some 10) ?_;refine tk 0 ?_;refine tk 1 ?_;refine tk 2 ?_;refine tk 3 ?_;refine tk 4 ?_;refine tk 5 ?_;refine tk 6 ?_;refine JD.take 7 rfl rfl (by kernel_rfl) rfl (qb rfl) (Qt.cJ rfl cF rfl) rfl ?_;refine tk 8 ?_;refine JD.take 9 rfl rfl (by kernel_rfl) rfl (qb rfl) (Qt.bF rfl rfl (oh (s:=s)) oo) rfl ?_;refine jt 10 rfl rfl (Ld.fO rfl rfl rfl rfl HQ) (fun _=>?_);refine bJ ?_;refine J.Fv b (Sx.gr s g).aK eI (by exact rfl) ?_
  repeat ((refine J.seq ?_))
  refine J.draw (by kernel_rfl) rfl ?_;refine JW.iR [10] none ?_;refine tk 0 ?_;refine tk 1 ?_;refine tk 2 ?_;refine tk 3 ?_;refine tk 4 ?_;refine tk 5 ?_;refine tk 6 ?_;refine tk 7 ?_;refine JD.take 8 rfl rfl (by kernel_rfl) rfl (qb rfl) (Qt.cJ rfl cF rfl) rfl ?_;refine jl 9 rfl rfl rfl rfl (Ld.ep C1 (qb rfl) rfl (.cons .refl (.cons .refl (.cons .refl .nil)))) (.iH rfl) (fun _=>?_);refine bH ?_;rename_i T;refine J.dZ (YK b Cl h.fr f1 (Sx.gr s g).aK T) ?_
  repeat (first | (refine K.store ?_;first | ((refine JO.ld (Ld.dY rfl rfl (by exact rfl) cF) rfl (fun _=>?_)));refine JO.fu b g (fun x=>{ x with aK:=-1 }) (by exact rfl) ?_ | ((refine JO.ld (Ld.dY rfl rfl (by exact rfl) cF) rfl (fun _=>?_)));refine JO.fu b g (fun x=>{ x with place:=18 }) (by exact rfl) ?_) | refine gn ?_)
  have eL:dH (wF u (Sx.aF s (Sx.gr s g).aK eI) g (Sx.gr s g).aK T) (Sx.bq (Sx.bq (dU (Sx.aF s (Sx.gr s g).aK eI) g (Sx.gr s g).aK) g fun x=>{ x with aK:=-1 }) g fun x=>{ x with place:=18 }):=(YJ Cl h.fr f1 (Sx.gr s g).aK T).to
  (exact J.kJ Tryz.func30 rfl (.cons (.tmp rfl) .nil) ⟨wF u (Sx.aF s (Sx.gr s g).aK eI) g (Sx.gr s g).aK T,eL⟩ (by exact .refl) rfl)
 | false =>
 have FX:¬ (Sx.gr s g).place=15:=by simpa using zm
 cases zn:((Sx.gr s g).place == 16) with
 | true =>
  have rF:(Sx.gr s g).place=16:=by simpa using zn
  obtain ⟨hm,hl⟩:=h.BU (.inr rF);obtain ⟨k,hk,aR⟩:=rK hm;have er:common s g=(Sx.ah (Sx.free s (Sx.op s g).ch) g,true):=by unfold common;simp [rF]
  have C1:=LG b u s k g aR (by omega) (by rw [← hk];exact hl);rw [← hk] at C1;have C2:=JF b u (Sx.free s (Sx.op s g).ch) g hg;have eL:dH u (Sx.ah (Sx.free s (Sx.op s g).ch) g):=hu.to;rw [er]
  repeat (first | (refine K.load ?_;((refine jq rfl rfl rfl (Qt.cJ rfl (cF) (by exact rfl)) ?_))) | (refine K.indexAddr ?_;refine jq rfl rfl rfl (Qt.bF rfl rfl fo fq) ?_) | (refine K.binOp ?_;refine jq rfl rfl rfl ((Qt.cP rfl rfl rfl w1)) ?_) | (refine K.call ?_;first | (refine JO.ld (Ld.bU (O) (qb rfl) rfl (by (exact aL.cons .refl (.cons .refl .nil)))) rfl ?_;intro _) | (refine JO.ld (Ld.bU (C1) (qb rfl) rfl (by (exact aL.cons .refl (.cons .refl (.cons .refl .nil))))) rfl ?_;intro _) | (refine JO.ld (Ld.bU (C2) (qb rfl) rfl (by (exact aL.cons .refl (.cons .refl .nil)))) rfl ?_;intro _)) | refine gn ?_)
  (exact J.kJ Tryz.func30 rfl (.cons (.tmp rfl) .nil) ⟨u,eL⟩ (by exact .refl) rfl)
 | false =>
 have FY:¬ (Sx.gr s g).place=16:=by simpa using zn
 cases zo:((Sx.gr s g).place == 17) with
 | true =>
  have oY:(Sx.gr s g).place=17:=by simpa using zo
  obtain ⟨a,l,f1,f2,f3,f4⟩:=h.BX oY;haveI:Sx.cy a s:=⟨f2⟩
  haveI:oa g a:=⟨Ne.symm f3⟩
  have hr:Sx.gr (Sx.ready s a) g=Sx.gr s g:=Sx.dR.h;have YO:g < (Sx.ready s a).gs.length:=Sx.cy.h;have er:common s g=(Sx.ah (Sx.bq (Sx.ready s a) g fun x=>{ x with ah:=l }) g,true):=by
   unfold common Sx.bq;simp [oY,f1,hr]
  have eL:∀ v,dH (iM u g v) (Sx.ah (Sx.bq (Sx.ready s a) g fun x=>{ x with ah:=l }) g):=fun v=>dH.wk hu.to
  have C1:=Sa u.pB (s.gs.map fun x=>(x.status,x.token)) u.TB (a:Int);haveI:gz (wd b u s) (u.wk g) 3 1 (di (Sx.gr s g).ah) (s.gs.length + g + 12):=⟨yh (u:=u) hg⟩
  have w0:(di (Sx.gr s g).ah)[(0:Int).toNat]?=some [nI (a:Int)]:=by rw [f1];rfl
  have w2:(0:Int) < ((di (Sx.gr s g).ah).length:Int):=by rw [nU,f1];simp
  have w3:((di (Sx.gr s g).ah).take (((di (Sx.gr s g).ah).length:Int)).toNat).drop (1:Int).toNat=di l:=by
   rw [Int.toNat_natCast,List.take_of_length_le (Nat.le_refl _),f1];rfl
  have w4:(1:Int)≤((di (Sx.gr s g).ah).length:Int):=by omega
  have w5:(di l).length≤1000:=by rw [nU];exact f4
  rw [er]
  repeat (first | (refine K.load ?_;((refine jq rfl rfl rfl (Qt.cJ rfl (cF) (by exact rfl)) ?_))) | (refine K.indexAddr ?_;refine jq rfl rfl rfl (Qt.bF rfl rfl fo fq) ?_) | (refine K.binOp ?_;refine jq rfl rfl rfl ((Qt.cP rfl rfl rfl w1)) ?_) | (refine K.call ?_;refine JO.ld (Ld.bU (O) (qb rfl) rfl (by (exact aL.cons .refl (.cons .refl .nil)))) rfl ?_;intro _) | refine gn ?_)
  refine J.draw (by kernel_rfl) rfl ?_;refine JW.iR [7] none ?_;refine tk 0 ?_;refine tk 1 ?_;refine tk 2 ?_;refine tk 3 ?_;refine tk 4 ?_;refine tk 5 ?_;refine tk 6 ?_;refine JD.take 7 rfl rfl (by kernel_rfl) rfl (qb rfl) (Qt.cJ rfl cF rfl) rfl ?_;refine JD.take 8 rfl rfl (by kernel_rfl) rfl (qb rfl) (Qt.bF rfl rfl (by omega) w2) rfl ?_;refine JD.take 9 rfl rfl (by kernel_rfl) rfl (qb rfl) (Qt.cJ rfl w0 rfl) rfl ?_;refine jl 10 rfl rfl rfl rfl (Ld.ep C1 (qb rfl) rfl (.cons .refl (.cons .refl .nil))) (.iH rfl) (fun _=>?_);refine bH ?_;refine J.dZ (YM f2) ?_;refine J.Mr g ?_;refine J.seq ?_;refine J.region ?_
  repeat (first | (refine K.load ?_;refine jq rfl rfl rfl (Qt.cJ rfl (cF) (by exact rfl)) ?_) | (refine K.store ?_;refine JO.ld (Ld.dY rfl rfl (by exact rfl) cF) rfl (fun _=>?_)) | (refine K.slice ?_;refine JO.ld (Hs (qb rfl) rfl rfl rfl (by (omega)) (by (omega)) (by (omega)) (w3)) rfl (fun _=>?_)) | (refine K.bi ?_;refine JO.ld (Ld.xy (qb rfl) rfl rfl .cR (by omega)) rfl ?_;intro v) | refine vl ?_)
  refine JO.nil ?_;refine J.eF 1 ?_;refine J.Ms g v l rfl (by exact rfl) ?_;have C2:=JF b (iM u g v) (Sx.bq (Sx.ready s a) g fun x=>{ x with ah:=l }) g (we YO)
  repeat (first | (refine K.call ?_;refine JO.ld (Ld.bU (C2) (qb rfl) rfl (by (exact aL.cons .refl (.cons .refl .nil)))) rfl ?_;intro _) | refine gn ?_)
  (exact J.kJ Tryz.func30 rfl (.cons (.tmp rfl) .nil) ⟨iM u g v,eL v⟩ (by exact .refl) rfl)
 | false =>
  have FZ:¬ (Sx.gr s g).place=17:=by simpa using zo
  have er:common s g=(s,false):=by unfold common;simp [n4,FU,FV,FX,FY,FZ]
  have eL:dH u s:=hu;rw [er]
  repeat (first | (refine K.load ?_;((refine jq rfl rfl rfl (Qt.cJ rfl (cF) (by exact rfl)) ?_))) | (refine K.indexAddr ?_;refine jq rfl rfl rfl (Qt.bF rfl rfl fo fq) ?_) | (refine K.binOp ?_;refine jq rfl rfl rfl ((Qt.cP rfl rfl rfl w1)) ?_) | (refine K.call ?_;refine JO.ld (Ld.bU (O) (qb rfl) rfl (by (exact aL.cons .refl (.cons .refl .nil)))) rfl ?_;intro _) | refine gn ?_)
  (exact J.kJ Tryz.func30 rfl (.cons (.tmp rfl) .nil) ⟨u,eL⟩ (by exact .refl) rfl)
end Fl
end Go.Proofs.YtofnbflkhgammaaGreat
