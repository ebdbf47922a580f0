/-
  What the laws need, part A36.
  Conditions: none.
-/
import Derived.Test.YtdjhhbpedllnhaaGreatA25
import Derived.Test.YtdjhhbpedllnhaaGreatA35
set_option linter.unusedVariables false
set_option linter.unusedSimpArgs false
set_option linter.unnecessarySimpa false
set_option maxHeartbeats 2000000
namespace Go.Proofs.YtdjhhbpedllnhaaGreat
open Go.RowKit
namespace Fl
open Sx Go.Proofs.Tryz
set_option maxRecDepth 100000
def cA (u:U) (s:ah):Prop:=Po.Inv s.dh.toNat s.bP.toNat (ez u s)
class dP (s' s:ah):Prop where h:s'.dh=s.dh∧s'.bP=s.bP∧s'.cache=s.cache∧s'.middle=s.middle∧s'.fresh=s.fresh
instance (priority:=low) dP.vQ {s:ah}:dP s s:=⟨rfl,rfl,rfl,rfl,rfl⟩
section
variable {s s':ah} {g:Nat} {f:Gr→Gr} {x:Gr} {i:Int} {d:Su} {c:Int} {n:Cn}
instance dP.Cv [h:dP s' s]:dP (aS s' g f) s:=⟨h.h⟩
instance dP.dK [h:dP s' s]:dP (ai s' g x) s:=⟨h.h⟩
instance dP.hJ [h:dP s' s]:dP (aN s' i d) s:=⟨h.h⟩
instance dP.dQ [h:dP s' s]:dP (aA s' c n) s:=⟨h.h⟩
instance dP.aG [h:dP s' s]:dP (Sx.aG s' g i) s:=⟨h.h⟩
instance dP.free [h:dP s' s]:dP (Sx.free s' c) s:=⟨h.h⟩
instance dP.fF [h:dP s' s]:dP (Sx.fF s' g) s:=⟨h.h⟩
instance dP.ready [h:dP s' s]:dP (Sx.ready s' g) s:=⟨h.h⟩
instance dP.ak [h:dP s' s]:dP (Sx.ak s' g) s:=⟨by unfold Sx.ak;split <;> exact h.h⟩
instance dP.drop [h:dP s' s]:dP (aT s' i) s:=⟨by unfold aT;split <;> exact h.h⟩
instance dP.tryLock [h:dP s' s]:dP (Sx.tryLock s' g c).1 s:=⟨by unfold Sx.tryLock;split <;> exact h.h⟩
theorem cA.to {u:U} (h:cA u s) [e:dP s' s]:cA u s':=by
 obtain ⟨e1,e2,e3,e4,e5⟩:=e.h;unfold cA ez at h ⊢;rw [e1,e2,e3,e4,e5];exact h
theorem cA.wk {u:U} {v:Value} (h:cA u s):cA (jh u g v) s:=h
end
section
variable {u:U} {s:ah}
theorem Y2 (v:cA u s) (h0:0≤s.fresh) (y:Int):Po.live (ez u s).f (ez u s).H y=gX s y:=by
 rw [v.live y];unfold gX;have e1:decide (y < ((ez u s).f:Int))=decide (y < s.fresh):=by
  show decide (y < ((s.fresh.toNat:Nat):Int))=_;rw [Int.toNat_of_nonneg h0]
 have e2:decide (Po.dZ (ez u s) y=0)=!(uO s).contains y:=by
  have:Po.dZ (ez u s) y=(uO s).count y:=by unfold uO Po.dZ ez;rw [List.count_append]
  rw [this,Bool.eq_iff_iff];simp [List.count_eq_zero]
 rw [e1,e2]
theorem N3 {g:Nat} (hg:g < s.cache.length):Po.kF (ez u s).C (g:Int)=true:=by
 unfold Po.kF ez;simp;exact hg
abbrev xM (u:U) (s:ah) (g:Nat) (y:Int) (T:List Nat):U:={ u with H:=(Po.cy s.bP.toNat (ez u s) g y).1.H,TP:=T }
theorem N4 (v:cA u s) (h0:0≤s.fresh) {g:Nat} (hg:g < s.cache.length) (y:Int) (T:List Nat):ez (xM u s g y T) (eE s g y)=(Po.cy s.bP.toNat (ez u s) g y).1:=by
 have h1:=Y2 v h0 y;have ht:=N3 (u:=u) hg;have e:(Po.cy s.bP.toNat (ez u s) g y).1=if Po.live (ez u s).f (ez u s).H y then Po.qu s.bP.toNat (ez u s) g (s.cache.getD g []) y else ez u s:=by
  unfold Po.cy;rw [ht,Bool.true_and]
  split <;> rfl
 unfold xM;rw [e];unfold eE;rw [← h1]
 split <;> rfl
theorem N5 {g:Nat} {y:Int}:(eE s g y).dh=s.dh∧(eE s g y).bP=s.bP:=by unfold eE;split <;> exact ⟨rfl,rfl⟩
theorem Y3 (v:cA u s) (h0:0≤s.fresh) {g:Nat} (hg:g < s.cache.length) (y:Int) (T:List Nat):cA (xM u s g y T) (eE s g y):=by
 unfold cA;rw [N4 v h0 hg y T,N5.1,N5.2];exact v.cy g y
theorem Y4 (b:Nat) (v:cA u s) (h0:0≤s.fresh) {g:Nat} (hg:g < s.cache.length) (y:Int) (T:List Nat):wd b (xM u s g y T) (eE s g y)=(wd b u s).set 10 (aO (tP u.pP s.dh.toNat s.bP.toNat (Po.cy s.bP.toNat (ez u s) g y).1) T):=by
 rw [← N4 v h0 hg y T];unfold eE
 split <;> rfl
theorem Y5 {s:ah} {g:Nat} {y i:Int} {d:Su}:eE (aN s i d) g y=aN (eE s g y) i d:=by
 unfold eE;rw [show gX (aN s i d) y=gX s y from rfl]
 split <;> rfl
end
theorem Y6 {b:Nat} {u:U} {s:ah} {g:Nat} (hg:g < s.gs.length):wd b u (Sx.ready s g)=(wd b u s).set 7 (aO (tB u.pB (Bc.oq (s.gs.map fun x=>(x.status,x.token)) g)) u.TB):=by
 have hm:Bc.mem (s.gs.map fun x=>(x.status,x.token)) (g:Int)=((aa s g).status,(aa s g).token):=by
  unfold Bc.mem;rw [Int.toNat_natCast,List.getD_eq_getElem?_getD,CH s hg];rfl
 have hs:Bc.status (s.gs.map fun x=>(x.status,x.token)) (g:Int)=(aa s g).status:=Fu hg;unfold Sx.ready Bc.oq;rw [hs,hm,Int.toNat_natCast]
 by_cases c:(aa s g).status=1
 ·rw [if_pos c,if_pos c,xD b u s g { aa s g with status:=0 } hg rfl]
 ·rw [if_neg c,if_neg c]
  by_cases c0:(aa s g).status=0
  ·rw [if_pos c0,if_pos c0,xD b u s g { aa s g with token:=true } hg rfl,c0]
  ·rw [if_neg c0,if_neg c0,xD b u s g (aa s g) hg rfl,qT (CH s hg)]
def locked (s:ah) (g:Nat) (ch:Int):ah:=if (Sx.tryLock s g ch).2=true then (if (ag s g).kind=6 then Sx.aG (Sx.tryLock s g ch).1 g 21 else Sx.aG (Sx.tryLock s g ch).1 g 5) else s
theorem Y7 (b:Nat) (u:U) (s:ah) (g k:Nat) (hg:g < s.gs.length) (hk:k < s.au.length) (h8:k < 8) (h0:0≤(aa s g).at_) (hc:(ag s g).cases.length≤1000) :
  av prog 114 [.c (.v (pt b)),.c (nI g),.c (nI ((k:Int) + 1 - 1))] (wd b u s) (fun _:Unit=>(.aZ [],wd b u (locked s g ((k:Int) + 1)))):=by
 haveI:Sx.bt g s:=⟨hg⟩
 have W:=WU b u s k g hk h8
 by_cases hl:(cn s ((k:Int) + 1)).lock=-1
 ·have e1:Sx.tryLock s g ((k:Int) + 1)=(aA s ((k:Int) + 1) { cn s ((k:Int) + 1) with lock:=(g:Int) },true):=by unfold Sx.tryLock;rw [if_pos hl]
  rw [e1] at W;dsimp only at W;have O:=Dr b u (aA s ((k:Int) + 1) { cn s ((k:Int) + 1) with lock:=(g:Int) }) g hg h0 hc;refine av.intro func114 rfl rfl rfl (fun ok e=>?_)
  cases xN:((ag s g).kind == 6) with
  | true =>
   have ek:(ag s g).kind=6:=by simpa using xN
   have er:locked s g ((k:Int) + 1)=Sx.aG (aA s ((k:Int) + 1) { cn s ((k:Int) + 1) with lock:=(g:Int) }) g 21:=by unfold locked;rw [e1,if_pos rfl,if_pos ek]
   rw [er]
   repeat (first | (refine K.store ?_;((refine JO.ld (Ld.bQ rfl rfl (by exact rfl) aP) rfl (fun _=>?_)));refine JO.bS b g (fun x=>{ x with place:=21 }) (by exact rfl) ?_) | (refine K.indexAddr ?_;refine jq rfl rfl rfl (Qt.aV rfl rfl cW cX) ?_) | (refine K.call ?_;first | (refine JO.ld (Ld.bw (W) (qb rfl) rfl (by (exact aW.cons .refl (.cons .refl (.cons .refl .nil))))) rfl ?_;intro _) | (refine JO.ld (Ld.bw (O) (qb rfl) rfl (by (exact aW.cons .refl (.cons .refl .nil)))) rfl ?_;intro _)) | refine gn ?_)
   (exact J.ij func114 rfl .nil () (by exact .refl) rfl)
  | false =>
   have ek:¬ (ag s g).kind=6:=by simpa using xN
   have er:locked s g ((k:Int) + 1)=Sx.aG (aA s ((k:Int) + 1) { cn s ((k:Int) + 1) with lock:=(g:Int) }) g 5:=by unfold locked;rw [e1,if_pos rfl,if_neg ek]
   rw [er]
   repeat (first | (refine K.store ?_;((refine JO.ld (Ld.bQ rfl rfl (by exact rfl) aP) rfl (fun _=>?_)));refine JO.bS b g (fun x=>{ x with place:=5 }) (by exact rfl) ?_) | (refine K.indexAddr ?_;refine jq rfl rfl rfl (Qt.aV rfl rfl cW cX) ?_) | (refine K.call ?_;first | (refine JO.ld (Ld.bw (W) (qb rfl) rfl (by (exact aW.cons .refl (.cons .refl (.cons .refl .nil))))) rfl ?_;intro _) | (refine JO.ld (Ld.bw (O) (qb rfl) rfl (by (exact aW.cons .refl (.cons .refl .nil)))) rfl ?_;intro _)) | refine gn ?_)
   (exact J.ij func114 rfl .nil () (by exact .refl) rfl)
 ·have e1:Sx.tryLock s g ((k:Int) + 1)=(s,false):=by unfold Sx.tryLock;rw [if_neg hl]
  rw [e1] at W;dsimp only at W;have er:locked s g ((k:Int) + 1)=s:=by unfold locked;rw [e1,if_neg (by simp)]
  rw [er];refine av.intro func114 rfl rfl rfl (fun ok e=>?_)
  repeat (first | (refine K.call ?_;refine JO.ld (Ld.bw (W) (qb rfl) rfl (by (exact aW.cons .refl (.cons .refl (.cons .refl .nil))))) rfl ?_;intro _) | refine gn ?_)
  (exact J.gF func114 rfl .nil () (by exact .refl) rfl)
structure xO (s:ah) (g:Nat):Prop where
 lt:g < s.gs.length
 dm:0≤(aa s g).at_
 oc:(ag s g).cases.length≤1000
 ch:0≤(ag s g).ch∧(ag s g).ch≤1000
 c8:s.au.length≤8
 fr:0≤s.fresh
 l4:(aa s g).place=4→aL s (ag s g).ch=true
 CX:(aa s g).place=12∨(aa s g).place=16→aL s (ag s g).ch=true∧(cn s (ag s g).ch).lock=g
 CY:(aa s g).place=15→g < s.cache.length∧0≤(aa s g).aI∧(aa s g).aI < s.aB.length
 CZ:(aa s g).place=17→∃ (a:Nat) (l:List Int),(aa s g).ak=(a:Int) :: l∧a < s.gs.length∧a≠g∧l.length≤1000
theorem N6 (b:Nat) (u:U) (s:ah) (g:Nat) (h:xO s g) (hu:cA u s) :
  av prog 69 [.c (.v (pt b)),.c (nI g)] (wd b u s) (fun x:{ u':U // cA u' (common s g).1 }=>(.c (bI (common s g).2),wd b x.1 (common s g).1)):=by
 have hg:=h.lt;haveI:Sx.bt g s:=⟨hg⟩
 have c8:=h.c8;have rB:=h.ch;have O:=Dr b u s g hg h.dm h.oc;have w1:IntKind.i64.wrap ((ag s g).ch - 1)=(ag s g).ch - 1:=eK (by omega) (by omega);refine av.intro func69 rfl rfl rfl (fun ok e=>?_)
 cases p4:((aa s g).place == 4) with
 | true =>
  have e4:(aa s g).place=4:=by simpa using p4
  obtain ⟨k,hk,bZ⟩:=sQ (h.l4 e4);have er:common s g=(locked s g (ag s g).ch,true):=by unfold common locked;simp only [e4];simp;split <;> (try split) <;> rfl
  have C1:=Y7 b u s g k hg bZ (by omega) h.dm h.oc;rw [← hk] at C1;have eI:cA u (locked s g (ag s g).ch):=by
   unfold locked;split
   ·split
    ·exact hu.to
    ·exact hu.to
   ·exact hu
  rw [er]
  repeat (first | (refine K.load ?_;((refine jq rfl rfl rfl (Qt.bM rfl (aP) (by exact rfl)) ?_))) | (refine K.indexAddr ?_;refine jq rfl rfl rfl (Qt.aV rfl rfl cW cX) ?_) | (refine K.binOp ?_;refine jq rfl rfl rfl ((Qt.cI rfl rfl rfl w1)) ?_) | (refine K.call ?_;first | (refine JO.ld (Ld.bw (O) (qb rfl) rfl (by (exact aW.cons .refl (.cons .refl .nil)))) rfl ?_;intro _) | (refine JO.ld (Ld.bw (C1) (qb rfl) rfl (by (exact aW.cons .refl (.cons .refl (.cons .refl .nil))))) rfl ?_;intro _)) | refine gn ?_)
  (exact J.gF func69 rfl (.cons (.tmp rfl) .nil) ⟨u,eI⟩ (by exact .refl) rfl)
 | false =>
 have n4:¬ (aa s g).place=4:=by simpa using p4
 cases As:((aa s g).place == 12) with
 | true =>
  have sG:(aa s g).place=12:=by simpa using As
  obtain ⟨hm,hl⟩:=h.CX (.inl sG);obtain ⟨k,hk,bZ⟩:=sQ hm;have er:common s g=(Sx.aG (Sx.free s (ag s g).ch) g 13,true):=by unfold common;simp [sG]
  have C1:=M4 b u s k g bZ (by omega) (by rw [← hk];exact hl);rw [← hk] at C1;rw [er]
  repeat (first | (refine K.load ?_;((refine jq rfl rfl rfl (Qt.bM rfl (aP) (by exact rfl)) ?_))) | (refine K.store ?_;((refine JO.ld (Ld.bQ rfl rfl (by exact rfl) aP) rfl (fun _=>?_)));refine JO.bS b g (fun x=>{ x with place:=13 }) (by exact rfl) ?_) | (refine K.indexAddr ?_;refine jq rfl rfl rfl (Qt.aV rfl rfl cW cX) ?_) | (refine K.binOp ?_;refine jq rfl rfl rfl ((Qt.cI rfl rfl rfl w1)) ?_) | (refine K.call ?_;first | (refine JO.ld (Ld.bw (O) (qb rfl) rfl (by (exact aW.cons .refl (.cons .refl .nil)))) rfl ?_;intro _) | (refine JO.ld (Ld.bw (C1) (qb rfl) rfl (by (exact aW.cons .refl (.cons .refl (.cons .refl .nil))))) rfl ?_;intro _)) | refine gn ?_)
  have eI:cA u (Sx.aG (Sx.free s (ag s g).ch) g 13):=hu.to
  (exact J.gF func69 rfl (.cons (.tmp rfl) .nil) ⟨u,eI⟩ (by exact .refl) rfl)
 | false =>
 have GI:¬ (aa s g).place=12:=by simpa using As
 cases At:((aa s g).place == 13) with
 | true =>
  have sH:(aa s g).place=13:=by simpa using At
  have er:common s g=(Sx.fF (Sx.aG s g 14) g,true):=by unfold common;simp [sH]
  have C1:=WV b u (aS s g fun x=>{ x with place:=14 }) g (xA hg);rw [er]
  repeat (first | (refine K.load ?_;((refine jq rfl rfl rfl (Qt.bM rfl (aP) (by exact rfl)) ?_))) | (refine K.store ?_;((refine JO.ld (Ld.bQ rfl rfl (by exact rfl) aP) rfl (fun _=>?_)));refine JO.bS b g (fun x=>{ x with place:=14 }) (by exact rfl) ?_) | (refine K.indexAddr ?_;refine jq rfl rfl rfl (Qt.aV rfl rfl cW cX) ?_) | (refine K.binOp ?_;refine jq rfl rfl rfl ((Qt.cI rfl rfl rfl w1)) ?_) | (refine K.call ?_;first | (refine JO.ld (Ld.bw (O) (qb rfl) rfl (by (exact aW.cons .refl (.cons .refl .nil)))) rfl ?_;intro _) | (refine JO.ld (Ld.bw (C1) (qb rfl) rfl (by (exact aW.cons .refl (.cons .refl .nil)))) rfl ?_;intro _)) | refine gn ?_)
  have eI:cA u (Sx.fF (Sx.aG s g 14) g):=hu.to
  (exact J.gF func69 rfl (.cons (.tmp rfl) .nil) ⟨u,eI⟩ (by exact .refl) rfl)
 | false =>
 have GJ:¬ (aa s g).place=13:=by simpa using At
 cases Au:((aa s g).place == 15) with
 | true =>
  have sJ:(aa s g).place=15:=by simpa using Au
  obtain ⟨f1,f2,f3⟩:=h.CY sJ;haveI:Sx.gI (aa s g).aI s:=⟨f2,f3⟩
  have er:common s g=(Sx.aG (ai (Sx.cy s g (aa s g).aI) g { aa s g with aI:=-1 }) g 18,true):=by unfold common;simp [sJ]
  have Ds:cA u (aN s (aa s g).aI fB):=hu.to;have C1:=TC u.pP (aN s (aa s g).aI fB).dh.toNat (aN s (aa s g).aI fB).bP.toNat (ez u (aN s (aa s g).aI fB)) u.TP g (aa s g).aI Ds;have e2:Sx.aG (ai (Sx.cy s g (aa s g).aI) g { aa s g with aI:=-1 }) g 18=aS (aS (eE (aN s (aa s g).aI fB) g (aa s g).aI) g fun x=>{ x with aI:=-1 }) g fun x=>{ x with place:=18 }:=by
   have h3:aa (eE (aN s (aa s g).aI fB) g (aa s g).aI) g=aa s g:=Sx.dD.h;have e3:aS (eE (aN s (aa s g).aI fB) g (aa s g).aI) g (fun x=>{ x with aI:=-1 })=ai (Sx.cy s g (aa s g).aI) g { aa s g with aI:=-1 }:=by
    unfold aS;rw [h3,Y5];rfl
   rw [e3];rfl
  rw [er,e2];have HQ:((aa s g).aI).toNat < (s.aB.map eS).length:=by rw [List.length_map];omega
  repeat (first | (refine K.load ?_;((refine jq rfl rfl rfl (Qt.bM rfl (aP) (by exact rfl)) ?_))) | (refine K.indexAddr ?_;refine jq rfl rfl rfl (Qt.aV rfl rfl cW cX) ?_) | (refine K.binOp ?_;refine jq rfl rfl rfl ((Qt.cI rfl rfl rfl w1)) ?_) | (refine K.call ?_;refine JO.ld (Ld.bw (O) (qb rfl) rfl (by (exact aW.cons .refl (.cons .refl .nil)))) rfl ?_;intro _) | refine gn ?_)
  refine J.draw (by kernel_rfl) rfl ?_;refine JW.base (some 10) ?_;refine tk 0 ?_;refine tk 1 ?_;refine tk 2 ?_;refine tk 3 ?_;refine tk 4 ?_;refine tk 5 ?_;refine tk 6 ?_;refine JD.take 7 rfl rfl (by kernel_rfl) rfl (qb rfl) (Qt.bM rfl aP rfl) rfl ?_;refine tk 8 ?_;refine JD.take 9 rfl rfl (by kernel_rfl) rfl (qb rfl) (Qt.aV rfl rfl (jH (s:=s)) jI) rfl ?_;refine jt 10 rfl rfl (Ld.gz rfl rfl rfl rfl HQ) (fun _=>?_);refine cu ?_;refine J.Cz b (aa s g).aI fB (by exact rfl) ?_
  repeat ((refine J.seq ?_))
  refine J.draw (by kernel_rfl) rfl ?_;refine JW.iU [10] none ?_;refine tk 0 ?_;refine tk 1 ?_;refine tk 2 ?_;refine tk 3 ?_;refine tk 4 ?_;refine tk 5 ?_;refine tk 6 ?_;refine tk 7 ?_;refine JD.take 8 rfl rfl (by kernel_rfl) rfl (qb rfl) (Qt.bM rfl aP rfl) rfl ?_;refine jl 9 rfl rfl rfl rfl (Ld.eN C1 (qb rfl) rfl (.cons .refl (.cons .refl (.cons .refl .nil)))) (.iT rfl) (fun _=>?_);refine bX ?_;rename_i T;refine J.fQ (Y4 b Ds h.fr f1 (aa s g).aI T) ?_
  repeat (first | (refine K.store ?_;first | ((refine JO.ld (Ld.bQ rfl rfl (by exact rfl) aP) rfl (fun _=>?_)));refine JO.bS b g (fun x=>{ x with aI:=-1 }) (by exact rfl) ?_ | ((refine JO.ld (Ld.bQ rfl rfl (by exact rfl) aP) rfl (fun _=>?_)));refine JO.bS b g (fun x=>{ x with place:=18 }) (by exact rfl) ?_) | refine gn ?_)
  have eI:cA (xM u (aN s (aa s g).aI fB) g (aa s g).aI T) (aS (aS (eE (aN s (aa s g).aI fB) g (aa s g).aI) g fun x=>{ x with aI:=-1 }) g fun x=>{ x with place:=18 }):=(Y3 Ds h.fr f1 (aa s g).aI T).to
  (exact J.gF func69 rfl (.cons (.tmp rfl) .nil) ⟨xM u (aN s (aa s g).aI fB) g (aa s g).aI T,eI⟩ (by exact .refl) rfl)
 | false =>
 have GK:¬ (aa s g).place=15:=by simpa using Au
 cases Av:((aa s g).place == 16) with
 | true =>
  have sK:(aa s g).place=16:=by simpa using Av
  obtain ⟨hm,hl⟩:=h.CX (.inr sK);obtain ⟨k,hk,bZ⟩:=sQ hm;have er:common s g=(Sx.ak (Sx.free s (ag s g).ch) g,true):=by unfold common;simp [sK]
  have C1:=M4 b u s k g bZ (by omega) (by rw [← hk];exact hl);rw [← hk] at C1;have C2:=KF b u (Sx.free s (ag s g).ch) g hg;have eI:cA u (Sx.ak (Sx.free s (ag s g).ch) g):=hu.to;rw [er]
  repeat (first | (refine K.load ?_;((refine jq rfl rfl rfl (Qt.bM rfl (aP) (by exact rfl)) ?_))) | (refine K.indexAddr ?_;refine jq rfl rfl rfl (Qt.aV rfl rfl cW cX) ?_) | (refine K.binOp ?_;refine jq rfl rfl rfl ((Qt.cI rfl rfl rfl w1)) ?_) | (refine K.call ?_;first | (refine JO.ld (Ld.bw (O) (qb rfl) rfl (by (exact aW.cons .refl (.cons .refl .nil)))) rfl ?_;intro _) | (refine JO.ld (Ld.bw (C1) (qb rfl) rfl (by (exact aW.cons .refl (.cons .refl (.cons .refl .nil))))) rfl ?_;intro _) | (refine JO.ld (Ld.bw (C2) (qb rfl) rfl (by (exact aW.cons .refl (.cons .refl .nil)))) rfl ?_;intro _)) | refine gn ?_)
  (exact J.gF func69 rfl (.cons (.tmp rfl) .nil) ⟨u,eI⟩ (by exact .refl) rfl)
 | false =>
 have GL:¬ (aa s g).place=16:=by simpa using Av
 cases Aw:((aa s g).place == 17) with
 | true =>
  have pS:(aa s g).place=17:=by simpa using Aw
  obtain ⟨a,l,f1,f2,f3,f4⟩:=h.CZ pS;haveI:Sx.bt a s:=⟨f2⟩
  haveI:lQ g a:=⟨Ne.symm f3⟩
  have hr:aa (Sx.ready s a) g=aa s g:=Sx.dD.h;have Y8:g < (Sx.ready s a).gs.length:=Sx.bt.h;have er:common s g=(Sx.ak (aS (Sx.ready s a) g fun x=>{ x with ak:=l }) g,true):=by
   unfold common aS;simp [pS,f1,hr]
  have eI:∀ v,cA (jh u g v) (Sx.ak (aS (Sx.ready s a) g fun x=>{ x with ak:=l }) g):=fun v=>cA.wk hu.to
  have C1:=Tt u.pB (s.gs.map fun x=>(x.status,x.token)) u.TB (a:Int);haveI:gU (wd b u s) (u.wk g) 3 1 (dO (aa s g).ak) (s.gs.length + g + 12):=⟨zl (u:=u) hg⟩
  have w0:(dO (aa s g).ak)[(0:Int).toNat]?=some [nI (a:Int)]:=by rw [f1];rfl
  have w2:(0:Int) < ((dO (aa s g).ak).length:Int):=by rw [oH,f1];simp
  have w3:((dO (aa s g).ak).take (((dO (aa s g).ak).length:Int)).toNat).drop (1:Int).toNat=dO l:=by
   rw [Int.toNat_natCast,List.take_of_length_le (Nat.le_refl _),f1];rfl
  have w4:(1:Int)≤((dO (aa s g).ak).length:Int):=by omega
  have w5:(dO l).length≤1000:=by rw [oH];exact f4
  rw [er]
  repeat (first | (refine K.load ?_;((refine jq rfl rfl rfl (Qt.bM rfl (aP) (by exact rfl)) ?_))) | (refine K.indexAddr ?_;refine jq rfl rfl rfl (Qt.aV rfl rfl cW cX) ?_) | (refine K.binOp ?_;refine jq rfl rfl rfl ((Qt.cI rfl rfl rfl w1)) ?_) | (refine K.call ?_;refine JO.ld (Ld.bw (O) (qb rfl) rfl (by (exact aW.cons .refl (.cons .refl .nil)))) rfl ?_;intro _) | refine gn ?_)
  refine J.draw (by kernel_rfl) rfl ?_;refine JW.iU [7] none ?_;refine tk 0 ?_;refine tk 1 ?_;refine tk 2 ?_;refine tk 3 ?_;refine tk 4 ?_;refine tk 5 ?_;refine tk 6 ?_;refine JD.take 7 rfl rfl (by kernel_rfl) rfl (qb rfl) (Qt.bM rfl aP rfl) rfl ?_;refine JD.take 8 rfl rfl (by kernel_rfl) rfl (qb rfl) (Qt.aV rfl rfl (by omega) w2) rfl ?_;refine JD.take 9 rfl rfl (by kernel_rfl) rfl (qb rfl) (Qt.bM rfl w0 rfl) rfl ?_;refine jl 10 rfl rfl rfl rfl (Ld.eN C1 (qb rfl) rfl (.cons .refl (.cons .refl .nil))) (.iT rfl) (fun _=>?_);refine bX ?_;refine J.fQ (Y6 f2) ?_;refine J.Nc g ?_;refine J.seq ?_;refine J.region ?_
  repeat (first | (refine K.load ?_;refine jq rfl rfl rfl (Qt.bM rfl (aP) (by exact rfl)) ?_) | (refine K.store ?_;refine JO.ld (Ld.bQ rfl rfl (by exact rfl) aP) rfl (fun _=>?_)) | (refine K.slice ?_;refine JO.ld (IY (qb rfl) rfl rfl rfl (by (omega)) (by (omega)) (by (omega)) (w3)) rfl (fun _=>?_)) | (refine K.bi ?_;refine JO.ld (Ld.yC (qb rfl) rfl rfl .de (by omega)) rfl ?_;intro v) | refine tu ?_)
  refine JO.nil ?_;refine J.dF 1 ?_;refine J.Nd g v l rfl (by exact rfl) ?_;have C2:=KF b (jh u g v) (aS (Sx.ready s a) g fun x=>{ x with ak:=l }) g (xA Y8)
  repeat (first | (refine K.call ?_;refine JO.ld (Ld.bw (C2) (qb rfl) rfl (by (exact aW.cons .refl (.cons .refl .nil)))) rfl ?_;intro _) | refine gn ?_)
  (exact J.gF func69 rfl (.cons (.tmp rfl) .nil) ⟨jh u g v,eI v⟩ (by exact .refl) rfl)
 | false =>
  have GM:¬ (aa s g).place=17:=by simpa using Aw
  have er:common s g=(s,false):=by unfold common;simp [n4,GI,GJ,GK,GL,GM]
  have eI:cA u s:=hu;rw [er]
  repeat (first | (refine K.load ?_;((refine jq rfl rfl rfl (Qt.bM rfl (aP) (by exact rfl)) ?_))) | (refine K.indexAddr ?_;refine jq rfl rfl rfl (Qt.aV rfl rfl cW cX) ?_) | (refine K.binOp ?_;refine jq rfl rfl rfl ((Qt.cI rfl rfl rfl w1)) ?_) | (refine K.call ?_;refine JO.ld (Ld.bw (O) (qb rfl) rfl (by (exact aW.cons .refl (.cons .refl .nil)))) rfl ?_;intro _) | refine gn ?_)
  (exact J.gF func69 rfl (.cons (.tmp rfl) .nil) ⟨u,eI⟩ (by exact .refl) rfl)
end Fl
open Go.RowKit
namespace Fl
open Sx Go.Proofs.Tryz
set_option maxRecDepth 100000
structure G7 (s:ah):Prop extends Fw s where
 qs:Qs s
 st:∀ g:Nat,g < s.gs.length→0≤(aa s g).status∧(aa s g).status≤2
 lk:∀ k:Nat,k < s.au.length→(cn s ((k:Int) + 1)).lock=-1∨0≤(cn s ((k:Int) + 1)).lock
 Y9:∀ k:Nat,k < s.au.length→0≤(cn s ((k:Int) + 1)).cap∧(cn s ((k:Int) + 1)).cap≤64∧(((cn s ((k:Int) + 1)).buf.length:Nat):Int)≤(cn s ((k:Int) + 1)).cap
 ql:∀ k:Nat,k < s.au.length→(cn s ((k:Int) + 1)).recv.length≤1000∧(cn s ((k:Int) + 1)).send.length≤1000
 sN:0≤s.dh
 cN:0≤s.bP
 po:Po.of s.dh.toNat s.bP.toNat s.fresh.toNat s.cache s.middle=true
 pi:∀ H,Po.settle s.fresh.toNat (List.replicate s.dh.toNat false) (s.cache.flatten ++ s.middle)=(H,true)→Po.Inv s.dh.toNat s.bP.toNat ⟨s.cache,s.middle,s.fresh.toNat,H⟩
 d0:0≤s.drawn
 d1:s.drawn≤s.dG.length
theorem Za {u u':U} {s:ah} {k:Nat} {v w:Value} (e1:u'.sg k=v) (e2:u'.wk k=w) (h:∀ j,j < k→u'.sg j=u.sg j∧u'.wk j=u.wk j) :
  (uf u' s (k + 1)).Perm (.row w 3 1 (dO (aa s k).ak) :: .row v 3 1 (dO (aa s k).ax) :: uf u s k):=by
 have h1:((List.range (k + 1)).map fun g=>an.row (u'.sg g) 3 1 (dO (aa s g).ax))=((List.range k).map fun g=>an.row (u.sg g) 3 1 (dO (aa s g).ax)) ++ [.row v 3 1 (dO (aa s k).ax)]:=(Ao (by rw [e1]) fun j hj=>by rw [(h j hj).1]).symm;have h2:((List.range (k + 1)).map fun g=>an.row (u'.wk g) 3 1 (dO (aa s g).ak))=((List.range k).map fun g=>an.row (u.wk g) 3 1 (dO (aa s g).ak)) ++ [.row w 3 1 (dO (aa s k).ak)]:=(Ao (by rw [e2]) fun j hj=>by rw [(h j hj).2]).symm;unfold uf;rw [h1,h2];generalize ((List.range k).map fun g=>an.row (u.sg g) 3 1 (dO (aa s g).ax))=A;generalize ((List.range k).map fun g=>an.row (u.wk g) 3 1 (dO (aa s g).ak))=B;rw [← List.append_assoc];refine (List.perm_append_comm (l₁:=A ++ [_] ++ B) (l₂:=[_])).trans ?_;refine List.Perm.cons _ ?_;rw [List.append_assoc];exact List.perm_middle
abbrev uG (u:U) (k:Nat) (x:Value × Value × Value):U:={ u with vG:=x.1,sg:=fun i=>if i=k then x.2.1 else u.sg i,wk:=fun i=>if i=k then x.2.2 else u.wk i }
theorem Zb (u:U) (s:ah) (k:Nat) (x:Value × Value × Value):sR u s k ++ [gW (aa s k) x.2.1 x.2.2]=sR (uG u k x) s (k + 1) :=
 Ao (by simp) fun j hj=>by have:j≠k:=(by omega);simp [this]
theorem Dt (s:ah) (h:G7 s) :
  av prog 14 [.agg (aD s)] [] (fun x:{ x:Nat × U // cA x.2 s }=>(.c (.v (pt x.1.1)),wd x.1.1 x.1.2 s)):=by
 have g8:=h.gs;have c8:=h.ch;have mw:=h.su;have dn:=h.dn;have dr:=h.dr;have d0:=h.d0;have d1:=h.d1;have fr:=h.fr;have sN:=h.sN;have cN:=h.cN;have CB:=Tv (s.gs.length:Int);rw [Wz g8] at CB;have CL:=Ty (s.au.length:Int);rw [WC c8] at CL;have CD:=TK s.dG dr;have CQ:=TA s.aB.length 16 mw (by omega);rw [WI (s:=s)] at CQ;have CP:=W1 s.dh.toNat s.bP.toNat s.fresh.toNat s.cache s.middle h.mb h.cb h.po;rw [show ((s.dh.toNat:Nat):Int)=s.dh by omega,show ((s.bP.toNat:Nat):Int)=s.bP by omega,show ((s.fresh.toNat:Nat):Int)=s.fresh by omega] at CP;refine av.intro func14 rfl rfl rfl (fun ok e=>?_)
 repeat (first | refine ay ?_ | intro _)
 refine J.draw (by kernel_rfl) rfl ?_;refine JW.base none ?_;refine tk 0 ?_;refine tk 1 ?_;refine tk 2 ?_;refine tk 3 ?_;refine tk 4 ?_;refine tk 5 ?_;refine tk 6 ?_;refine tk 8 ?_;refine tk 9 ?_;refine tk 10 ?_;refine tk 12 ?_;refine tk 13 ?_;refine tk 15 ?_;refine tk 16 ?_;refine tk 18 ?_;refine tk 19 ?_;refine tk 21 ?_;refine tk 22 ?_;refine jl 7 rfl rfl rfl rfl (Ld.wV CB (qb rfl) rfl (.cons .refl .nil)) .none (fun _=>?_);refine jl 11 rfl rfl rfl rfl (Ld.wV CL (qb rfl) rfl (.cons .refl .nil)) .none (fun _=>?_);refine jl 14 rfl rfl rfl rfl (Ld.yC (qb rfl) rfl rfl .read (by (simp;omega))) .none (fun _=>?_);refine jl 17 rfl rfl rfl rfl (Ld.wV CD (qb rfl) rfl (.cons .refl .nil)) .none (fun _=>?_);refine jl 20 rfl rfl rfl rfl (Ld.iV (qb rfl) rfl rfl .read (by (simp;omega))) .none (fun _=>?_);refine jl 23 rfl rfl rfl rfl (Ld.yC (qb rfl) rfl rfl .read (by (simp;omega))) .none (fun _=>?_);refine jk 24 rfl rfl rfl rfl (Qt.build rfl (by kernel_rfl)) ?_;refine jl 25 rfl rfl rfl rfl (Ld.box (qb rfl) rfl rfl) .none (fun _=>?_);refine jk 26 rfl rfl rfl rfl (Qt.assign rfl) ?_;refine bX ?_;rename_i b1 xB xL vS bD _ vM bW
 repeat (first | (refine K.store ?_;refine JO.ld (Ld.di rfl rfl (by exact rfl)) rfl (fun _=>?_)) | (refine K.call ?_;first | (refine JO.ld (Ld.wV CQ (qb rfl) rfl (.cons .refl (.cons .refl .nil))) rfl ?_;intro xQ) | (refine JO.ld (Ld.wV CP (qb rfl) rfl (.cons .refl (.cons .refl (.cons .refl (.cons .refl (.cons .refl .nil)))))) rfl ?_;intro xP)) | refine gn ?_)
 have CS:=TN bD s.dG s.drawn d0 d1 dr;refine J.draw (by kernel_rfl) rfl ?_;refine JW.iU [4] none ?_;refine tk 0 ?_;refine tk 1 ?_;refine tk 2 ?_;refine tk 3 ?_;refine tk 4 ?_;refine tk 5 ?_;refine jl 6 rfl rfl rfl rfl (Ld.eN CS (qb rfl) rfl (.cons .refl (.cons .refl .nil))) (.nu rfl) (fun _=>?_);refine bX ?_;refine J.oG 47 25 ?_;refine J.oG 106 1 ?_;refine J.oG 4 1 ?_;refine J.Uv (Φ:=tR []) tR.ok tR.none ?_;obtain ⟨u0,rA⟩:∃ u:U,u=⟨.slice none 0 0,xB.1,.slice none 0 0,.slice none 0 0,xL.1,xQ.1,vS,xP.1.1,bD,vM,xB.2,xL.2,xQ.2,xP.1.2.1,[],xP.1.2.2,fun _=>.slice none 0 0,fun _=>.slice none 0 0,fun _=>.slice none 0 0⟩:=⟨_,rfl⟩
 have Zc:cA u0 s:=by rw [rA];exact h.pi _ (by rw [show ((s.fresh.toNat:Nat):Int)=s.fresh by omega];exact xP.2)
 have hv:u0.vG=.slice none 0 0∧u0.vR=.slice none 0 0∧u0.vC=.slice none 0 0:=by rw [rA];exact ⟨rfl,rfl,rfl⟩
 refine J.perm (L2:=.box b1 36 (aD s) :: wo bW u0 s (sR u0 s 0) (bK s 0) (mA u0 0) (kr s 0) (lK s 0) (qK s 0 0 0) (pW u0 s 0) (uf u0 s 0)) ?_ ?_
 ·subst rA
  repeat (first | exact List.Perm.refl _ | refine iu 0 rfl rfl ?_ | refine iu 1 rfl rfl ?_ | refine iu 2 rfl rfl ?_ | refine iu 3 rfl rfl ?_ | refine iu 4 rfl rfl ?_ | refine iu 5 rfl rfl ?_ | refine iu 6 rfl rfl ?_ | refine iu 7 rfl rfl ?_ | refine iu 8 rfl rfl ?_ | refine iu 9 rfl rfl ?_ | refine iu 10 rfl rfl ?_ | refine iu 11 rfl rfl ?_ | refine iu 12 rfl rfl ?_)
 clear rA
 repeat (refine gn ?_)
 refine J.loop (ι:={ q:Nat × Value × (Nat→Value) × (Nat→Value) // q.1≤s.gs.length }) (fun q=>[(73,.c (nI q.1.1)),(72,.c (nI s.gs.length)),(71,.c (.r 25 (s.gs.map eG))),(3,.c (.v (pt bW))),(1,.c (.v (pt b1)))]) (fun q=>.box b1 36 (aD s) :: wo bW { u0 with vG:=q.1.2.1,sg:=q.1.2.2.1,wk:=q.1.2.2.2 } s (sR { u0 with vG:=q.1.2.1,sg:=q.1.2.2.1,wk:=q.1.2.2.2 } s q.1.1) (bK s q.1.1) (mA u0 0) (kr s 0) (lK s 0) (qK s 0 0 0) (pW u0 s 0) (uf { u0 with vG:=q.1.2.1,sg:=q.1.2.2.1,wk:=q.1.2.2.2 } s q.1.1)) (fun q=>s.gs.length - q.1.1) ⟨(0,u0.vG,u0.sg,u0.wk),Nat.zero_le _⟩ (fun X h=>h.bO ⟨rfl,rfl,rfl,rfl,rfl,trivial⟩) (fun q ih=>?_);obtain ⟨⟨k,vG,sg,wk⟩,hk⟩:=q;simp only at hk ih ⊢
 by_cases bZ:k < s.gs.length
 ·have t1:(decide ((k:Int) < (s.gs.length:Int)))=true:=by simpa using bZ
  have hx:s.gs[k]?=some (aa s k):=by unfold aa;rw [List.getD_eq_getElem?_getD,List.getElem?_eq_getElem bZ];rfl
  have hm:=List.mem_of_getElem? hx;obtain ⟨o1,o2⟩:=h.op _ hm;obtain ⟨o3,o4,o5,o6⟩:=h.KI _ hm;have BS:=Tu u0.pB (bK s k) u0.TB (k:Int) (aa s k).status (aa s k).token;rw [Wy bZ (h.st k bZ)] at BS;have CG:=W6 (aa s k) o1 o2 o3 o4 o5 o6;have gl:(sR { u0 with vG:=vG,sg:=sg,wk:=wk } s k).length≤8:=by simp [sR];omega
  repeat (first | (refine K.store ?_;refine JO.ld (Ld.bh rfl rfl rfl (by exact rfl) (by exact rfl)) rfl (fun _=>?_)) | refine ay ?_ | intro _)
  refine J.draw (by kernel_rfl) rfl ?_;refine JW.iU [9] none ?_;refine tk 0 ?_;refine tk 1 ?_;refine tk 2 ?_;refine tk 3 ?_;refine tk 4 ?_;refine tk 5 ?_;refine tk 6 ?_;refine tk 7 ?_;refine tk 8 ?_;refine jl 9 rfl rfl rfl rfl (Ld.eN BS (qb rfl) rfl (.cons .refl (.cons .refl (.cons .refl (.cons .refl .nil))))) (.iT rfl) (fun _=>?_);refine bX ?_
  repeat (first | (refine K.store ?_;first | refine JO.ld (Ld.bh rfl rfl rfl (by exact rfl) (by exact rfl)) rfl (fun _=>?_) | refine JO.ld (Ld.di rfl rfl (by exact rfl)) rfl (fun _=>?_)) | (refine K.call ?_;refine JO.ld (Ld.W5 CG (qb rfl) rfl (.cons .refl .nil)) rfl ?_;intro x) | refine gn ?_)
  refine J.draw (by kernel_rfl) rfl ?_;refine JW.iU [5] (some 10) ?_;refine tk 0 ?_;refine tk 1 ?_;refine tk 2 ?_;refine tk 3 ?_;refine tk 4 ?_;refine tk 5 ?_;refine jl 6 rfl rfl rfl rfl (Ld.oW (qb rfl) rfl rfl rfl rfl rfl) .none (fun _=>?_);refine jl 7 rfl rfl rfl rfl (Ld.cB (qb rfl) rfl rfl .read (by (simp;omega))) (.uM rfl) (fun _=>?_);refine jk 8 rfl rfl rfl rfl (Qt.nilCheck rfl rfl) ?_;refine jk 9 rfl rfl rfl rfl (Qt.fieldAddr rfl rfl) ?_;refine jt 10 rfl rfl (Ld.di rfl rfl (by exact rfl)) (fun _=>?_);refine cu ?_
  repeat (refine gn ?_)
  rename_i b5 _ _ _ _ _ _ xR _;refine J.dF 3 ?_;refine J.perm (L2:=.box b1 36 (aD s) :: wo bW (uG { u0 with vG:=vG,sg:=sg,wk:=wk } k (xR,x)) s (sR (uG { u0 with vG:=vG,sg:=sg,wk:=wk } k (xR,x)) s (k + 1)) (bK s (k + 1)) (mA u0 0) (kr s 0) (lK s 0) (qK s 0 0 0) (pW u0 s 0) (uf (uG { u0 with vG:=vG,sg:=sg,wk:=wk } k (xR,x)) s (k + 1))) ?_ ?_
  ·rw [← Zb]
   repeat (first | refine iu 0 rfl rfl ?_ | refine iu 1 rfl rfl ?_ | refine iu 2 rfl rfl ?_ | refine iu 3 rfl rfl ?_ | refine iu 4 rfl rfl ?_)
   exact Za (u:={ u0 with vG:=vG,sg:=sg,wk:=wk }) (if_pos rfl) (if_pos rfl) fun j hj=>⟨if_neg (by omega),if_neg (by omega)⟩
  ·exact (ih ⟨(k + 1,xR,(uG { u0 with vG:=vG,sg:=sg,wk:=wk } k (xR,x)).sg,(uG { u0 with vG:=vG,sg:=sg,wk:=wk } k (xR,x)).wk),by simp only;omega⟩ (by simp only;omega)).bO ⟨rfl,rfl,rfl,rfl,rfl,trivial⟩
 ·have t1:(decide ((k:Int) < (s.gs.length:Int)))=false:=by simpa using bZ
  obtain rfl:k=s.gs.length:=by omega
  rw [WA]
  repeat (refine gn ?_)
  have N7:cA { u0 with vG:=vG,sg:=sg,wk:=wk } s:=Zc;generalize Ds:({ u0 with vG:=vG,sg:=sg,wk:=wk }:U)=u1 at N7 ⊢;refine J.loop (ι:={ q:Nat × Value × Value × List Nat × (Nat→Value) // q.1≤s.au.length }) (fun q=>[(106,.c (nI q.1.1)),(105,.c (nI s.au.length)),(104,.c (.r 6 (s.au.map eC))),(3,.c (.v (pt bW))),(1,.c (.v (pt b1)))]) (fun q=>.box b1 36 (aD s) :: wo bW { u1 with vR:=q.1.2.1,vC:=q.1.2.2.1,TR:=q.1.2.2.2.1,rs:=q.1.2.2.2.2 } s (sR u1 s s.gs.length) (s.gs.map fun x=>(x.status,x.token)) (mA { u1 with vR:=q.1.2.1,vC:=q.1.2.2.1,TR:=q.1.2.2.2.1,rs:=q.1.2.2.2.2 } q.1.1) (kr s q.1.1) (lK s q.1.1) (qK s q.1.1 0 0) (pW { u1 with vR:=q.1.2.1,vC:=q.1.2.2.1,TR:=q.1.2.2.2.1,rs:=q.1.2.2.2.2 } s q.1.1) (uf u1 s s.gs.length)) (fun q=>s.au.length - q.1.1) ⟨(0,u1.vR,u1.vC,u1.TR,u1.rs),Nat.zero_le _⟩ (fun X h=>?_) (fun q kj=>?_)
  ·exact h.bO ⟨rfl,rfl,rfl,rfl,rfl,trivial⟩
  obtain ⟨⟨j,vR,vC,TR,rs⟩,hj⟩:=q;simp only at hj kj ⊢
  by_cases eP:j < s.au.length
  ·have t1:(decide ((j:Int) < (s.au.length:Int)))=true:=by simpa using eP
   have hx:(s.au.map eC)[((j:Int)).toNat]?=some (eC (cn s ((j:Int) + 1))):=by rw [Int.toNat_natCast,List.getElem?_map,lH eP];rfl
   have CA:=Xa bW { u1 with vR:=vR,vC:=vC,TR:=TR,rs:=rs } s j (sR u1 s s.gs.length) (s.gs.map fun x=>(x.status,x.token)) (uf u1 s s.gs.length) eP h.qs (h.Y9 j eP) (h.lk j eP) (h.ql j eP).1 (h.ql j eP).2
   repeat (first | (refine K.store ?_;refine JO.ld (Ld.bh rfl rfl rfl (by exact rfl) (by exact rfl)) rfl (fun _=>?_)) | (refine K.call ?_;refine JO.ld (Ld.bw CA (qb rfl) rfl (.cons .refl (.cons .refl (.cons .refl .nil)))) rfl ?_;intro x) | refine ay ?_ | intro _)
   refine J.dF 0 ?_;exact (kj ⟨(j + 1,x.2.1,x.2.2.1,TR ++ x.2.2.2,fun i=>if i=j then x.1 else rs i),by simp only;omega⟩ (by simp only;omega)).bO ⟨rfl,rfl,rfl,rfl,rfl,trivial⟩
  ·have t1:(decide ((j:Int) < (s.au.length:Int)))=false:=by simpa using eP
   obtain rfl:j=s.au.length:=by omega
   rw [WE,WK,show kr s s.au.length=s.au.map fun c=>[bI c.closed] by unfold kr;rw [List.take_of_length_le (Nat.le_refl _)]]
   repeat (refine gn ?_)
   refine J.fQ (L':=.box b1 36 (aD s) :: wd bW { u1 with vR:=vR,vC:=vC,TR:=TR,rs:=rs } s) rfl ?_
   (exact J.jR [_] rfl func14 rfl (.cons (.tmp rfl) .nil) ⟨(bW,{ u1 with vR:=vR,vC:=vC,TR:=TR,rs:=rs }),N7⟩ (by exact .refl) rfl)
end Fl
end Go.Proofs.YtdjhhbpedllnhaaGreat
