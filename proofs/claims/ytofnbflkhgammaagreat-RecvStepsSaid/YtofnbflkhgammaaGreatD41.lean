/-
  What the laws need, part D41.
  Conditions: none.
-/
import Derived.Test.YtofnbflkhgammaaGreatD23
import Derived.Test.YtofnbflkhgammaaGreatD40
set_option linter.unusedVariables false
set_option linter.unusedSimpArgs false
set_option linter.unnecessarySimpa false
set_option maxHeartbeats 2000000
namespace Go.Proofs.YtofnbflkhgammaaGreat
open Go.RowKit
namespace Fl
open Sx Go.Proofs.Tryz
set_option maxRecDepth 100000
def dG (u:U) (s:ah):Prop:=Po.Inv s.cV.toNat s.bN.toNat (ee u s)
class ep (s' s:ah):Prop where h:s'.cV=s.cV∧s'.bN=s.bN∧s'.cache=s.cache∧s'.middle=s.middle∧s'.fresh=s.fresh
instance (priority:=low) ep.Dk {s:ah}:ep s s:=⟨rfl,rfl,rfl,rfl,rfl⟩
section
variable {s s':ah} {g:Nat} {f:Gr→Gr} {x:Gr} {i:Int} {d:Su} {c:Int} {n:Cn}
instance ep.Cz [h:ep s' s]:ep (bg s' g f) s:=⟨h.h⟩
instance ep.dy [h:ep s' s]:ep (ai s' g x) s:=⟨h.h⟩
instance ep.fW [h:ep s' s]:ep (aR s' i d) s:=⟨h.h⟩
instance ep.dJ [h:ep s' s]:ep (aE s' c n) s:=⟨h.h⟩
instance ep.aI [h:ep s' s]:ep (Sx.aI s' g i) s:=⟨h.h⟩
instance ep.free [h:ep s' s]:ep (Sx.free s' c) s:=⟨h.h⟩
instance ep.fA [h:ep s' s]:ep (Sx.fA s' g) s:=⟨h.h⟩
instance ep.ready [h:ep s' s]:ep (Sx.ready s' g) s:=⟨h.h⟩
instance ep.pair [h:ep s' s]:ep (Sx.pair s' g i) s:=⟨h.h⟩
instance ep.serve {b:Bool} [h:ep s' s]:ep (Sx.serve s' g i b) s:=⟨h.h⟩
instance ep.an [h:ep s' s]:ep (Sx.an s' g) s:=⟨by unfold Sx.an;split <;> exact h.h⟩
instance ep.drop [h:ep s' s]:ep (bq s' i) s:=⟨by unfold bq;split <;> exact h.h⟩
instance ep.tryLock [h:ep s' s]:ep (Sx.tryLock s' g c).1 s:=⟨by unfold Sx.tryLock;split <;> exact h.h⟩
theorem dG.to {u:U} (h:dG u s) [e:ep s' s]:dG u s':=by
 obtain ⟨e1,e2,e3,e4,e5⟩:=e.h;unfold dG ee at h ⊢;rw [e1,e2,e3,e4,e5];exact h
theorem dG.wk {u:U} {v:Value} (h:dG u s):dG (kM u g v) s:=h
end
section
variable {u:U} {s:ah}
theorem Y9 (v:dG u s) (h0:0≤s.fresh) (y:Int):Po.live (ee u s).f (ee u s).H y=gG s y:=by
 rw [v.live y];unfold gG;have e1:decide (y < ((ee u s).f:Int))=decide (y < s.fresh):=by
  show decide (y < ((s.fresh.toNat:Nat):Int))=_;rw [Int.toNat_of_nonneg h0]
 have e2:decide (Po.dZ (ee u s) y=0)=!(uL s).contains y:=by
  have:Po.dZ (ee u s) y=(uL s).count y:=by unfold uL Po.dZ ee;rw [List.count_append]
  rw [this,Bool.eq_iff_iff];simp [List.count_eq_zero]
 rw [e1,e2]
theorem OE {g:Nat} (hg:g < s.cache.length):Po.ko (ee u s).C (g:Int)=true:=by
 unfold Po.ko ee;simp;exact hg
abbrev xS (u:U) (s:ah) (g:Nat) (y:Int) (T:List Nat):U:={ u with H:=(Po.cq s.bN.toNat (ee u s) g y).1.H,TP:=T }
theorem OF (v:dG u s) (h0:0≤s.fresh) {g:Nat} (hg:g < s.cache.length) (y:Int) (T:List Nat):ee (xS u s g y T) (ez s g y)=(Po.cq s.bN.toNat (ee u s) g y).1:=by
 have h1:=Y9 v h0 y;have ht:=OE (u:=u) hg;have e:(Po.cq s.bN.toNat (ee u s) g y).1=if Po.live (ee u s).f (ee u s).H y then Po.qz s.bN.toNat (ee u s) g (s.cache.getD g []) y else ee u s:=by
  unfold Po.cq;rw [ht,Bool.true_and]
  split <;> rfl
 unfold xS;rw [e];unfold ez;rw [← h1]
 split <;> rfl
theorem OG {g:Nat} {y:Int}:(ez s g y).cV=s.cV∧(ez s g y).bN=s.bN:=by unfold ez;split <;> exact ⟨rfl,rfl⟩
theorem Za (v:dG u s) (h0:0≤s.fresh) {g:Nat} (hg:g < s.cache.length) (y:Int) (T:List Nat):dG (xS u s g y T) (ez s g y):=by
 unfold dG;rw [OF v h0 hg y T,OG.1,OG.2];exact v.cq g y
theorem Zb (b:Nat) (v:dG u s) (h0:0≤s.fresh) {g:Nat} (hg:g < s.cache.length) (y:Int) (T:List Nat):wd b (xS u s g y T) (ez s g y)=(wd b u s).set 10 (aP (tP u.pP s.cV.toNat s.bN.toNat (Po.cq s.bN.toNat (ee u s) g y).1) T):=by
 rw [← OF v h0 hg y T];unfold ez
 split <;> rfl
theorem Zc {s:ah} {g:Nat} {y i:Int} {d:Su}:ez (aR s i d) g y=aR (ez s g y) i d:=by
 unfold ez;rw [show gG (aR s i d) y=gG s y from rfl]
 split <;> rfl
end
theorem Zd {b:Nat} {u:U} {s:ah} {g:Nat} (hg:g < s.gs.length):wd b u (Sx.ready s g)=(wd b u s).set 7 (aP (tB u.pB (Bc.oe (s.gs.map fun x=>(x.status,x.token)) g)) u.TB):=by
 have hm:Bc.mem (s.gs.map fun x=>(x.status,x.token)) (g:Int)=((aa s g).status,(aa s g).token):=by
  unfold Bc.mem;rw [Int.toNat_natCast,List.getD_eq_getElem?_getD,CI s hg];rfl
 have hs:Bc.status (s.gs.map fun x=>(x.status,x.token)) (g:Int)=(aa s g).status:=Fq hg;unfold Sx.ready Bc.oe;rw [hs,hm,Int.toNat_natCast]
 by_cases c:(aa s g).status=1
 ·rw [if_pos c,if_pos c,xG b u s g { aa s g with status:=0 } hg rfl]
 ·rw [if_neg c,if_neg c]
  by_cases c0:(aa s g).status=0
  ·rw [if_pos c0,if_pos c0,xG b u s g { aa s g with token:=true } hg rfl,c0]
  ·rw [if_neg c0,if_neg c0,xG b u s g (aa s g) hg rfl,qV (CI s hg)]
def locked (s:ah) (g:Nat) (ch:Int):ah:=if (Sx.tryLock s g ch).2=true then (if (ag s g).kind=6 then Sx.aI (Sx.tryLock s g ch).1 g 21 else Sx.aI (Sx.tryLock s g ch).1 g 5) else s
theorem Ze (b:Nat) (u:U) (s:ah) (g k:Nat) (hg:g < s.gs.length) (hk:k < s.au.length) (h8:k < 8) (h0:0≤(aa s g).at_) (hc:(ag s g).cases.length≤1000) :
  ax prog 78 [.c (.v (pt b)),.c (nI g),.c (nI ((k:Int) + 1 - 1))] (wd b u s) (fun _:Unit=>(.aZ [],wd b u (locked s g ((k:Int) + 1)))):=by
 haveI:Sx.bT g s:=⟨hg⟩
 have W:=WW b u s k g hk h8
 by_cases hl:(cn s ((k:Int) + 1)).lock=-1
 ·have e1:Sx.tryLock s g ((k:Int) + 1)=(aE s ((k:Int) + 1) { cn s ((k:Int) + 1) with lock:=(g:Int) },true):=by unfold Sx.tryLock;rw [if_pos hl]
  rw [e1] at W;dsimp only at W;have O:=Hl b u (aE s ((k:Int) + 1) { cn s ((k:Int) + 1) with lock:=(g:Int) }) g hg h0 hc;refine ax.intro func78 rfl rfl rfl (fun ok e=>?_)
  cases OH:((ag s g).kind == 6) with
  | true =>
   have ek:(ag s g).kind=6:=by simpa using OH
   have er:locked s g ((k:Int) + 1)=Sx.aI (aE s ((k:Int) + 1) { cn s ((k:Int) + 1) with lock:=(g:Int) }) g 21:=by unfold locked;rw [e1,if_pos rfl,if_pos ek]
   rw [er]
   repeat (first | (refine K.store ?_;((refine JO.ld (Ld.dK rfl rfl (by exact rfl) bX) rfl (fun _=>?_)));refine JO.eK b g (fun x=>{ x with place:=21 }) (by exact rfl) ?_) | (refine K.indexAddr ?_;refine jq rfl rfl rfl (Qt.bM rfl rfl eB eD) ?_) | (refine K.call ?_;first | (refine JO.ld (Ld.aV (W) (qb rfl) rfl (by (exact aK.cons .refl (.cons .refl (.cons .refl .nil))))) rfl ?_;intro _) | (refine JO.ld (Ld.aV (O) (qb rfl) rfl (by (exact aK.cons .refl (.cons .refl .nil)))) rfl ?_;intro _)) | refine gn ?_)
   (exact J.lp func78 rfl .nil () (by exact .refl) rfl)
  | false =>
   have ek:¬ (ag s g).kind=6:=by simpa using OH
   have er:locked s g ((k:Int) + 1)=Sx.aI (aE s ((k:Int) + 1) { cn s ((k:Int) + 1) with lock:=(g:Int) }) g 5:=by unfold locked;rw [e1,if_pos rfl,if_neg ek]
   rw [er]
   repeat (first | (refine K.store ?_;((refine JO.ld (Ld.dK rfl rfl (by exact rfl) bX) rfl (fun _=>?_)));refine JO.eK b g (fun x=>{ x with place:=5 }) (by exact rfl) ?_) | (refine K.indexAddr ?_;refine jq rfl rfl rfl (Qt.bM rfl rfl eB eD) ?_) | (refine K.call ?_;first | (refine JO.ld (Ld.aV (W) (qb rfl) rfl (by (exact aK.cons .refl (.cons .refl (.cons .refl .nil))))) rfl ?_;intro _) | (refine JO.ld (Ld.aV (O) (qb rfl) rfl (by (exact aK.cons .refl (.cons .refl .nil)))) rfl ?_;intro _)) | refine gn ?_)
   (exact J.lp func78 rfl .nil () (by exact .refl) rfl)
 ·have e1:Sx.tryLock s g ((k:Int) + 1)=(s,false):=by unfold Sx.tryLock;rw [if_neg hl]
  rw [e1] at W;dsimp only at W;have er:locked s g ((k:Int) + 1)=s:=by unfold locked;rw [e1,if_neg (by simp)]
  rw [er];refine ax.intro func78 rfl rfl rfl (fun ok e=>?_)
  repeat (first | (refine K.call ?_;refine JO.ld (Ld.aV (W) (qb rfl) rfl (by (exact aK.cons .refl (.cons .refl (.cons .refl .nil))))) rfl ?_;intro _) | refine gn ?_)
  (exact J.iG func78 rfl .nil () (by exact .refl) rfl)
structure xT (s:ah) (g:Nat):Prop where
 lt:g < s.gs.length
 dh:0≤(aa s g).at_
 oc:(ag s g).cases.length≤1000
 ch:0≤(ag s g).ch∧(ag s g).ch≤1000
 c8:s.au.length≤8
 fr:0≤s.fresh
 l4:(aa s g).place=4→aN s (ag s g).ch=true
 CY:(aa s g).place=12∨(aa s g).place=16→aN s (ag s g).ch=true∧(cn s (ag s g).ch).lock=g
 At:(aa s g).place=15→g < s.cache.length∧0≤(aa s g).aH∧(aa s g).aH < s.aC.length
 Au:(aa s g).place=17→∃ (a:Nat) (l:List Int),(aa s g).an=(a:Int) :: l∧a < s.gs.length∧a≠g∧l.length≤1000
theorem Zf (b:Nat) (u:U) (s:ah) (g:Nat) (h:xT s g) (hu:dG u s) :
  ax prog 30 [.c (.v (pt b)),.c (nI g)] (wd b u s) (fun x:{ u':U // dG u' (common s g).1 }=>(.c (bI (common s g).2),wd b x.1 (common s g).1)):=by
 have hg:=h.lt;haveI:Sx.bT g s:=⟨hg⟩
 have c8:=h.c8;have mh:=h.ch;have O:=Hl b u s g hg h.dh h.oc;have w1:IntKind.i64.wrap ((ag s g).ch - 1)=(ag s g).ch - 1:=eL (by omega) (by omega);refine ax.intro func30 rfl rfl rfl (fun ok e=>?_)
 cases p4:((aa s g).place == 4) with
 | true =>
  have e4:(aa s g).place=4:=by simpa using p4
  obtain ⟨k,hk,aQ⟩:=vI (h.l4 e4);have er:common s g=(locked s g (ag s g).ch,true):=by unfold common locked;simp only [e4];simp;split <;> (try split) <;> rfl
  have C1:=Ze b u s g k hg aQ (by omega) h.dh h.oc;rw [← hk] at C1;have jR:dG u (locked s g (ag s g).ch):=by
   unfold locked;split
   ·split
    ·exact hu.to
    ·exact hu.to
   ·exact hu
  rw [er]
  repeat (first | (refine K.load ?_;((refine jq rfl rfl rfl (Qt.cE rfl (bX) (by exact rfl)) ?_))) | (refine K.indexAddr ?_;refine jq rfl rfl rfl (Qt.bM rfl rfl eB eD) ?_) | (refine K.binOp ?_;refine jq rfl rfl rfl ((Qt.dj rfl rfl rfl w1)) ?_) | (refine K.call ?_;first | (refine JO.ld (Ld.aV (O) (qb rfl) rfl (by (exact aK.cons .refl (.cons .refl .nil)))) rfl ?_;intro _) | (refine JO.ld (Ld.aV (C1) (qb rfl) rfl (by (exact aK.cons .refl (.cons .refl (.cons .refl .nil))))) rfl ?_;intro _)) | refine gn ?_)
  (exact J.iG func30 rfl (.cons (.tmp rfl) .nil) ⟨u,jR⟩ (by exact .refl) rfl)
 | false =>
 have n4:¬ (aa s g).place=4:=by simpa using p4
 cases Aw:((aa s g).place == 12) with
 | true =>
  have sG:(aa s g).place=12:=by simpa using Aw
  obtain ⟨hm,hl⟩:=h.CY (.inl sG);obtain ⟨k,hk,aQ⟩:=vI hm;have er:common s g=(Sx.aI (Sx.free s (ag s g).ch) g 13,true):=by unfold common;simp [sG]
  have C1:=Nx b u s k g aQ (by omega) (by rw [← hk];exact hl);rw [← hk] at C1;rw [er]
  repeat (first | (refine K.load ?_;((refine jq rfl rfl rfl (Qt.cE rfl (bX) (by exact rfl)) ?_))) | (refine K.store ?_;((refine JO.ld (Ld.dK rfl rfl (by exact rfl) bX) rfl (fun _=>?_)));refine JO.eK b g (fun x=>{ x with place:=13 }) (by exact rfl) ?_) | (refine K.indexAddr ?_;refine jq rfl rfl rfl (Qt.bM rfl rfl eB eD) ?_) | (refine K.binOp ?_;refine jq rfl rfl rfl ((Qt.dj rfl rfl rfl w1)) ?_) | (refine K.call ?_;first | (refine JO.ld (Ld.aV (O) (qb rfl) rfl (by (exact aK.cons .refl (.cons .refl .nil)))) rfl ?_;intro _) | (refine JO.ld (Ld.aV (C1) (qb rfl) rfl (by (exact aK.cons .refl (.cons .refl (.cons .refl .nil))))) rfl ?_;intro _)) | refine gn ?_)
  have jR:dG u (Sx.aI (Sx.free s (ag s g).ch) g 13):=hu.to
  (exact J.iG func30 rfl (.cons (.tmp rfl) .nil) ⟨u,jR⟩ (by exact .refl) rfl)
 | false =>
 have GQ:¬ (aa s g).place=12:=by simpa using Aw
 cases Ax:((aa s g).place == 13) with
 | true =>
  have sH:(aa s g).place=13:=by simpa using Ax
  have er:common s g=(Sx.fA (Sx.aI s g 14) g,true):=by unfold common;simp [sH]
  have C1:=WX b u (bg s g fun x=>{ x with place:=14 }) g (ud hg);rw [er]
  repeat (first | (refine K.load ?_;((refine jq rfl rfl rfl (Qt.cE rfl (bX) (by exact rfl)) ?_))) | (refine K.store ?_;((refine JO.ld (Ld.dK rfl rfl (by exact rfl) bX) rfl (fun _=>?_)));refine JO.eK b g (fun x=>{ x with place:=14 }) (by exact rfl) ?_) | (refine K.indexAddr ?_;refine jq rfl rfl rfl (Qt.bM rfl rfl eB eD) ?_) | (refine K.binOp ?_;refine jq rfl rfl rfl ((Qt.dj rfl rfl rfl w1)) ?_) | (refine K.call ?_;first | (refine JO.ld (Ld.aV (O) (qb rfl) rfl (by (exact aK.cons .refl (.cons .refl .nil)))) rfl ?_;intro _) | (refine JO.ld (Ld.aV (C1) (qb rfl) rfl (by (exact aK.cons .refl (.cons .refl .nil)))) rfl ?_;intro _)) | refine gn ?_)
  have jR:dG u (Sx.fA (Sx.aI s g 14) g):=hu.to
  (exact J.iG func30 rfl (.cons (.tmp rfl) .nil) ⟨u,jR⟩ (by exact .refl) rfl)
 | false =>
 have GR:¬ (aa s g).place=13:=by simpa using Ax
 cases Ay:((aa s g).place == 15) with
 | true =>
  have sJ:(aa s g).place=15:=by simpa using Ay
  obtain ⟨f1,f2,f3⟩:=h.At sJ;haveI:Sx.gX (aa s g).aH s:=⟨f2,f3⟩
  have er:common s g=(Sx.aI (ai (Sx.cq s g (aa s g).aH) g { aa s g with aH:=-1 }) g 18,true):=by unfold common;simp [sJ]
  have Dl:dG u (aR s (aa s g).aH fj):=hu.to;have C1:=TF u.pP (aR s (aa s g).aH fj).cV.toNat (aR s (aa s g).aH fj).bN.toNat (ee u (aR s (aa s g).aH fj)) u.TP g (aa s g).aH Dl;have e2:Sx.aI (ai (Sx.cq s g (aa s g).aH) g { aa s g with aH:=-1 }) g 18=bg (bg (ez (aR s (aa s g).aH fj) g (aa s g).aH) g fun x=>{ x with aH:=-1 }) g fun x=>{ x with place:=18 }:=by
   have h3:aa (ez (aR s (aa s g).aH fj) g (aa s g).aH) g=aa s g:=Sx.dY.h;have e3:bg (ez (aR s (aa s g).aH fj) g (aa s g).aH) g (fun x=>{ x with aH:=-1 })=ai (Sx.cq s g (aa s g).aH) g { aa s g with aH:=-1 }:=by
    unfold bg;rw [h3,Zc];rfl
   rw [e3];rfl
  rw [er,e2];have HQ:((aa s g).aH).toNat < (s.aC.map eS).length:=by rw [List.length_map];omega
  repeat (first | (refine K.load ?_;((refine jq rfl rfl rfl (Qt.cE rfl (bX) (by exact rfl)) ?_))) | (refine K.indexAddr ?_;refine jq rfl rfl rfl (Qt.bM rfl rfl eB eD) ?_) | (refine K.binOp ?_;refine jq rfl rfl rfl ((Qt.dj rfl rfl rfl w1)) ?_) | (refine K.call ?_;refine JO.ld (Ld.aV (O) (qb rfl) rfl (by (exact aK.cons .refl (.cons .refl .nil)))) rfl ?_;intro _) | refine gn ?_)
  refine J.draw (by kernel_rfl) rfl ?_;refine JW.base (some 10) ?_;refine tk 0 ?_;refine tk 1 ?_;refine tk 2 ?_;refine tk 3 ?_;refine tk 4 ?_;refine tk 5 ?_;refine tk 6 ?_;refine JD.take 7 rfl rfl (by kernel_rfl) rfl (qb rfl) (Qt.cE rfl bX rfl) rfl ?_;refine tk 8 ?_;refine JD.take 9 rfl rfl (by kernel_rfl) rfl (qb rfl) (Qt.bM rfl rfl (nL (s:=s)) nM) rfl ?_;refine jt 10 rfl rfl (Ld.fZ rfl rfl rfl rfl HQ) (fun _=>?_);refine bS ?_;refine J.Al b (aa s g).aH fj (by exact rfl) ?_
  repeat ((refine J.seq ?_))
  refine J.draw (by kernel_rfl) rfl ?_;refine JW.iS [10] none ?_;refine tk 0 ?_;refine tk 1 ?_;refine tk 2 ?_;refine tk 3 ?_;refine tk 4 ?_;refine tk 5 ?_;refine tk 6 ?_;refine tk 7 ?_;refine JD.take 8 rfl rfl (by kernel_rfl) rfl (qb rfl) (Qt.cE rfl bX rfl) rfl ?_;refine jl 9 rfl rfl rfl rfl (Ld.fQ C1 (qb rfl) rfl (.cons .refl (.cons .refl (.cons .refl .nil)))) (.iO rfl) (fun _=>?_);refine bt ?_;rename_i T;refine J.fK (Zb b Dl h.fr f1 (aa s g).aH T) ?_
  repeat (first | (refine K.store ?_;first | ((refine JO.ld (Ld.dK rfl rfl (by exact rfl) bX) rfl (fun _=>?_)));refine JO.eK b g (fun x=>{ x with aH:=-1 }) (by exact rfl) ?_ | ((refine JO.ld (Ld.dK rfl rfl (by exact rfl) bX) rfl (fun _=>?_)));refine JO.eK b g (fun x=>{ x with place:=18 }) (by exact rfl) ?_) | refine gn ?_)
  have jR:dG (xS u (aR s (aa s g).aH fj) g (aa s g).aH T) (bg (bg (ez (aR s (aa s g).aH fj) g (aa s g).aH) g fun x=>{ x with aH:=-1 }) g fun x=>{ x with place:=18 }):=(Za Dl h.fr f1 (aa s g).aH T).to
  (exact J.iG func30 rfl (.cons (.tmp rfl) .nil) ⟨xS u (aR s (aa s g).aH fj) g (aa s g).aH T,jR⟩ (by exact .refl) rfl)
 | false =>
 have GU:¬ (aa s g).place=15:=by simpa using Ay
 cases Az:((aa s g).place == 16) with
 | true =>
  have sK:(aa s g).place=16:=by simpa using Az
  obtain ⟨hm,hl⟩:=h.CY (.inr sK);obtain ⟨k,hk,aQ⟩:=vI hm;have er:common s g=(Sx.an (Sx.free s (ag s g).ch) g,true):=by unfold common;simp [sK]
  have C1:=Nx b u s k g aQ (by omega) (by rw [← hk];exact hl);rw [← hk] at C1;have C2:=Lw b u (Sx.free s (ag s g).ch) g hg;have jR:dG u (Sx.an (Sx.free s (ag s g).ch) g):=hu.to;rw [er]
  repeat (first | (refine K.load ?_;((refine jq rfl rfl rfl (Qt.cE rfl (bX) (by exact rfl)) ?_))) | (refine K.indexAddr ?_;refine jq rfl rfl rfl (Qt.bM rfl rfl eB eD) ?_) | (refine K.binOp ?_;refine jq rfl rfl rfl ((Qt.dj rfl rfl rfl w1)) ?_) | (refine K.call ?_;first | (refine JO.ld (Ld.aV (O) (qb rfl) rfl (by (exact aK.cons .refl (.cons .refl .nil)))) rfl ?_;intro _) | (refine JO.ld (Ld.aV (C1) (qb rfl) rfl (by (exact aK.cons .refl (.cons .refl (.cons .refl .nil))))) rfl ?_;intro _) | (refine JO.ld (Ld.aV (C2) (qb rfl) rfl (by (exact aK.cons .refl (.cons .refl .nil)))) rfl ?_;intro _)) | refine gn ?_)
  (exact J.iG func30 rfl (.cons (.tmp rfl) .nil) ⟨u,jR⟩ (by exact .refl) rfl)
 | false =>
 have GW:¬ (aa s g).place=16:=by simpa using Az
 cases AA:((aa s g).place == 17) with
 | true =>
  have pW:(aa s g).place=17:=by simpa using AA
  obtain ⟨a,l,f1,f2,f3,f4⟩:=h.Au pW;haveI:Sx.bT a s:=⟨f2⟩
  haveI:mW g a:=⟨Ne.symm f3⟩
  have hr:aa (Sx.ready s a) g=aa s g:=Sx.dY.h;have Zg:g < (Sx.ready s a).gs.length:=Sx.bT.h;have er:common s g=(Sx.an (bg (Sx.ready s a) g fun x=>{ x with an:=l }) g,true):=by
   unfold common bg;simp [pW,f1,hr]
  have jR:∀ v,dG (kM u g v) (Sx.an (bg (Sx.ready s a) g fun x=>{ x with an:=l }) g):=fun v=>dG.wk hu.to
  have C1:=Tt u.pB (s.gs.map fun x=>(x.status,x.token)) u.TB (a:Int);haveI:gJ (wd b u s) (u.wk g) 3 1 (dI (aa s g).an) (s.gs.length + g + 12):=⟨zw (u:=u) hg⟩
  have w0:(dI (aa s g).an)[(0:Int).toNat]?=some [nI (a:Int)]:=by rw [f1];rfl
  have w2:(0:Int) < ((dI (aa s g).an).length:Int):=by rw [oC,f1];simp
  have w3:((dI (aa s g).an).take (((dI (aa s g).an).length:Int)).toNat).drop (1:Int).toNat=dI l:=by
   rw [Int.toNat_natCast,List.take_of_length_le (Nat.le_refl _),f1];rfl
  have w4:(1:Int)≤((dI (aa s g).an).length:Int):=by omega
  have w5:(dI l).length≤1000:=by rw [oC];exact f4
  rw [er]
  repeat (first | (refine K.load ?_;((refine jq rfl rfl rfl (Qt.cE rfl (bX) (by exact rfl)) ?_))) | (refine K.indexAddr ?_;refine jq rfl rfl rfl (Qt.bM rfl rfl eB eD) ?_) | (refine K.binOp ?_;refine jq rfl rfl rfl ((Qt.dj rfl rfl rfl w1)) ?_) | (refine K.call ?_;refine JO.ld (Ld.aV (O) (qb rfl) rfl (by (exact aK.cons .refl (.cons .refl .nil)))) rfl ?_;intro _) | refine gn ?_)
  refine J.draw (by kernel_rfl) rfl ?_;refine JW.iS [7] none ?_;refine tk 0 ?_;refine tk 1 ?_;refine tk 2 ?_;refine tk 3 ?_;refine tk 4 ?_;refine tk 5 ?_;refine tk 6 ?_;refine JD.take 7 rfl rfl (by kernel_rfl) rfl (qb rfl) (Qt.cE rfl bX rfl) rfl ?_;refine JD.take 8 rfl rfl (by kernel_rfl) rfl (qb rfl) (Qt.bM rfl rfl (by omega) w2) rfl ?_;refine JD.take 9 rfl rfl (by kernel_rfl) rfl (qb rfl) (Qt.cE rfl w0 rfl) rfl ?_;refine jl 10 rfl rfl rfl rfl (Ld.fQ C1 (qb rfl) rfl (.cons .refl (.cons .refl .nil))) (.iO rfl) (fun _=>?_);refine bt ?_;refine J.fK (Zd f2) ?_;refine J.NI g ?_;refine J.seq ?_;refine J.region ?_
  repeat (first | (refine K.load ?_;refine jq rfl rfl rfl (Qt.cE rfl (bX) (by exact rfl)) ?_) | (refine K.store ?_;refine JO.ld (Ld.dK rfl rfl (by exact rfl) bX) rfl (fun _=>?_)) | (refine K.slice ?_;refine JO.ld (Js (qb rfl) rfl rfl rfl (by (omega)) (by (omega)) (by (omega)) (w3)) rfl (fun _=>?_)) | (refine K.bi ?_;refine JO.ld (Ld.yI (qb rfl) rfl rfl .cY (by omega)) rfl ?_;intro v) | refine wE ?_)
  refine JO.nil ?_;refine J.eP 1 ?_;refine J.NJ g v l rfl (by exact rfl) ?_;have C2:=Lw b (kM u g v) (bg (Sx.ready s a) g fun x=>{ x with an:=l }) g (ud Zg)
  repeat (first | (refine K.call ?_;refine JO.ld (Ld.aV (C2) (qb rfl) rfl (by (exact aK.cons .refl (.cons .refl .nil)))) rfl ?_;intro _) | refine gn ?_)
  (exact J.iG func30 rfl (.cons (.tmp rfl) .nil) ⟨kM u g v,jR v⟩ (by exact .refl) rfl)
 | false =>
  have GX:¬ (aa s g).place=17:=by simpa using AA
  have er:common s g=(s,false):=by unfold common;simp [n4,GQ,GR,GU,GW,GX]
  have jR:dG u s:=hu;rw [er]
  repeat (first | (refine K.load ?_;((refine jq rfl rfl rfl (Qt.cE rfl (bX) (by exact rfl)) ?_))) | (refine K.indexAddr ?_;refine jq rfl rfl rfl (Qt.bM rfl rfl eB eD) ?_) | (refine K.binOp ?_;refine jq rfl rfl rfl ((Qt.dj rfl rfl rfl w1)) ?_) | (refine K.call ?_;refine JO.ld (Ld.aV (O) (qb rfl) rfl (by (exact aK.cons .refl (.cons .refl .nil)))) rfl ?_;intro _) | refine gn ?_)
  (exact J.iG func30 rfl (.cons (.tmp rfl) .nil) ⟨u,jR⟩ (by exact .refl) rfl)
end Fl
end Go.Proofs.YtofnbflkhgammaaGreat
