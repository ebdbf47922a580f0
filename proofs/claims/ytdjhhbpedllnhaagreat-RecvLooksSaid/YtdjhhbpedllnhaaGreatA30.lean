/-
  What the laws need, part A30.
  Conditions: none.
-/
import Derived.Test.YtdjhhbpedllnhaaGreatA29
set_option linter.unusedVariables false
set_option linter.unusedSimpArgs false
set_option linter.unnecessarySimpa false
set_option maxHeartbeats 2000000
namespace Go.Proofs.YtdjhhbpedllnhaaGreat
open Go.RowKit
namespace Fl
open Sx Go.Proofs.Tryz
set_option maxRecDepth 100000
theorem oO {l:List Int} {k:Int} (h0:0≤k) (h:k < l.length):(l.map fun n=>[nI n])[k.toNat]?=some [nI (aE l k)]:=by
 have:k.toNat < l.length:=by omega
 refine at_map ?_;unfold aE;rw [List.getElem?_eq_getElem this,List.getD_eq_getElem?_getD,List.getElem?_eq_getElem this];rfl
theorem vO (s:ah) (g:Nat) (p:Int) (hg:g < s.gs.length) (hb:s.gs.length≤100000) :
  Pure prog 213 [.agg (aD s),.c (nI g),.c (nI p)] (.agg (aD (unlock s g p))):=by
 refine av.intro func213 rfl rfl rfl (fun ok e=>?_)
 repeat (first | refine aR (cS s g { aa s g with k:=(aa s g).aF.length,place:=p } hg hb) ?_ | refine ay ?_ | intro _)
 exact aC func213
theorem NC (s:ah) (g:Nat) (r:Md.an) (p:Int):(br s g r p).gs.length=s.gs.length:=by simp [br,ai]
theorem Ay (s:ah) (g:Nat) (r:Md.an) (i:Int) (hg:g < s.gs.length) (hb:s.gs.length≤100000) :
  Pure prog 205 [.agg (aD s),.c (nI g),.agg (wH r),.c (nI i)] (.agg (aD (fC s g r i))):=by
 have C1:=Am r i;have C2:=jA s g { r with cs:=i } 30 hg hb;have g1:g < (br s g { r with cs:=i } 30).gs.length:=by rw [NC];exact hg
 have b1:(br s g { r with cs:=i } 30).gs.length≤100000:=by rw [NC];exact hb
 have er:fC s g r i=unlock (ai (br s g { r with cs:=i } 30) g { aa (br s g { r with cs:=i } 30) g with dJ:=i }) g 30:=rfl;rw [er];clear er;generalize br s g { r with cs:=i } 30=s1 at *;have C3:=cS s1 g { aa s1 g with dJ:=i } g1 b1;have C4:=vO (ai s1 g { aa s1 g with dJ:=i }) g 30 (by rw [cz];exact g1) (by rw [cz];exact b1);refine av.intro func205 rfl rfl rfl (fun ok e=>?_)
 repeat (first | refine ay ?_ | intro _)
 refine J.draw (by kernel_rfl) rfl ?_;refine JW.base (some 6) ?_;refine tk 0 ?_;refine tk 1 ?_;refine tk 2 ?_;refine tk 3 ?_;refine c9 4 (C1) ?_;refine c9 5 (C2) ?_;refine jt 6 rfl rfl (Ld.bh rfl rfl rfl (by exact rfl) (by exact rfl)) (fun _=>?_);refine cu ?_
 repeat (first | refine ay ?_ | intro _)
 exact aC func205
theorem ND (s:ah) (g:Nat) (p:Int) (hg:g < s.gs.length) (hb:Few s) (k0:0≤(aa s g).k) (k1:(aa s g).k < (aa s g).aF.length) (kb:(aa s g).aF.length≤100000) (hm:aL s (aE (aa s g).aF (aa s g).k)=true) :
  Pure prog 154 [.agg (aD s),.c (nI g),.c (nI p)] (.agg (aD (lock s g p))):=by
 have I1:=oO k0 k1;have C1:=KY s g (aE (aa s g).aF (aa s g).k) hm hb.2.1;have g2:g < (Sx.tryLock s g (aE (aa s g).aF (aa s g).k)).1.gs.length:=by rw [C6];exact hg
 have b2:(Sx.tryLock s g (aE (aa s g).aF (aa s g).k)).1.gs.length≤100000:=by rw [C6];exact hb.1
 refine av.intro func154 rfl rfl rfl (fun ok e=>?_)
 cases ht:(Sx.tryLock s g (aE (aa s g).aF (aa s g).k)).2 with
 | false =>
  rw [ht] at C1;have er:lock s g p=s:=by unfold lock;simp only;rw [if_neg (by rw [ht];simp)]
  rw [er]
  repeat (first | refine ay ?_ | intro _)
  refine J.draw (by kernel_rfl) rfl ?_;refine JW.base (some 13) ?_;refine tk 0 ?_;refine tk 1 ?_;refine tk 2 ?_;refine tk 3 ?_;refine tk 4 ?_;refine tk 5 ?_;refine JD.take 6 rfl rfl (by kernel_rfl) rfl (qb rfl) (Qt.dc rfl rfl k0 I1) rfl ?_;refine tk 7 ?_;refine JD.dA (i:=8) (j:=12) (by kernel_rfl) ?_ ?_;refine JS.cK rfl rfl rfl (qb rfl) (Ld.pure (C1) (qb rfl) rfl lq) .none (fun _=>?_);refine JD.nA ?_;refine tk 9 ?_;refine tk 10 ?_;refine JD.dA (i:=11) (j:=12) (by kernel_rfl) ?_ ?_;refine JS.q rfl rfl rfl (qb rfl) (Qt.extract rfl rfl) ?_;refine jl 12 rfl rfl rfl rfl (Ld.alloc (qb rfl)) .none (fun _=>?_);refine jt 13 rfl rfl (Ld.bh rfl rfl rfl (by exact rfl) (by exact rfl)) (fun _=>?_);refine JW.base none ?_;refine jk 14 rfl rfl rfl rfl (Qt.assign rfl) ?_;refine bX ?_
  rotate_left
  refine JS.cK rfl rfl rfl (qb rfl) (Ld.alloc (qb rfl)) .none (fun _=>?_);refine JD.dA (i:=11) (j:=13) (by kernel_rfl) ?_ ?_;refine JS.q rfl rfl rfl (qb rfl) (Qt.extract rfl rfl) ?_;refine jt 13 rfl rfl (Ld.bh rfl rfl rfl (by exact rfl) (by exact rfl)) (fun _=>?_);refine JW.base none ?_;refine jk 14 rfl rfl rfl rfl (Qt.assign rfl) ?_;refine bX ?_
  rotate_left
  (refine JS.last rfl rfl (Ld.bh rfl rfl rfl (by exact rfl) (by exact rfl)) (fun _=>?_))
  refine JW.base none ?_;refine jk 11 rfl rfl rfl rfl (Qt.extract rfl rfl) ?_;refine jk 14 rfl rfl rfl rfl (Qt.assign rfl) ?_;refine bX ?_
  rotate_left
  refine JS.cK rfl rfl rfl (qb rfl) (Ld.alloc (qb rfl)) .none (fun _=>?_);refine c9 8 (C1) ?_;refine jk 9 rfl rfl rfl rfl (Qt.move rfl) ?_;refine JD.nA ?_;refine tk 10 ?_;refine JD.dA (i:=11) (j:=13) (by kernel_rfl) ?_ ?_;refine JS.q rfl rfl rfl (qb rfl) (Qt.extract rfl rfl) ?_;refine jt 13 rfl rfl (Ld.bh rfl rfl rfl (by exact rfl) (by exact rfl)) (fun _=>?_);refine JW.base none ?_;refine jk 14 rfl rfl rfl rfl (Qt.assign rfl) ?_;refine bX ?_
  rotate_left
  (refine JS.last rfl rfl (Ld.bh rfl rfl rfl (by exact rfl) (by exact rfl)) (fun _=>?_))
  refine JW.base none ?_;refine jk 11 rfl rfl rfl rfl (Qt.extract rfl rfl) ?_;refine jk 14 rfl rfl rfl rfl (Qt.assign rfl) ?_;refine bX ?_
  rotate_left
  all_goals
   repeat (refine gn ?_)
   exact aC func154
 | true =>
  rw [ht] at C1;have er:lock s g p=if (aa s g).k + 1=(aa s g).aF.length then ai (Sx.tryLock s g (aE (aa s g).aF (aa s g).k)).1 g { aa s g with k:=0,place:=p } else ai (Sx.tryLock s g (aE (aa s g).aF (aa s g).k)).1 g { aa s g with k:=(aa s g).k + 1 }:=by unfold lock;simp only;rw [if_pos ht]
  rw [er];generalize (Sx.tryLock s g (aE (aa s g).aF (aa s g).k)).1=s1 at *;have hk:((aa s g).k + 1 == ((aa s g).aF.length:Int))=decide ((aa s g).k + 1=(aa s g).aF.length):=rfl
  by_cases hl:(aa s g).k + 1=(aa s g).aF.length
  ·rw [if_pos hl];rw [decide_eq_true hl] at hk
   repeat (first | refine ay ?_ | intro _)
   refine J.draw (by kernel_rfl) rfl ?_;refine JW.base (some 13) ?_;refine tk 0 ?_;refine tk 1 ?_;refine tk 2 ?_;refine tk 3 ?_;refine tk 4 ?_;refine tk 5 ?_;refine JD.take 6 rfl rfl (by kernel_rfl) rfl (qb rfl) (Qt.dc rfl rfl k0 I1) rfl ?_;refine tk 7 ?_;refine JD.dA (i:=8) (j:=12) (by kernel_rfl) ?_ ?_;refine JS.cK rfl rfl rfl (qb rfl) (Ld.pure (C1) (qb rfl) rfl lq) .none (fun _=>?_);refine JD.nA ?_;refine tk 9 ?_;refine tk 10 ?_;refine JD.dA (i:=11) (j:=12) (by kernel_rfl) ?_ ?_;refine JS.q rfl rfl rfl (qb rfl) (Qt.extract rfl rfl) ?_;refine jl 12 rfl rfl rfl rfl (Ld.alloc (qb rfl)) .none (fun _=>?_);refine jt 13 rfl rfl (Ld.bh rfl rfl rfl (by exact rfl) (by exact rfl)) (fun _=>?_);refine JW.base none ?_;refine jk 14 rfl rfl rfl rfl (Qt.assign rfl) ?_;refine bX ?_
   rotate_left
   refine JS.cK rfl rfl rfl (qb rfl) (Ld.alloc (qb rfl)) .none (fun _=>?_);refine JD.dA (i:=11) (j:=13) (by kernel_rfl) ?_ ?_;refine JS.q rfl rfl rfl (qb rfl) (Qt.extract rfl rfl) ?_;refine jt 13 rfl rfl (Ld.bh rfl rfl rfl (by exact rfl) (by exact rfl)) (fun _=>?_);refine JW.base none ?_;refine jk 14 rfl rfl rfl rfl (Qt.assign rfl) ?_;refine bX ?_
   rotate_left
   (refine JS.last rfl rfl (Ld.bh rfl rfl rfl (by exact rfl) (by exact rfl)) (fun _=>?_))
   refine JW.base none ?_;refine jk 11 rfl rfl rfl rfl (Qt.extract rfl rfl) ?_;refine jk 14 rfl rfl rfl rfl (Qt.assign rfl) ?_;refine bX ?_
   rotate_left
   refine JS.cK rfl rfl rfl (qb rfl) (Ld.alloc (qb rfl)) .none (fun _=>?_);refine c9 8 (C1) ?_;refine jk 9 rfl rfl rfl rfl (Qt.move rfl) ?_;refine JD.nA ?_;refine tk 10 ?_;refine JD.dA (i:=11) (j:=13) (by kernel_rfl) ?_ ?_;refine JS.q rfl rfl rfl (qb rfl) (Qt.extract rfl rfl) ?_;refine jt 13 rfl rfl (Ld.bh rfl rfl rfl (by exact rfl) (by exact rfl)) (fun _=>?_);refine JW.base none ?_;refine jk 14 rfl rfl rfl rfl (Qt.assign rfl) ?_;refine bX ?_
   rotate_left
   (refine JS.last rfl rfl (Ld.bh rfl rfl rfl (by exact rfl) (by exact rfl)) (fun _=>?_))
   refine JW.base none ?_;refine jk 11 rfl rfl rfl rfl (Qt.extract rfl rfl) ?_;refine jk 14 rfl rfl rfl rfl (Qt.assign rfl) ?_;refine bX ?_
   rotate_left
   all_goals
    repeat (first | refine aR (cS s1 g { aa s g with k:=0,place:=p } g2 b2) ?_ | refine gn ?_)
    exact aC func154
  ·rw [if_neg hl];rw [decide_eq_false hl] at hk
   repeat (first | refine ay ?_ | intro _)
   refine J.draw (by kernel_rfl) rfl ?_;refine JW.base (some 13) ?_;refine tk 0 ?_;refine tk 1 ?_;refine tk 2 ?_;refine tk 3 ?_;refine tk 4 ?_;refine tk 5 ?_;refine JD.take 6 rfl rfl (by kernel_rfl) rfl (qb rfl) (Qt.dc rfl rfl k0 I1) rfl ?_;refine tk 7 ?_;refine JD.dA (i:=8) (j:=12) (by kernel_rfl) ?_ ?_;refine JS.cK rfl rfl rfl (qb rfl) (Ld.pure (C1) (qb rfl) rfl lq) .none (fun _=>?_);refine JD.nA ?_;refine tk 9 ?_;refine tk 10 ?_;refine JD.dA (i:=11) (j:=12) (by kernel_rfl) ?_ ?_;refine JS.q rfl rfl rfl (qb rfl) (Qt.extract rfl rfl) ?_;refine jl 12 rfl rfl rfl rfl (Ld.alloc (qb rfl)) .none (fun _=>?_);refine jt 13 rfl rfl (Ld.bh rfl rfl rfl (by exact rfl) (by exact rfl)) (fun _=>?_);refine JW.base none ?_;refine jk 14 rfl rfl rfl rfl (Qt.assign rfl) ?_;refine bX ?_
   rotate_left
   refine JS.cK rfl rfl rfl (qb rfl) (Ld.alloc (qb rfl)) .none (fun _=>?_);refine JD.dA (i:=11) (j:=13) (by kernel_rfl) ?_ ?_;refine JS.q rfl rfl rfl (qb rfl) (Qt.extract rfl rfl) ?_;refine jt 13 rfl rfl (Ld.bh rfl rfl rfl (by exact rfl) (by exact rfl)) (fun _=>?_);refine JW.base none ?_;refine jk 14 rfl rfl rfl rfl (Qt.assign rfl) ?_;refine bX ?_
   rotate_left
   (refine JS.last rfl rfl (Ld.bh rfl rfl rfl (by exact rfl) (by exact rfl)) (fun _=>?_))
   refine JW.base none ?_;refine jk 11 rfl rfl rfl rfl (Qt.extract rfl rfl) ?_;refine jk 14 rfl rfl rfl rfl (Qt.assign rfl) ?_;refine bX ?_
   rotate_left
   refine JS.cK rfl rfl rfl (qb rfl) (Ld.alloc (qb rfl)) .none (fun _=>?_);refine c9 8 (C1) ?_;refine jk 9 rfl rfl rfl rfl (Qt.move rfl) ?_;refine JD.nA ?_;refine tk 10 ?_;refine JD.dA (i:=11) (j:=13) (by kernel_rfl) ?_ ?_;refine JS.q rfl rfl rfl (qb rfl) (Qt.extract rfl rfl) ?_;refine jt 13 rfl rfl (Ld.bh rfl rfl rfl (by exact rfl) (by exact rfl)) (fun _=>?_);refine JW.base none ?_;refine jk 14 rfl rfl rfl rfl (Qt.assign rfl) ?_;refine bX ?_
   rotate_left
   (refine JS.last rfl rfl (Ld.bh rfl rfl rfl (by exact rfl) (by exact rfl)) (fun _=>?_))
   refine JW.base none ?_;refine jk 11 rfl rfl rfl rfl (Qt.extract rfl rfl) ?_;refine jk 14 rfl rfl rfl rfl (Qt.assign rfl) ?_;refine bX ?_
   rotate_left
   all_goals
    repeat (first | refine aR (cS s1 g { aa s g with k:=(aa s g).k + 1 } g2 b2) ?_ | refine gn ?_)
    exact aC func154
theorem qU (s:ah) (g:Nat) (p:Int) (hg:g < s.gs.length) (hb:s.gs.length≤100000) (k0:0≤(aa s g).k) (k1:(aa s g).k≤100000) :
  Pure prog 204 [.agg (aD s),.c (nI g),.c (nI p)] (.agg (aD (Sx.next s g p))):=by
 have er:Sx.next s g p=if (aa s g).k + 1=(aa s g).order.length then ai s g { aa s g with k:=0,place:=p } else ai s g { aa s g with k:=(aa s g).k + 1 }:=rfl
 rw [er];have hk:((aa s g).k + 1 == ((aa s g).order.length:Int))=decide ((aa s g).k + 1=(aa s g).order.length):=rfl;refine av.intro func204 rfl rfl rfl (fun ok e=>?_)
 by_cases hl:(aa s g).k + 1=(aa s g).order.length
 ·rw [if_pos hl];rw [decide_eq_true hl] at hk
  repeat (first | refine aR (cS s g { aa s g with k:=0,place:=p } hg hb) ?_ | refine ay ?_ | intro _)
  exact aC func204
 ·rw [if_neg hl];rw [decide_eq_false hl] at hk
  repeat (first | refine aR (cS s g { aa s g with k:=(aa s g).k + 1 } hg hb) ?_ | refine ay ?_ | intro _)
  exact aC func204
theorem GY (s:ah) (g:Nat) (hg:g < s.gs.length) (hb:s.gs.length≤100000) (k0:(aa s g).place=27→0≤(aa s g).k∧(aa s g).k < (aa s g).order.length) :
  Pure prog 156 [.agg (aD s),.c (nI g)] (.agg (aD (Sx.gY s g))):=by
 refine av.intro func156 rfl rfl rfl (fun ok e=>?_)
 cases hp:((aa s g).place == 27) with
 | true =>
  have e0:(aa s g).place=27:=by simpa using hp
  have er:Sx.gY s g=ai s g { aa s g with dJ:=aE (aa s g).order (aa s g).k }:=by unfold Sx.gY;simp only;rw [if_pos e0]
  rw [er];have q0:=(k0 e0).1
  repeat (first | (refine K.indexAddr ?_;refine jx rfl rfl rfl rfl (by omega) (oO (k0 e0).1 (k0 e0).2) ?_) | refine aR (cS s g { aa s g with dJ:=aE (aa s g).order (aa s g).k } hg hb) ?_ | refine ay ?_ | intro _)
  exact aC func156
 | false =>
  have e0:¬ (aa s g).place=27:=by simpa using hp
  have er:Sx.gY s g=ai s g (aa s g):=by unfold Sx.gY;simp only;rw [if_neg e0]
  rw [er]
  repeat (first | refine aR (cS s g (aa s g) hg hb) ?_ | refine ay ?_ | intro _)
  exact aC func156
end Fl
open Go.RowKit
namespace Fl
open Sx Go.Proofs.Tryz
set_option maxRecDepth 100000
theorem qV {α:Type} (f:Gr→α) {s:ah} {o g:Nat} {x:Gr} (e:f x=f (aa s o)):f (aa (ai s o x) g)=f (aa s g):=by
 by_cases h:o=g
 ·subst h;rcases C9 s o x o with e1 | e1
  ·rw [e1,e]
  ·rw [e1]
 ·have:aa (ai s o x) g=aa s g:=by
   unfold aa ai;simp only [List.getD_eq_getElem?_getD,List.getElem?_set];rw [if_neg h]
  rw [this]
theorem GZ {α:Type} (f:Gr→α) {s:ah} {o g:Nat} {p:Int} (e:∀ x:Gr,f { x with place:=p }=f x):f (aa (Sx.aG s o p) g)=f (aa s g):=by
 unfold Sx.aG;exact qV f (e _)
theorem NF {α:Type} (f:Gr→α) {s:ah} {o g:Nat} {i:Int} (e:∀ (x:Gr) (a b c:Int),f { x with bE:=a,wi:=b,dJ:=c }=f x):f (aa (Sx.pair s o i) g)=f (aa s g):=by
 unfold Sx.pair;simp only
 by_cases h:o=(su s i).g.toNat
 ·subst h;rcases C9 (ai s (su s i).g.toNat { aa s (su s i).g.toNat with bE:=(aa s (su s i).g.toNat).t,wi:=((su s i).g.toNat:Int),dJ:=(su s i).cs }) (su s i).g.toNat { aa s (su s i).g.toNat with bE:=(aa s (su s i).g.toNat).t,wi:=(su s i).g } g with e1 | e1
  ·by_cases h2:(su s i).g.toNat=g
   ·rw [e1,← h2];exact e (aa s (su s i).g.toNat) (aa s (su s i).g.toNat).t (su s i).g (aa s (su s i).g.toNat).dJ
   ·have:∀ (s:ah) (o:Nat) (x:Gr),o≠g→aa (ai s o x) g=aa s g:=fun s o x h=>by
     unfold aa ai;simp only [List.getD_eq_getElem?_getD,List.getElem?_set];rw [if_neg h]
    rw [this _ _ _ h2,this _ _ _ h2]
  ·rw [e1];exact qV f (e (aa s (su s i).g.toNat) _ _ _)
 ·have h3:∀ (s:ah) (o:Nat) (x:Gr) (g:Nat),o≠g→aa (ai s o x) g=aa s g:=fun s o x g h=>by
   unfold aa ai;simp only [List.getD_eq_getElem?_getD,List.getElem?_set];rw [if_neg h]
  rw [qV f (x:={ aa s o with bE:=(aa s o).t,wi:=(su s i).g })]
  ·exact qV f (e (aa s (su s i).g.toNat) _ _ _)
  ·rw [h3 _ _ _ _ (Ne.symm h)];exact e (aa s o) _ _ (aa s o).dJ
theorem NG {α:Type} (f:Gr→α) {s:ah} {g:Nat} {i wi ha:Int} (e:∀ (x:Gr) (a b c:Int),f { x with bE:=a,wi:=b,dJ:=c }=f x) (e2:∀ (x:Gr) (p:Int),f { x with place:=p }=f x) (e3:∀ (x:Gr) (a b:Int),f { x with hold:=a,t:=b }=f x) (h:Nat):f (aa (taken s g i wi ha) h)=f (aa s h):=by
 unfold taken
 split
 ·rw [GZ f (fun x=>e2 x _)];exact qV f (e3 (aa s g) i (aa s g).t)
 ·rw [GZ f (fun x=>e2 x _),NF f e,uh (gf _ _)];exact qV f (e3 (aa s g) i s.step)
theorem Dd (s:ah) (g:Nat) (i wi ha:Int):(taken s g i wi ha).gs.length=s.gs.length:=by
 unfold taken
 split
 ·simp [Sx.aG,ai]
 ·rw [xF,xG,gf,cz]
structure Az (s:ah) (g:Nat) (k:Pn.Cs):Prop where
 lt:g < s.gs.length
 fit:Fit s
 k0:0≤(aa s g).k
 k1:(aa s g).k < (aa s g).order.length
 md:aL s k.ch=true
 hr:∀ a l,(cn s k.ch).recv=a :: l→dL s a
 hs:∀ a l,(cn s k.ch).send=a :: l→dL s a
theorem Az.gY {s:ah} {g:Nat} {k:Pn.Cs} (h:Az s g k) (i wi ha:Int):0≤(aa (taken s g i wi ha) g).k∧(aa (taken s g i wi ha) g).k < (aa (taken s g i wi ha) g).order.length:=by
 rw [NG (f:=Gr.k) (fun _ _ _ _=>rfl) (fun _ _=>rfl) (fun _ _ _=>rfl),NG (f:=Gr.order) (fun _ _ _ _=>rfl) (fun _ _=>rfl) (fun _ _ _=>rfl)];exact ⟨h.k0,h.k1⟩
theorem X3 (s:ah) (g:Nat) (i:Int) (k:Pn.Cs) (h:Az s g k) :
  Pure prog 203 [.agg (aD s),.c (nI g),.c (nI i),.agg (tr k)] (.aZ [.agg (aD (iX s g i k).1),.c (bI (iX s g i k).2)]):=by
 have hg:=h.lt;have hb:=h.fit.1.1;have dM:=h.fit.1.2.1;have hm:=h.md;have hl:=fh hm;refine av.intro func203 rfl rfl rfl (fun ok e=>?_)
 cases bY:(cn s k.ch).closed with
 | true =>
  have er:iX s g i k=(fC s g ⟨3,0,0,false,0⟩ i,true):=by unfold iX;simp only;rw [if_pos bY]
  rw [er]
  repeat (first | refine J.iy (congrArg (fun b=>some (D.c (bI b))) bY) ?_ | refine aR (Ay s g ⟨3,0,0,false,0⟩ i hg hb) ?_ | refine ay ?_ | intro _)
  exact aC func203
 | false =>
  have cP:¬ (cn s k.ch).closed=true:=by rw [bY];simp
  cases hr:(cn s k.ch).recv with
  | cons a l =>
   have er:iX s g i k=(Sx.gY (taken s g a 26 27) g,true):=by unfold iX;simp only;rw [if_neg cP,if_pos (by rw [hr];simp),hr];rfl
   rw [er];have hz:(decide (((cn s k.ch).recv.length:Int) > 0))=true:=by rw [hr];simp
   have w0:((cn s k.ch).recv.map fun n=>[nI n])[(0:Int).toNat]?=some [nI a]:=by rw [hr];rfl
   have C1:=C7 s g a 26 27 hg (h.hr a l hr) h.fit;have C2:=GY (taken s g a 26 27) g (by rw [Dd];exact hg) (by rw [Dd];exact hb) (fun _=>h.gY a 26 27)
   repeat (first | refine J.gK (congrArg (fun b=>some (D.c (bI b))) bY) ?_ | refine ay ?_ | intro _)
   refine J.draw (by kernel_rfl) rfl ?_;refine JW.base (some 9) ?_;refine tk 0 ?_;refine tk 1 ?_;refine tk 2 ?_;refine tk 3 ?_;refine JD.take 4 rfl rfl (by kernel_rfl) rfl (qb rfl) (Qt.dc rfl rfl (by omega) w0) rfl ?_;refine tk 5 ?_;refine tk 7 ?_;refine c9 6 (C1) ?_;refine c9 8 (C2) ?_;refine jt 9 rfl rfl (Ld.bh rfl rfl rfl (by exact rfl) (by exact rfl)) (fun _=>?_);refine JW.base none ?_;refine jk 10 rfl rfl rfl rfl (Qt.assign rfl) ?_;refine bX ?_
   all_goals
    exact aC func203
  | nil =>
   have hz:(decide (((cn s k.ch).recv.length:Int) > 0))=false:=by rw [hr];rfl
   have aj:iX s g i k=if (iW (cn s k.ch).buf (cn s k.ch).cap k.v).2=true then (fC (aA s k.ch { cn s k.ch with buf:=(iW (cn s k.ch).buf (cn s k.ch).cap k.v).1 }) g ⟨1,0,0,true,0⟩ i,true) else (s,false):=by unfold iX;simp only;rw [if_neg cP,if_neg (by rw [hr];simp)]
   have CP:=Np (cn s k.ch).buf (cn s k.ch).cap k.v (h.fit.bf _)
   cases hp:(iW (cn s k.ch).buf (cn s k.ch).cap k.v).2 with
   | true =>
    rw [if_pos hp] at aj;rw [hp] at CP;rw [aj]
    repeat (first | refine J.gK (congrArg (fun b=>some (D.c (bI b))) bY) ?_ | refine aR (nL s k.ch { cn s k.ch with buf:=(iW (cn s k.ch).buf (cn s k.ch).cap k.v).1 } hm dM) ?_ | refine aR (Ay (aA s k.ch { cn s k.ch with buf:=(iW (cn s k.ch).buf (cn s k.ch).cap k.v).1 }) g ⟨1,0,0,true,0⟩ i hg hb) ?_ | refine ay ?_ | intro _)
    exact aC func203
   | false =>
    rw [if_neg (by rw [hp];simp)] at aj;rw [hp] at CP;rw [aj]
    repeat (first | refine J.gK (congrArg (fun b=>some (D.c (bI b))) bY) ?_ | refine ay ?_ | intro _)
    exact aC func203
theorem X4 (s:ah) (g:Nat) (i:Int) (k:Pn.Cs) (h:Az s g k) :
  Pure prog 202 [.agg (aD s),.c (nI g),.c (nI i),.agg (tr k)] (.aZ [.agg (aD (jP s g i k).1),.c (bI (jP s g i k).2)]):=by
 have hg:=h.lt;have hb:=h.fit.1.1;have dM:=h.fit.1.2.1;have hm:=h.md;have hl:=fh hm;refine av.intro func202 rfl rfl rfl (fun ok e=>?_)
 cases hr:(cn s k.ch).send with
 | cons a l =>
  have er:jP s g i k=(Sx.gY (taken s g a 26 27) g,true):=by unfold jP;simp only;rw [if_pos (by rw [hr];simp),hr];rfl
  rw [er];have hz:(decide (((cn s k.ch).send.length:Int) > 0))=true:=by rw [hr];simp
  have w0:((cn s k.ch).send.map fun n=>[nI n])[(0:Int).toNat]?=some [nI a]:=by rw [hr];rfl
  have C1:=C7 s g a 26 27 hg (h.hs a l hr) h.fit;have C2:=GY (taken s g a 26 27) g (by rw [Dd];exact hg) (by rw [Dd];exact hb) (fun _=>h.gY a 26 27)
  repeat (first | refine ay ?_ | intro _)
  refine J.draw (by kernel_rfl) rfl ?_;refine JW.base (some 9) ?_;refine tk 0 ?_;refine tk 1 ?_;refine tk 2 ?_;refine tk 3 ?_;refine JD.take 4 rfl rfl (by kernel_rfl) rfl (qb rfl) (Qt.dc rfl rfl (by omega) w0) rfl ?_;refine tk 5 ?_;refine tk 7 ?_;refine c9 6 (C1) ?_;refine c9 8 (C2) ?_;refine jt 9 rfl rfl (Ld.bh rfl rfl rfl (by exact rfl) (by exact rfl)) (fun _=>?_);refine JW.base none ?_;refine jk 10 rfl rfl rfl rfl (Qt.assign rfl) ?_;refine bX ?_
  all_goals
   exact aC func202
 | nil =>
  have hz:(decide (((cn s k.ch).send.length:Int) > 0))=false:=by rw [hr];rfl
  have aj:jP s g i k=if (dX (cn s k.ch).buf).2.2=true then (fC (aA s k.ch { cn s k.ch with buf:=(dX (cn s k.ch).buf).1 }) g (cZ (dX (cn s k.ch).buf).2.1 true) i,true) else if (cn s k.ch).closed=true then (fC s g (cZ 0 false) i,true) else (s,false):=by unfold jP;simp only;rw [if_neg (by rw [hr];simp)]
  have CG:=Nr (cn s k.ch).buf (h.fit.bf _)
  cases hp:(dX (cn s k.ch).buf).2.2 with
  | true =>
   rw [if_pos hp] at aj;rw [hp] at CG;rw [aj]
   repeat (first | refine aR (nL s k.ch { cn s k.ch with buf:=(dX (cn s k.ch).buf).1 } hm dM) ?_ | refine aR (lR (dX (cn s k.ch).buf).2.1 true) ?_ | refine aR (Ay (aA s k.ch { cn s k.ch with buf:=(dX (cn s k.ch).buf).1 }) g (cZ (dX (cn s k.ch).buf).2.1 true) i hg hb) ?_ | refine ay ?_ | intro _)
   exact aC func202
  | false =>
   rw [if_neg (by rw [hp];simp)] at aj;rw [hp] at CG
   cases bY:(cn s k.ch).closed with
   | true =>
    rw [if_pos bY] at aj;rw [aj]
    repeat (first | refine J.iy (congrArg (fun b=>some (D.c (bI b))) bY) ?_ | refine ay ?_ | intro _)
    refine J.draw (by kernel_rfl) rfl ?_;refine JW.base (some 5) ?_;refine tk 0 ?_;refine tk 1 ?_;refine tk 3 ?_;refine c9 2 (lR 0 false) ?_;refine c9 4 (Ay s g (cZ 0 false) i hg hb) ?_;refine jt 5 rfl rfl (Ld.bh rfl rfl rfl (by exact rfl) (by exact rfl)) (fun _=>?_);refine JW.base none ?_;refine jk 6 rfl rfl rfl rfl (Qt.assign rfl) ?_;refine bX ?_
    all_goals
     exact aC func202
   | false =>
    rw [if_neg (by rw [bY];simp)] at aj;rw [aj]
    repeat (first | refine J.gK (congrArg (fun b=>some (D.c (bI b))) bY) ?_ | refine ay ?_ | intro _)
    exact aC func202
end Fl
open Go.RowKit
namespace Fl
open Sx Go.Proofs.Tryz
set_option maxRecDepth 100000
theorem AA {o:Pn.Op} {i:Int} (h0:0≤i) (h:i < o.cases.length):(o.cases.map tr)[i.toNat]?=some (tr (cD o i)):=by
 have:i.toNat < o.cases.length:=by omega
 exact at_map (by unfold cD;rw [List.getD_eq_getElem?_getD,List.getElem?_eq_getElem this];rfl)
structure AB (s:ah) (g:Nat) (o:Pn.Op):Prop where
 i0:0≤aE (aa s g).order (aa s g).k
 i1:aE (aa s g).order (aa s g).k < o.cases.length
 ca:Az s g (cD o (aE (aa s g).order (aa s g).k))
 cl:o.cases.length≤50000
theorem X5 (s:ah) (g:Nat) (o:Pn.Op) (h:AB s g o) :
  Pure prog 155 [.agg (aD s),.c (nI g),.agg (eL o)] (.agg (aD (kG s g o))):=by
 have hg:=h.ca.lt;have hb:=h.ca.fit.1.1;have k0:=h.ca.k0;have k1:=h.ca.k1;have ob:=h.ca.fit.od g;have I1:=oO k0 k1;have i0:=h.i0;have i1:=h.i1;have cl:=h.cl;have J1:=AA i0 i1;have C1:=X4 s g (aE (aa s g).order (aa s g).k) _ h.ca;have C2:=X3 s g (aE (aa s g).order (aa s g).k) _ h.ca;have aj:kG s g o=kG s g o:=rfl
 conv at aj=>rhs;unfold kG;simp only
 refine av.intro func155 rfl rfl rfl (fun ok e=>?_)
 repeat (first | refine ay ?_ | intro _)
 refine J.draw (by kernel_rfl) rfl ?_;refine JW.base none ?_;refine tk 0 ?_;refine tk 1 ?_;refine tk 2 ?_;refine JD.take 3 rfl rfl (by kernel_rfl) rfl (qb rfl) (Qt.dc rfl rfl (by omega) (gZ hg)) rfl ?_;refine tk 4 ?_;refine tk 5 ?_;refine tk 6 ?_;refine tk 7 ?_;refine tk 8 ?_;refine JD.take 9 rfl rfl (by kernel_rfl) rfl (qb rfl) (Qt.dc rfl rfl (by omega) (gZ hg)) rfl ?_;refine tk 10 ?_;refine tk 11 ?_;refine JD.take 12 rfl rfl (by kernel_rfl) rfl (qb rfl) (Qt.dc rfl rfl k0 I1) rfl ?_;refine tk 13 ?_;refine tk 14 ?_;refine bX ?_;generalize aE (aa s g).order (aa s g).k=i at *;generalize cL:cD o i=kk at *;have key:∃ R:ah × Bool,R=(if kk.send=true then iX s g i kk else jP s g i kk)∧((kk.send=true∧R=iX s g i kk)∨(kk.send=false∧R=jP s g i kk)):=by
  cases hs:kk.send with
  | true=>exact ⟨_,rfl,.inl ⟨rfl,by simp⟩⟩
  | false=>exact ⟨_,rfl,.inr ⟨rfl,by simp⟩⟩
 obtain ⟨R,hR,hW⟩:=key;rw [← hR] at aj;clear hR
 by_cases hr:R.2=true
 case pos =>
  rw [if_pos hr] at aj;rw [aj];rcases hW with ⟨hs,rfl⟩ | ⟨hs,rfl⟩
  ·rw [hr] at C2
   repeat (first | refine J.iy (congrArg (fun b=>some (D.c (bI b))) hs) ?_ | (refine K.store ?_;refine JO.ld (Ld.bh rfl rfl rfl (by exact rfl) (by exact rfl)) rfl (fun _=>?_)) | refine ay ?_ | intro _)
   exact aC func155
  ·rw [hr] at C1
   repeat (first | refine J.gK (congrArg (fun b=>some (D.c (bI b))) hs) ?_ | (refine K.store ?_;refine JO.ld (Ld.bh rfl rfl rfl (by exact rfl) (by exact rfl)) rfl (fun _=>?_)) | refine ay ?_ | intro _)
   exact aC func155
 case neg =>
 have gB:R.2=false:=by simpa using hr
 rw [if_neg hr] at aj
 by_cases hk:(aa s g).k + 1 < (aa s g).order.length
 case pos =>
  rw [if_pos hk] at aj;rw [aj];have bZ:(decide ((aa s g).k + 1 < ((aa s g).order.length:Int)))=true:=decide_eq_true hk;have C3:=qU s g 25 hg hb k0 (by omega);rcases hW with ⟨hs,rfl⟩ | ⟨hs,rfl⟩
  ·rw [gB] at C2
   repeat (first | refine J.iy (congrArg (fun b=>some (D.c (bI b))) hs) ?_ | (refine K.store ?_;refine JO.ld (Ld.bh rfl rfl rfl (by exact rfl) (by exact rfl)) rfl (fun _=>?_)) | refine ay ?_ | intro _)
   exact aC func155
  ·rw [gB] at C1
   repeat (first | refine J.gK (congrArg (fun b=>some (D.c (bI b))) hs) ?_ | (refine K.store ?_;refine JO.ld (Ld.bh rfl rfl rfl (by exact rfl) (by exact rfl)) rfl (fun _=>?_)) | refine ay ?_ | intro _)
   exact aC func155
 case neg =>
 rw [if_neg hk] at aj;have bZ:(decide ((aa s g).k + 1 < ((aa s g).order.length:Int)))=false:=decide_eq_false hk
 cases pY:o.dR with
 | true =>
  rw [if_pos pY] at aj;rw [aj];have C3:=Ay s g ⟨2,0,0,false,0⟩ (-1) hg hb;rcases hW with ⟨hs,rfl⟩ | ⟨hs,rfl⟩
  ·rw [gB] at C2
   repeat (first | refine J.iy (congrArg (fun b=>some (D.c (bI b))) hs) ?_ | refine J.iy (congrArg (fun b=>some (D.c (bI b))) pY) ?_ | (refine K.store ?_;refine JO.ld (Ld.bh rfl rfl rfl (by exact rfl) (by exact rfl)) rfl (fun _=>?_)) | refine ay ?_ | intro _)
   exact aC func155
  ·rw [gB] at C1
   repeat (first | refine J.gK (congrArg (fun b=>some (D.c (bI b))) hs) ?_ | refine J.iy (congrArg (fun b=>some (D.c (bI b))) pY) ?_ | (refine K.store ?_;refine JO.ld (Ld.bh rfl rfl rfl (by exact rfl) (by exact rfl)) rfl (fun _=>?_)) | refine ay ?_ | intro _)
   exact aC func155
 | false =>
  rw [if_neg (by rw [pY];simp)] at aj;rw [aj];have C3:=cS s g { aa s g with ax:=List.replicate o.cases.length (-1) } hg hb;have kx:(aa (ai s g { aa s g with ax:=List.replicate o.cases.length (-1) }) g).k=(aa s g).k:=qV Gr.k rfl;have C4:=qU (ai s g { aa s g with ax:=List.replicate o.cases.length (-1) }) g 28 (by rw [cz];exact hg) (by rw [cz];exact hb) (by rw [kx];exact k0) (by rw [kx];omega);rcases hW with ⟨hs,rfl⟩ | ⟨hs,rfl⟩
  case' inl =>
   rw [gB] at C2
   repeat (first | refine J.iy (congrArg (fun b=>some (D.c (bI b))) hs) ?_ | refine J.gK (congrArg (fun b=>some (D.c (bI b))) pY) ?_ | (refine K.store ?_;first | refine JO.ld (Ld.bh rfl rfl rfl (by exact rfl) (by exact rfl)) rfl (fun _=>?_) | refine JO.ld (Ld.di rfl rfl (by exact rfl)) rfl (fun _=>?_)) | refine ay ?_ | intro _)
   rename_i b6 b5 b4 b3 u3 b2 u2 u22 b1 u1 b0 u0
  case' inr =>
   rw [gB] at C1
   repeat (first | refine J.gK (congrArg (fun b=>some (D.c (bI b))) hs) ?_ | refine J.gK (congrArg (fun b=>some (D.c (bI b))) pY) ?_ | (refine K.store ?_;first | refine JO.ld (Ld.bh rfl rfl rfl (by exact rfl) (by exact rfl)) rfl (fun _=>?_) | refine JO.ld (Ld.di rfl rfl (by exact rfl)) rfl (fun _=>?_)) | refine ay ?_ | intro _)
   rename_i b6 b5 b4 b3 u3 b2 u2 b1 u1 b0 u0
  all_goals
   refine J.dF 5 ?_;refine J.dF 3 ?_;refine J.dF 2 ?_;refine J.loop (ι:={ p:Nat × Value // p.1≤o.cases.length }) (fun p=>[(77,.c (nI p.1.1)),(76,.c (nI o.cases.length)),(11,.c (.v (.pointer (some ⟨b1,0,none⟩)))),(3,.c (.v (.pointer (some ⟨b6,0,none⟩)))),(6,.c (.v (.pointer (some ⟨b4,0,none⟩)))),(1,.c (nI g))]) (fun p=>[.row p.1.2 3 1 ((List.replicate p.1.1 (-1:Int)).map fun n=>[nI n]),.box b1 47 ((eG (aa s g)).set 22 (.v p.1.2)),.box b4 36 rQ,.box b6 36 (aD s)]) (fun p=>o.cases.length - p.1.1) ⟨(0,.slice (some ⟨b0,0,none⟩) 0 0),Nat.zero_le _⟩ (fun X h=>h.bO ⟨rfl,rfl,rfl,rfl,rfl,rfl,trivial⟩) (fun p ih=>?_);obtain ⟨⟨k,v⟩,fK⟩:=p;simp only at fK ih ⊢
   by_cases NH:k < o.cases.length
   ·have h1:(decide ((k:Int) < (o.cases.length:Int)))=true:=by simpa using NH
    repeat (first | (refine K.store ?_;refine JO.ld (Ld.di rfl rfl (by exact rfl)) rfl (fun _=>?_)) | (refine K.bi ?_;refine JO.ld (Ld.cB (qb rfl) rfl rfl .de (by (simp;omega))) rfl (fun _=>?_)) | refine ay ?_ | intro _)
    rename_i b9 v2 u9;refine J.dF 1 ?_;refine J.fQ ?_ ((ih ⟨(k + 1,v2),by simp only;omega⟩ (by simp only;omega)).bO ⟨rfl,rfl,rfl,rfl,rfl,rfl,trivial⟩);simp only [List.replicate_succ',List.map_append,List.map_cons,List.map_nil];rfl
   ·have h1:(decide ((k:Int) < (o.cases.length:Int)))=false:=by simpa using NH
    obtain rfl:k=o.cases.length:=by omega
    refine J.nF 0 1 22 rfl rfl rfl ?_
    repeat (first | (refine K.store ?_;refine JO.ld (Ld.bh rfl rfl rfl (by exact rfl) (by exact rfl)) rfl (fun _=>?_)) | refine gn ?_)
    exact aC func155
end Fl
end Go.Proofs.YtdjhhbpedllnhaaGreat
