/-
  What the laws need, part S15.
  Conditions: none.
-/
import Derived.Test.YtgjpdogjekmemaaGreatS14
set_option linter.unusedVariables false
set_option linter.unusedSimpArgs false
set_option linter.unnecessarySimpa false
set_option maxHeartbeats 2000000
namespace Go.Proofs.YtgjpdogjekmemaaGreat
open Go.RowKit
namespace Fl
open Sx Go.Proofs.Tryz
set_option maxRecDepth 100000
theorem lR {l:List Int} {k:Int} (h0:0≤k) (h:k < l.length):(l.map fun n=>[nI n])[k.toNat]?=some [nI (aB l k)]:=by
 have:k.toNat < l.length:=by omega
 refine at_map ?_;unfold aB;rw [List.getElem?_eq_getElem this,List.getD_eq_getElem?_getD,List.getElem?_eq_getElem this];rfl
theorem qU (s:ah) (g:Nat) (p:Int) (hg:g < s.gs.length) (hb:s.gs.length≤100000) :
  Pure prog 159 [.agg (az s),.c (nI g),.c (nI p)] (.agg (az (unlock s g p))):=by
 refine aq.intro func159 rfl rfl rfl (fun ok e=>?_)
 repeat (first | refine aI (cA s g { aa s g with k:=(aa s g).aC.length,place:=p } hg hb) ?_ | refine av ?_ | intro _)
 exact aA func159
theorem Fx (s:ah) (g:Nat) (r:Md.ak) (p:Int):(bG s g r p).gs.length=s.gs.length:=by simp [bG,ai]
theorem vr (s:ah) (g:Nat) (r:Md.ak) (i:Int) (hg:g < s.gs.length) (hb:s.gs.length≤100000) :
  Pure prog 157 [.agg (az s),.c (nI g),.agg (rO r),.c (nI i)] (.agg (az (dR s g r i))):=by
 have C1:=vf r i;have C2:=hJ s g { r with cs:=i } 30 hg hb;have g1:g < (bG s g { r with cs:=i } 30).gs.length:=by rw [Fx];exact hg
 have b1:(bG s g { r with cs:=i } 30).gs.length≤100000:=by rw [Fx];exact hb
 have er:dR s g r i=unlock (ai (bG s g { r with cs:=i } 30) g { aa (bG s g { r with cs:=i } 30) g with dc:=i }) g 30:=rfl;rw [er];clear er;generalize bG s g { r with cs:=i } 30=s1 at *;have C3:=cA s1 g { aa s1 g with dc:=i } g1 b1;have C4:=qU (ai s1 g { aa s1 g with dc:=i }) g 30 (by rw [bQ];exact g1) (by rw [bQ];exact b1);refine aq.intro func157 rfl rfl rfl (fun ok e=>?_)
 repeat (first | refine av ?_ | intro _)
 refine J.draw (by kernel_rfl) rfl ?_;refine JW.base (some 6) ?_;refine tk 0 ?_;refine tk 1 ?_;refine tk 2 ?_;refine tk 3 ?_;refine cI 4 (C1) ?_;refine cI 5 (C2) ?_;refine jt 6 rfl rfl (Ld.aT rfl rfl rfl (by exact rfl) (by exact rfl)) (fun _=>?_);refine bz ?_
 repeat (first | refine av ?_ | intro _)
 exact aA func157
theorem Fy (s:ah) (g:Nat) (p:Int) (hg:g < s.gs.length) (hb:Few s) (k0:0≤(aa s g).k) (k1:(aa s g).k < (aa s g).aC.length) (kb:(aa s g).aC.length≤100000) (hm:aM s (aB (aa s g).aC (aa s g).k)=true) :
  Pure prog 122 [.agg (az s),.c (nI g),.c (nI p)] (.agg (az (lock s g p))):=by
 have I1:=lR k0 k1;have C1:=EF s g (aB (aa s g).aC (aa s g).k) hm hb.2.1;have g2:g < (tryLock s g (aB (aa s g).aC (aa s g).k)).1.gs.length:=by rw [xo];exact hg
 have b2:(tryLock s g (aB (aa s g).aC (aa s g).k)).1.gs.length≤100000:=by rw [xo];exact hb.1
 refine aq.intro func122 rfl rfl rfl (fun ok e=>?_)
 cases ht:(tryLock s g (aB (aa s g).aC (aa s g).k)).2 with
 | false =>
  rw [ht] at C1;have er:lock s g p=s:=by unfold lock;simp only;rw [if_neg (by rw [ht];simp)]
  rw [er]
  repeat (first | refine av ?_ | intro _)
  refine J.draw (by kernel_rfl) rfl ?_;refine JW.base (some 13) ?_;refine tk 0 ?_;refine tk 1 ?_;refine tk 2 ?_;refine tk 3 ?_;refine tk 4 ?_;refine tk 5 ?_;refine JD.take 6 rfl rfl (by kernel_rfl) rfl (qb rfl) (Qt.cE rfl rfl k0 I1) rfl ?_;refine tk 7 ?_;refine JD.cy (i:=8) (j:=12) (by kernel_rfl) ?_ ?_;refine JS.bt rfl rfl rfl (qb rfl) (Ld.pure (C1) (qb rfl) rfl lq) .none (fun _=>?_);refine JD.jN ?_;refine tk 9 ?_;refine tk 10 ?_;refine JD.cy (i:=11) (j:=12) (by kernel_rfl) ?_ ?_;refine JS.q rfl rfl rfl (qb rfl) (Qt.extract rfl rfl) ?_;refine jl 12 rfl rfl rfl rfl (Ld.alloc (qb rfl)) .none (fun _=>?_);refine jt 13 rfl rfl (Ld.aT rfl rfl rfl (by exact rfl) (by exact rfl)) (fun _=>?_);refine JW.base none ?_;refine jk 14 rfl rfl rfl rfl (Qt.assign rfl) ?_;refine bP ?_
  rotate_left
  refine JS.bt rfl rfl rfl (qb rfl) (Ld.alloc (qb rfl)) .none (fun _=>?_);refine JD.cy (i:=11) (j:=13) (by kernel_rfl) ?_ ?_;refine JS.q rfl rfl rfl (qb rfl) (Qt.extract rfl rfl) ?_;refine jt 13 rfl rfl (Ld.aT rfl rfl rfl (by exact rfl) (by exact rfl)) (fun _=>?_);refine JW.base none ?_;refine jk 14 rfl rfl rfl rfl (Qt.assign rfl) ?_;refine bP ?_
  rotate_left
  (refine JS.last rfl rfl (Ld.aT rfl rfl rfl (by exact rfl) (by exact rfl)) (fun _=>?_))
  refine JW.base none ?_;refine jk 11 rfl rfl rfl rfl (Qt.extract rfl rfl) ?_;refine jk 14 rfl rfl rfl rfl (Qt.assign rfl) ?_;refine bP ?_
  rotate_left
  refine JS.bt rfl rfl rfl (qb rfl) (Ld.alloc (qb rfl)) .none (fun _=>?_);refine cI 8 (C1) ?_;refine jk 9 rfl rfl rfl rfl (Qt.move rfl) ?_;refine JD.jN ?_;refine tk 10 ?_;refine JD.cy (i:=11) (j:=13) (by kernel_rfl) ?_ ?_;refine JS.q rfl rfl rfl (qb rfl) (Qt.extract rfl rfl) ?_;refine jt 13 rfl rfl (Ld.aT rfl rfl rfl (by exact rfl) (by exact rfl)) (fun _=>?_);refine JW.base none ?_;refine jk 14 rfl rfl rfl rfl (Qt.assign rfl) ?_;refine bP ?_
  rotate_left
  (refine JS.last rfl rfl (Ld.aT rfl rfl rfl (by exact rfl) (by exact rfl)) (fun _=>?_))
  refine JW.base none ?_;refine jk 11 rfl rfl rfl rfl (Qt.extract rfl rfl) ?_;refine jk 14 rfl rfl rfl rfl (Qt.assign rfl) ?_;refine bP ?_
  rotate_left
  all_goals
   repeat (refine gn ?_)
   exact aA func122
 | true =>
  rw [ht] at C1;have er:lock s g p=if (aa s g).k + 1=(aa s g).aC.length then ai (tryLock s g (aB (aa s g).aC (aa s g).k)).1 g { aa s g with k:=0,place:=p } else ai (tryLock s g (aB (aa s g).aC (aa s g).k)).1 g { aa s g with k:=(aa s g).k + 1 }:=by unfold lock;simp only;rw [if_pos ht]
  rw [er];generalize (tryLock s g (aB (aa s g).aC (aa s g).k)).1=s1 at *;have hk:((aa s g).k + 1 == ((aa s g).aC.length:Int))=decide ((aa s g).k + 1=(aa s g).aC.length):=rfl
  by_cases hl:(aa s g).k + 1=(aa s g).aC.length
  ·rw [if_pos hl];rw [decide_eq_true hl] at hk
   repeat (first | refine av ?_ | intro _)
   refine J.draw (by kernel_rfl) rfl ?_;refine JW.base (some 13) ?_;refine tk 0 ?_;refine tk 1 ?_;refine tk 2 ?_;refine tk 3 ?_;refine tk 4 ?_;refine tk 5 ?_;refine JD.take 6 rfl rfl (by kernel_rfl) rfl (qb rfl) (Qt.cE rfl rfl k0 I1) rfl ?_;refine tk 7 ?_;refine JD.cy (i:=8) (j:=12) (by kernel_rfl) ?_ ?_;refine JS.bt rfl rfl rfl (qb rfl) (Ld.pure (C1) (qb rfl) rfl lq) .none (fun _=>?_);refine JD.jN ?_;refine tk 9 ?_;refine tk 10 ?_;refine JD.cy (i:=11) (j:=12) (by kernel_rfl) ?_ ?_;refine JS.q rfl rfl rfl (qb rfl) (Qt.extract rfl rfl) ?_;refine jl 12 rfl rfl rfl rfl (Ld.alloc (qb rfl)) .none (fun _=>?_);refine jt 13 rfl rfl (Ld.aT rfl rfl rfl (by exact rfl) (by exact rfl)) (fun _=>?_);refine JW.base none ?_;refine jk 14 rfl rfl rfl rfl (Qt.assign rfl) ?_;refine bP ?_
   rotate_left
   refine JS.bt rfl rfl rfl (qb rfl) (Ld.alloc (qb rfl)) .none (fun _=>?_);refine JD.cy (i:=11) (j:=13) (by kernel_rfl) ?_ ?_;refine JS.q rfl rfl rfl (qb rfl) (Qt.extract rfl rfl) ?_;refine jt 13 rfl rfl (Ld.aT rfl rfl rfl (by exact rfl) (by exact rfl)) (fun _=>?_);refine JW.base none ?_;refine jk 14 rfl rfl rfl rfl (Qt.assign rfl) ?_;refine bP ?_
   rotate_left
   (refine JS.last rfl rfl (Ld.aT rfl rfl rfl (by exact rfl) (by exact rfl)) (fun _=>?_))
   refine JW.base none ?_;refine jk 11 rfl rfl rfl rfl (Qt.extract rfl rfl) ?_;refine jk 14 rfl rfl rfl rfl (Qt.assign rfl) ?_;refine bP ?_
   rotate_left
   refine JS.bt rfl rfl rfl (qb rfl) (Ld.alloc (qb rfl)) .none (fun _=>?_);refine cI 8 (C1) ?_;refine jk 9 rfl rfl rfl rfl (Qt.move rfl) ?_;refine JD.jN ?_;refine tk 10 ?_;refine JD.cy (i:=11) (j:=13) (by kernel_rfl) ?_ ?_;refine JS.q rfl rfl rfl (qb rfl) (Qt.extract rfl rfl) ?_;refine jt 13 rfl rfl (Ld.aT rfl rfl rfl (by exact rfl) (by exact rfl)) (fun _=>?_);refine JW.base none ?_;refine jk 14 rfl rfl rfl rfl (Qt.assign rfl) ?_;refine bP ?_
   rotate_left
   (refine JS.last rfl rfl (Ld.aT rfl rfl rfl (by exact rfl) (by exact rfl)) (fun _=>?_))
   refine JW.base none ?_;refine jk 11 rfl rfl rfl rfl (Qt.extract rfl rfl) ?_;refine jk 14 rfl rfl rfl rfl (Qt.assign rfl) ?_;refine bP ?_
   rotate_left
   all_goals
    repeat (first | refine aI (cA s1 g { aa s g with k:=0,place:=p } g2 b2) ?_ | refine gn ?_)
    exact aA func122
  ·rw [if_neg hl];rw [decide_eq_false hl] at hk
   repeat (first | refine av ?_ | intro _)
   refine J.draw (by kernel_rfl) rfl ?_;refine JW.base (some 13) ?_;refine tk 0 ?_;refine tk 1 ?_;refine tk 2 ?_;refine tk 3 ?_;refine tk 4 ?_;refine tk 5 ?_;refine JD.take 6 rfl rfl (by kernel_rfl) rfl (qb rfl) (Qt.cE rfl rfl k0 I1) rfl ?_;refine tk 7 ?_;refine JD.cy (i:=8) (j:=12) (by kernel_rfl) ?_ ?_;refine JS.bt rfl rfl rfl (qb rfl) (Ld.pure (C1) (qb rfl) rfl lq) .none (fun _=>?_);refine JD.jN ?_;refine tk 9 ?_;refine tk 10 ?_;refine JD.cy (i:=11) (j:=12) (by kernel_rfl) ?_ ?_;refine JS.q rfl rfl rfl (qb rfl) (Qt.extract rfl rfl) ?_;refine jl 12 rfl rfl rfl rfl (Ld.alloc (qb rfl)) .none (fun _=>?_);refine jt 13 rfl rfl (Ld.aT rfl rfl rfl (by exact rfl) (by exact rfl)) (fun _=>?_);refine JW.base none ?_;refine jk 14 rfl rfl rfl rfl (Qt.assign rfl) ?_;refine bP ?_
   rotate_left
   refine JS.bt rfl rfl rfl (qb rfl) (Ld.alloc (qb rfl)) .none (fun _=>?_);refine JD.cy (i:=11) (j:=13) (by kernel_rfl) ?_ ?_;refine JS.q rfl rfl rfl (qb rfl) (Qt.extract rfl rfl) ?_;refine jt 13 rfl rfl (Ld.aT rfl rfl rfl (by exact rfl) (by exact rfl)) (fun _=>?_);refine JW.base none ?_;refine jk 14 rfl rfl rfl rfl (Qt.assign rfl) ?_;refine bP ?_
   rotate_left
   (refine JS.last rfl rfl (Ld.aT rfl rfl rfl (by exact rfl) (by exact rfl)) (fun _=>?_))
   refine JW.base none ?_;refine jk 11 rfl rfl rfl rfl (Qt.extract rfl rfl) ?_;refine jk 14 rfl rfl rfl rfl (Qt.assign rfl) ?_;refine bP ?_
   rotate_left
   refine JS.bt rfl rfl rfl (qb rfl) (Ld.alloc (qb rfl)) .none (fun _=>?_);refine cI 8 (C1) ?_;refine jk 9 rfl rfl rfl rfl (Qt.move rfl) ?_;refine JD.jN ?_;refine tk 10 ?_;refine JD.cy (i:=11) (j:=13) (by kernel_rfl) ?_ ?_;refine JS.q rfl rfl rfl (qb rfl) (Qt.extract rfl rfl) ?_;refine jt 13 rfl rfl (Ld.aT rfl rfl rfl (by exact rfl) (by exact rfl)) (fun _=>?_);refine JW.base none ?_;refine jk 14 rfl rfl rfl rfl (Qt.assign rfl) ?_;refine bP ?_
   rotate_left
   (refine JS.last rfl rfl (Ld.aT rfl rfl rfl (by exact rfl) (by exact rfl)) (fun _=>?_))
   refine JW.base none ?_;refine jk 11 rfl rfl rfl rfl (Qt.extract rfl rfl) ?_;refine jk 14 rfl rfl rfl rfl (Qt.assign rfl) ?_;refine bP ?_
   rotate_left
   all_goals
    repeat (first | refine aI (cA s1 g { aa s g with k:=(aa s g).k + 1 } g2 b2) ?_ | refine gn ?_)
    exact aA func122
theorem nA (s:ah) (g:Nat) (p:Int) (hg:g < s.gs.length) (hb:s.gs.length≤100000) (k0:0≤(aa s g).k) (k1:(aa s g).k≤100000) :
  Pure prog 156 [.agg (az s),.c (nI g),.c (nI p)] (.agg (az (Sx.next s g p))):=by
 have er:Sx.next s g p=if (aa s g).k + 1=(aa s g).order.length then ai s g { aa s g with k:=0,place:=p } else ai s g { aa s g with k:=(aa s g).k + 1 }:=rfl
 rw [er];have hk:((aa s g).k + 1 == ((aa s g).order.length:Int))=decide ((aa s g).k + 1=(aa s g).order.length):=rfl;refine aq.intro func156 rfl rfl rfl (fun ok e=>?_)
 by_cases hl:(aa s g).k + 1=(aa s g).order.length
 ·rw [if_pos hl];rw [decide_eq_true hl] at hk
  repeat (first | refine aI (cA s g { aa s g with k:=0,place:=p } hg hb) ?_ | refine av ?_ | intro _)
  exact aA func156
 ·rw [if_neg hl];rw [decide_eq_false hl] at hk
  repeat (first | refine aI (cA s g { aa s g with k:=(aa s g).k + 1 } hg hb) ?_ | refine av ?_ | intro _)
  exact aA func156
theorem AB (s:ah) (g:Nat) (hg:g < s.gs.length) (hb:s.gs.length≤100000) (k0:(aa s g).place=27→0≤(aa s g).k∧(aa s g).k < (aa s g).order.length) :
  Pure prog 124 [.agg (az s),.c (nI g)] (.agg (az (Sx.fz s g))):=by
 refine aq.intro func124 rfl rfl rfl (fun ok e=>?_)
 cases hp:((aa s g).place == 27) with
 | true =>
  have e0:(aa s g).place=27:=by simpa using hp
  have er:Sx.fz s g=ai s g { aa s g with dc:=aB (aa s g).order (aa s g).k }:=by unfold Sx.fz;simp only;rw [if_pos e0]
  rw [er];have q0:=(k0 e0).1
  repeat (first | (refine K.indexAddr ?_;refine jx rfl rfl rfl rfl (by omega) (lR (k0 e0).1 (k0 e0).2) ?_) | refine aI (cA s g { aa s g with dc:=aB (aa s g).order (aa s g).k } hg hb) ?_ | refine av ?_ | intro _)
  exact aA func124
 | false =>
  have e0:¬ (aa s g).place=27:=by simpa using hp
  have er:Sx.fz s g=ai s g (aa s g):=by unfold Sx.fz;simp only;rw [if_neg e0]
  rw [er]
  repeat (first | refine aI (cA s g (aa s g) hg hb) ?_ | refine av ?_ | intro _)
  exact aA func124
end Fl
open Go.RowKit
namespace Fl
open Sx Go.Proofs.Tryz
set_option maxRecDepth 100000
theorem nB {α:Type} (f:Gr→α) {s:ah} {o g:Nat} {x:Gr} (e:f x=f (aa s o)):f (aa (ai s o x) g)=f (aa s g):=by
 by_cases h:o=g
 ·subst h;rcases xx s o x o with e1 | e1
  ·rw [e1,e]
  ·rw [e1]
 ·have:aa (ai s o x) g=aa s g:=by
   unfold aa ai;simp only [List.getD_eq_getElem?_getD,List.getElem?_set];rw [if_neg h]
  rw [this]
theorem AD {α:Type} (f:Gr→α) {s:ah} {o g:Nat} {p:Int} (e:∀ x:Gr,f { x with place:=p }=f x):f (aa (aO s o p) g)=f (aa s g):=by
 unfold aO;exact nB f (e _)
theorem Fz {α:Type} (f:Gr→α) {s:ah} {o g:Nat} {i:Int} (e:∀ (x:Gr) (a b c:Int),f { x with cz:=a,wi:=b,dc:=c }=f x):f (aa (Sx.pair s o i) g)=f (aa s g):=by
 unfold Sx.pair;simp only
 by_cases h:o=(su s i).g.toNat
 ·subst h;rcases xx (ai s (su s i).g.toNat { aa s (su s i).g.toNat with cz:=(aa s (su s i).g.toNat).t,wi:=((su s i).g.toNat:Int),dc:=(su s i).cs }) (su s i).g.toNat { aa s (su s i).g.toNat with cz:=(aa s (su s i).g.toNat).t,wi:=(su s i).g } g with e1 | e1
  ·by_cases h2:(su s i).g.toNat=g
   ·rw [e1,← h2];exact e (aa s (su s i).g.toNat) (aa s (su s i).g.toNat).t (su s i).g (aa s (su s i).g.toNat).dc
   ·have:∀ (s:ah) (o:Nat) (x:Gr),o≠g→aa (ai s o x) g=aa s g:=fun s o x h=>by
     unfold aa ai;simp only [List.getD_eq_getElem?_getD,List.getElem?_set];rw [if_neg h]
    rw [this _ _ _ h2,this _ _ _ h2]
  ·rw [e1];exact nB f (e (aa s (su s i).g.toNat) _ _ _)
 ·have h3:∀ (s:ah) (o:Nat) (x:Gr) (g:Nat),o≠g→aa (ai s o x) g=aa s g:=fun s o x g h=>by
   unfold aa ai;simp only [List.getD_eq_getElem?_getD,List.getElem?_set];rw [if_neg h]
  rw [nB f (x:={ aa s o with cz:=(aa s o).t,wi:=(su s i).g })]
  ·exact nB f (e (aa s (su s i).g.toNat) _ _ _)
  ·rw [h3 _ _ _ _ (Ne.symm h)];exact e (aa s o) _ _ (aa s o).dc
theorem FA {α:Type} (f:Gr→α) {s:ah} {g:Nat} {i wi ha:Int} (e:∀ (x:Gr) (a b c:Int),f { x with cz:=a,wi:=b,dc:=c }=f x) (e2:∀ (x:Gr) (p:Int),f { x with place:=p }=f x) (e3:∀ (x:Gr) (a b:Int),f { x with hold:=a,t:=b }=f x) (h:Nat):f (aa (taken s g i wi ha) h)=f (aa s h):=by
 unfold taken
 split
 ·rw [AD f (fun x=>e2 x _)];exact nB f (e3 (aa s g) i (aa s g).t)
 ·rw [AD f (fun x=>e2 x _),Fz f e,pY (fC _ _)];exact nB f (e3 (aa s g) i s.step)
theorem xy (s:ah) (g:Nat) (i wi ha:Int):(taken s g i wi ha).gs.length=s.gs.length:=by
 unfold taken
 split
 ·simp [aO,ai]
 ·rw [sK,sL,fC,bQ]
structure vt (s:ah) (g:Nat) (k:Pn.Cs):Prop where
 lt:g < s.gs.length
 fit:Fit s
 k0:0≤(aa s g).k
 k1:(aa s g).k < (aa s g).order.length
 md:aM s k.ch=true
 hr:∀ a l,(cn s k.ch).recv=a :: l→cV s a
 hs:∀ a l,(cn s k.ch).send=a :: l→cV s a
theorem vt.fz {s:ah} {g:Nat} {k:Pn.Cs} (h:vt s g k) (i wi ha:Int):0≤(aa (taken s g i wi ha) g).k∧(aa (taken s g i wi ha) g).k < (aa (taken s g i wi ha) g).order.length:=by
 rw [FA (f:=Gr.k) (fun _ _ _ _=>rfl) (fun _ _=>rfl) (fun _ _ _=>rfl),FA (f:=Gr.order) (fun _ _ _ _=>rfl) (fun _ _=>rfl) (fun _ _ _=>rfl)];exact ⟨h.k0,h.k1⟩
theorem NV (s:ah) (g:Nat) (i:Int) (k:Pn.Cs) (h:vt s g k) :
  Pure prog 155 [.agg (az s),.c (nI g),.c (nI i),.agg (o9 k)] (.aY [.agg (az (gP s g i k).1),.c (bI (gP s g i k).2)]):=by
 have hg:=h.lt;have hb:=h.fit.1.1;have cW:=h.fit.1.2.1;have hm:=h.md;have hl:=dM hm;refine aq.intro func155 rfl rfl rfl (fun ok e=>?_)
 cases bU:(cn s k.ch).closed with
 | true =>
  have er:gP s g i k=(dR s g ⟨3,0,0,false,0⟩ i,true):=by unfold gP;simp only;rw [if_pos bU]
  rw [er]
  repeat (first | refine J.fI (congrArg (fun b=>some (D.c (bI b))) bU) ?_ | refine aI (vr s g ⟨3,0,0,false,0⟩ i hg hb) ?_ | refine av ?_ | intro _)
  exact aA func155
 | false =>
  have bX:¬ (cn s k.ch).closed=true:=by rw [bU];simp
  cases hr:(cn s k.ch).recv with
  | cons a l =>
   have er:gP s g i k=(Sx.fz (taken s g a 26 27) g,true):=by unfold gP;simp only;rw [if_neg bX,if_pos (by rw [hr];simp),hr];rfl
   rw [er];have hz:(decide (((cn s k.ch).recv.length:Int) > 0))=true:=by rw [hr];simp
   have w0:((cn s k.ch).recv.map fun n=>[nI n])[(0:Int).toNat]?=some [nI a]:=by rw [hr];rfl
   have C1:=xq s g a 26 27 hg (h.hr a l hr) h.fit;have C2:=AB (taken s g a 26 27) g (by rw [xy];exact hg) (by rw [xy];exact hb) (fun _=>h.fz a 26 27)
   repeat (first | refine J.eW (congrArg (fun b=>some (D.c (bI b))) bU) ?_ | refine av ?_ | intro _)
   refine J.draw (by kernel_rfl) rfl ?_;refine JW.base (some 9) ?_;refine tk 0 ?_;refine tk 1 ?_;refine tk 2 ?_;refine tk 3 ?_;refine JD.take 4 rfl rfl (by kernel_rfl) rfl (qb rfl) (Qt.cE rfl rfl (by omega) w0) rfl ?_;refine tk 5 ?_;refine tk 7 ?_;refine cI 6 (C1) ?_;refine cI 8 (C2) ?_;refine jt 9 rfl rfl (Ld.aT rfl rfl rfl (by exact rfl) (by exact rfl)) (fun _=>?_);refine JW.base none ?_;refine jk 10 rfl rfl rfl rfl (Qt.assign rfl) ?_;refine bP ?_
   all_goals
    exact aA func155
  | nil =>
   have hz:(decide (((cn s k.ch).recv.length:Int) > 0))=false:=by rw [hr];rfl
   have aj:gP s g i k=if (gH (cn s k.ch).buf (cn s k.ch).cap k.v).2=true then (dR (aF s k.ch { cn s k.ch with buf:=(gH (cn s k.ch).buf (cn s k.ch).cap k.v).1 }) g ⟨1,0,0,true,0⟩ i,true) else (s,false):=by unfold gP;simp only;rw [if_neg bX,if_neg (by rw [hr];simp)]
   have CP:=Fc (cn s k.ch).buf (cn s k.ch).cap k.v (h.fit.bf _)
   cases hp:(gH (cn s k.ch).buf (cn s k.ch).cap k.v).2 with
   | true =>
    rw [if_pos hp] at aj;rw [hp] at CP;rw [aj]
    repeat (first | refine J.eW (congrArg (fun b=>some (D.c (bI b))) bU) ?_ | refine aI (kT s k.ch { cn s k.ch with buf:=(gH (cn s k.ch).buf (cn s k.ch).cap k.v).1 } hm cW) ?_ | refine aI (vr (aF s k.ch { cn s k.ch with buf:=(gH (cn s k.ch).buf (cn s k.ch).cap k.v).1 }) g ⟨1,0,0,true,0⟩ i hg hb) ?_ | refine av ?_ | intro _)
    exact aA func155
   | false =>
    rw [if_neg (by rw [hp];simp)] at aj;rw [hp] at CP;rw [aj]
    repeat (first | refine J.eW (congrArg (fun b=>some (D.c (bI b))) bU) ?_ | refine av ?_ | intro _)
    exact aA func155
theorem NW (s:ah) (g:Nat) (i:Int) (k:Pn.Cs) (h:vt s g k) :
  Pure prog 154 [.agg (az s),.c (nI g),.c (nI i),.agg (o9 k)] (.aY [.agg (az (iG s g i k).1),.c (bI (iG s g i k).2)]):=by
 have hg:=h.lt;have hb:=h.fit.1.1;have cW:=h.fit.1.2.1;have hm:=h.md;have hl:=dM hm;refine aq.intro func154 rfl rfl rfl (fun ok e=>?_)
 cases hr:(cn s k.ch).send with
 | cons a l =>
  have er:iG s g i k=(Sx.fz (taken s g a 26 27) g,true):=by unfold iG;simp only;rw [if_pos (by rw [hr];simp),hr];rfl
  rw [er];have hz:(decide (((cn s k.ch).send.length:Int) > 0))=true:=by rw [hr];simp
  have w0:((cn s k.ch).send.map fun n=>[nI n])[(0:Int).toNat]?=some [nI a]:=by rw [hr];rfl
  have C1:=xq s g a 26 27 hg (h.hs a l hr) h.fit;have C2:=AB (taken s g a 26 27) g (by rw [xy];exact hg) (by rw [xy];exact hb) (fun _=>h.fz a 26 27)
  repeat (first | refine av ?_ | intro _)
  refine J.draw (by kernel_rfl) rfl ?_;refine JW.base (some 9) ?_;refine tk 0 ?_;refine tk 1 ?_;refine tk 2 ?_;refine tk 3 ?_;refine JD.take 4 rfl rfl (by kernel_rfl) rfl (qb rfl) (Qt.cE rfl rfl (by omega) w0) rfl ?_;refine tk 5 ?_;refine tk 7 ?_;refine cI 6 (C1) ?_;refine cI 8 (C2) ?_;refine jt 9 rfl rfl (Ld.aT rfl rfl rfl (by exact rfl) (by exact rfl)) (fun _=>?_);refine JW.base none ?_;refine jk 10 rfl rfl rfl rfl (Qt.assign rfl) ?_;refine bP ?_
  all_goals
   exact aA func154
 | nil =>
  have hz:(decide (((cn s k.ch).send.length:Int) > 0))=false:=by rw [hr];rfl
  have aj:iG s g i k=if (fE (cn s k.ch).buf).2.2=true then (dR (aF s k.ch { cn s k.ch with buf:=(fE (cn s k.ch).buf).1 }) g (dI (fE (cn s k.ch).buf).2.1 true) i,true) else if (cn s k.ch).closed=true then (dR s g (dI 0 false) i,true) else (s,false):=by unfold iG;simp only;rw [if_neg (by rw [hr];simp)]
  have CG:=Fg (cn s k.ch).buf (h.fit.bf _)
  cases hp:(fE (cn s k.ch).buf).2.2 with
  | true =>
   rw [if_pos hp] at aj;rw [hp] at CG;rw [aj]
   repeat (first | refine aI (kT s k.ch { cn s k.ch with buf:=(fE (cn s k.ch).buf).1 } hm cW) ?_ | refine aI (jE (fE (cn s k.ch).buf).2.1 true) ?_ | refine aI (vr (aF s k.ch { cn s k.ch with buf:=(fE (cn s k.ch).buf).1 }) g (dI (fE (cn s k.ch).buf).2.1 true) i hg hb) ?_ | refine av ?_ | intro _)
   exact aA func154
  | false =>
   rw [if_neg (by rw [hp];simp)] at aj;rw [hp] at CG
   cases bU:(cn s k.ch).closed with
   | true =>
    rw [if_pos bU] at aj;rw [aj]
    repeat (first | refine J.fI (congrArg (fun b=>some (D.c (bI b))) bU) ?_ | refine av ?_ | intro _)
    refine J.draw (by kernel_rfl) rfl ?_;refine JW.base (some 5) ?_;refine tk 0 ?_;refine tk 1 ?_;refine tk 3 ?_;refine cI 2 (jE 0 false) ?_;refine cI 4 (vr s g (dI 0 false) i hg hb) ?_;refine jt 5 rfl rfl (Ld.aT rfl rfl rfl (by exact rfl) (by exact rfl)) (fun _=>?_);refine JW.base none ?_;refine jk 6 rfl rfl rfl rfl (Qt.assign rfl) ?_;refine bP ?_
    all_goals
     exact aA func154
   | false =>
    rw [if_neg (by rw [bU];simp)] at aj;rw [aj]
    repeat (first | refine J.eW (congrArg (fun b=>some (D.c (bI b))) bU) ?_ | refine av ?_ | intro _)
    exact aA func154
end Fl
open Go.RowKit
namespace Fl
open Sx Go.Proofs.Tryz
set_option maxRecDepth 100000
theorem vu {o:Pn.Op} {i:Int} (h0:0≤i) (h:i < o.cases.length):(o.cases.map o9)[i.toNat]?=some (o9 (bY o i)):=by
 have:i.toNat < o.cases.length:=by omega
 exact at_map (by unfold bY;rw [List.getD_eq_getElem?_getD,List.getElem?_eq_getElem this];rfl)
structure vv (s:ah) (g:Nat) (o:Pn.Op):Prop where
 i0:0≤aB (aa s g).order (aa s g).k
 i1:aB (aa s g).order (aa s g).k < o.cases.length
 ca:vt s g (bY o (aB (aa s g).order (aa s g).k))
 cl:o.cases.length≤50000
theorem NX (s:ah) (g:Nat) (o:Pn.Op) (h:vv s g o) :
  Pure prog 123 [.agg (az s),.c (nI g),.agg (cC o)] (.agg (az (jb s g o))):=by
 have hg:=h.ca.lt;have hb:=h.ca.fit.1.1;have k0:=h.ca.k0;have k1:=h.ca.k1;have ob:=h.ca.fit.od g;have I1:=lR k0 k1;have i0:=h.i0;have i1:=h.i1;have cl:=h.cl;have J1:=vu i0 i1;have C1:=NW s g (aB (aa s g).order (aa s g).k) _ h.ca;have C2:=NV s g (aB (aa s g).order (aa s g).k) _ h.ca;have aj:jb s g o=jb s g o:=rfl
 conv at aj=>rhs;unfold jb;simp only
 refine aq.intro func123 rfl rfl rfl (fun ok e=>?_)
 repeat (first | refine av ?_ | intro _)
 refine J.draw (by kernel_rfl) rfl ?_;refine JW.base none ?_;refine tk 0 ?_;refine tk 1 ?_;refine tk 2 ?_;refine JD.take 3 rfl rfl (by kernel_rfl) rfl (qb rfl) (Qt.cE rfl rfl (by omega) (gL hg)) rfl ?_;refine tk 4 ?_;refine tk 5 ?_;refine tk 6 ?_;refine tk 7 ?_;refine tk 8 ?_;refine JD.take 9 rfl rfl (by kernel_rfl) rfl (qb rfl) (Qt.cE rfl rfl (by omega) (gL hg)) rfl ?_;refine tk 10 ?_;refine tk 11 ?_;refine JD.take 12 rfl rfl (by kernel_rfl) rfl (qb rfl) (Qt.cE rfl rfl k0 I1) rfl ?_;refine tk 13 ?_;refine tk 14 ?_;refine bP ?_;generalize aB (aa s g).order (aa s g).k=i at *;generalize bZ:bY o i=kk at *;have key:∃ R:ah × Bool,R=(if kk.send=true then gP s g i kk else iG s g i kk)∧((kk.send=true∧R=gP s g i kk)∨(kk.send=false∧R=iG s g i kk)):=by
  cases hs:kk.send with
  | true=>exact ⟨_,rfl,.inl ⟨rfl,by simp⟩⟩
  | false=>exact ⟨_,rfl,.inr ⟨rfl,by simp⟩⟩
 obtain ⟨R,hR,hW⟩:=key;rw [← hR] at aj;clear hR
 by_cases hr:R.2=true
 case pos =>
  rw [if_pos hr] at aj;rw [aj];rcases hW with ⟨hs,rfl⟩ | ⟨hs,rfl⟩
  ·rw [hr] at C2
   repeat (first | refine J.fI (congrArg (fun b=>some (D.c (bI b))) hs) ?_ | (refine K.store ?_;refine JO.ld (Ld.aT rfl rfl rfl (by exact rfl) (by exact rfl)) rfl (fun _=>?_)) | refine av ?_ | intro _)
   exact aA func123
  ·rw [hr] at C1
   repeat (first | refine J.eW (congrArg (fun b=>some (D.c (bI b))) hs) ?_ | (refine K.store ?_;refine JO.ld (Ld.aT rfl rfl rfl (by exact rfl) (by exact rfl)) rfl (fun _=>?_)) | refine av ?_ | intro _)
   exact aA func123
 case neg =>
 have iX:R.2=false:=by simpa using hr
 rw [if_neg hr] at aj
 by_cases hk:(aa s g).k + 1 < (aa s g).order.length
 case pos =>
  rw [if_pos hk] at aj;rw [aj];have aN:(decide ((aa s g).k + 1 < ((aa s g).order.length:Int)))=true:=decide_eq_true hk;have C3:=nA s g 25 hg hb k0 (by omega);rcases hW with ⟨hs,rfl⟩ | ⟨hs,rfl⟩
  ·rw [iX] at C2
   repeat (first | refine J.fI (congrArg (fun b=>some (D.c (bI b))) hs) ?_ | (refine K.store ?_;refine JO.ld (Ld.aT rfl rfl rfl (by exact rfl) (by exact rfl)) rfl (fun _=>?_)) | refine av ?_ | intro _)
   exact aA func123
  ·rw [iX] at C1
   repeat (first | refine J.eW (congrArg (fun b=>some (D.c (bI b))) hs) ?_ | (refine K.store ?_;refine JO.ld (Ld.aT rfl rfl rfl (by exact rfl) (by exact rfl)) rfl (fun _=>?_)) | refine av ?_ | intro _)
   exact aA func123
 case neg =>
 rw [if_neg hk] at aj;have aN:(decide ((aa s g).k + 1 < ((aa s g).order.length:Int)))=false:=decide_eq_false hk
 cases mK:o.cQ with
 | true =>
  rw [if_pos mK] at aj;rw [aj];have C3:=vr s g ⟨2,0,0,false,0⟩ (-1) hg hb;rcases hW with ⟨hs,rfl⟩ | ⟨hs,rfl⟩
  ·rw [iX] at C2
   repeat (first | refine J.fI (congrArg (fun b=>some (D.c (bI b))) hs) ?_ | refine J.fI (congrArg (fun b=>some (D.c (bI b))) mK) ?_ | (refine K.store ?_;refine JO.ld (Ld.aT rfl rfl rfl (by exact rfl) (by exact rfl)) rfl (fun _=>?_)) | refine av ?_ | intro _)
   exact aA func123
  ·rw [iX] at C1
   repeat (first | refine J.eW (congrArg (fun b=>some (D.c (bI b))) hs) ?_ | refine J.fI (congrArg (fun b=>some (D.c (bI b))) mK) ?_ | (refine K.store ?_;refine JO.ld (Ld.aT rfl rfl rfl (by exact rfl) (by exact rfl)) rfl (fun _=>?_)) | refine av ?_ | intro _)
   exact aA func123
 | false =>
  rw [if_neg (by rw [mK];simp)] at aj;rw [aj];have C3:=cA s g { aa s g with au:=List.replicate o.cases.length (-1) } hg hb;have kx:(aa (ai s g { aa s g with au:=List.replicate o.cases.length (-1) }) g).k=(aa s g).k:=nB Gr.k rfl;have C4:=nA (ai s g { aa s g with au:=List.replicate o.cases.length (-1) }) g 28 (by rw [bQ];exact hg) (by rw [bQ];exact hb) (by rw [kx];exact k0) (by rw [kx];omega);rcases hW with ⟨hs,rfl⟩ | ⟨hs,rfl⟩
  case' inl =>
   rw [iX] at C2
   repeat (first | refine J.fI (congrArg (fun b=>some (D.c (bI b))) hs) ?_ | refine J.eW (congrArg (fun b=>some (D.c (bI b))) mK) ?_ | (refine K.store ?_;first | refine JO.ld (Ld.aT rfl rfl rfl (by exact rfl) (by exact rfl)) rfl (fun _=>?_) | refine JO.ld (Ld.cr rfl rfl (by exact rfl)) rfl (fun _=>?_)) | refine av ?_ | intro _)
   rename_i b6 b5 b4 b3 u3 b2 u2 Q5 b1 u1 b0 u0
  case' inr =>
   rw [iX] at C1
   repeat (first | refine J.eW (congrArg (fun b=>some (D.c (bI b))) hs) ?_ | refine J.eW (congrArg (fun b=>some (D.c (bI b))) mK) ?_ | (refine K.store ?_;first | refine JO.ld (Ld.aT rfl rfl rfl (by exact rfl) (by exact rfl)) rfl (fun _=>?_) | refine JO.ld (Ld.cr rfl rfl (by exact rfl)) rfl (fun _=>?_)) | refine av ?_ | intro _)
   rename_i b6 b5 b4 b3 u3 b2 u2 b1 u1 b0 u0
  all_goals
   refine J.eI 5 ?_;refine J.eI 3 ?_;refine J.eI 2 ?_;refine J.loop (ι:={ p:Nat × Value // p.1≤o.cases.length }) (fun p=>[(77,.c (nI p.1.1)),(76,.c (nI o.cases.length)),(11,.c (.v (.pointer (some ⟨b1,0,none⟩)))),(3,.c (.v (.pointer (some ⟨b6,0,none⟩)))),(6,.c (.v (.pointer (some ⟨b4,0,none⟩)))),(1,.c (nI g))]) (fun p=>[.row p.1.2 3 1 ((List.replicate p.1.1 (-1:Int)).map fun n=>[nI n]),.box b1 55 ((eG (aa s g)).set 22 (.v p.1.2)),.box b4 36 kK,.box b6 36 (az s)]) (fun p=>o.cases.length - p.1.1) ⟨(0,.slice (some ⟨b0,0,none⟩) 0 0),Nat.zero_le _⟩ (fun X h=>h.aQ ⟨rfl,rfl,rfl,rfl,rfl,rfl,trivial⟩) (fun p ih=>?_);obtain ⟨⟨k,v⟩,jr⟩:=p;simp only at jr ih ⊢
   by_cases FB:k < o.cases.length
   ·have h1:(decide ((k:Int) < (o.cases.length:Int)))=true:=by simpa using FB
    repeat (first | (refine K.store ?_;refine JO.ld (Ld.cr rfl rfl (by exact rfl)) rfl (fun _=>?_)) | (refine K.bi ?_;refine JO.ld (Ld.bH (qb rfl) rfl rfl .bV (by (simp;omega))) rfl (fun _=>?_)) | refine av ?_ | intro _)
    rename_i b9 v2 u9;refine J.eI 1 ?_;refine J.dj ?_ ((ih ⟨(k + 1,v2),by simp only;omega⟩ (by simp only;omega)).aQ ⟨rfl,rfl,rfl,rfl,rfl,rfl,trivial⟩);simp only [List.replicate_succ',List.map_append,List.map_cons,List.map_nil];rfl
   ·have h1:(decide ((k:Int) < (o.cases.length:Int)))=false:=by simpa using FB
    obtain rfl:k=o.cases.length:=by omega
    refine J.jR 0 1 22 rfl rfl rfl ?_
    repeat (first | (refine K.store ?_;refine JO.ld (Ld.aT rfl rfl rfl (by exact rfl) (by exact rfl)) rfl (fun _=>?_)) | refine gn ?_)
    exact aA func123
end Fl
end Go.Proofs.YtgjpdogjekmemaaGreat
