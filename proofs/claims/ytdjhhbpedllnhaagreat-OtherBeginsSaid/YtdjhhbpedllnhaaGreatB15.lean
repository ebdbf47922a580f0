/-
  What the laws need, part B15.
  Conditions: none.
-/
import Derived.Test.YtdjhhbpedllnhaaGreatB14
set_option linter.unusedVariables false
set_option linter.unusedSimpArgs false
set_option linter.unnecessarySimpa false
set_option maxHeartbeats 2000000
namespace Go.Proofs.YtdjhhbpedllnhaaGreat
open Go.RowKit
namespace Fl
open Sx Go.Proofs.Tryz
set_option maxRecDepth 100000
theorem ov {l:List Int} {k:Int} (h0:0≤k) (h:k < l.length):(l.map fun n=>[nI n])[k.toNat]?=some [nI (ax l k)]:=by
 have:k.toNat < l.length:=by omega
 refine at_map ?_;unfold ax;rw [List.getElem?_eq_getElem this,List.getD_eq_getElem?_getD,List.getElem?_eq_getElem this];rfl
theorem uM (s:ah) (g:Nat) (p:Int) (hg:g < s.gs.length) (hb:s.gs.length≤100000) :
  Pure prog 213 [.agg (aC s),.c (nI g),.c (nI p)] (.agg (aC (Sx.unlock s g p))):=by
 refine an.intro func213 rfl rfl rfl (fun ok e=>?_)
 repeat (first | refine aX (cV s g { aa s g with k:=(aa s g).aB.length,place:=p } hg hb) ?_ | refine ay ?_ | intro _)
 exact aD func213
theorem KG (s:ah) (g:Nat) (r:Md.aj) (p:Int):(cq s g r p).gs.length=s.gs.length:=by simp [cq,ai]
theorem zq (s:ah) (g:Nat) (r:Md.aj) (i:Int) (hg:g < s.gs.length) (hb:s.gs.length≤100000) :
  Pure prog 205 [.agg (aC s),.c (nI g),.agg (qZ r),.c (nI i)] (.agg (aC (Sx.cZ s g r i))):=by
 have C1:=za r i;have C2:=jo s g { r with cs:=i } 30 hg hb;have g1:g < (cq s g { r with cs:=i } 30).gs.length:=by rw [KG];exact hg
 have b1:(cq s g { r with cs:=i } 30).gs.length≤100000:=by rw [KG];exact hb
 have er:Sx.cZ s g r i=Sx.unlock (ai (cq s g { r with cs:=i } 30) g { aa (cq s g { r with cs:=i } 30) g with dm:=i }) g 30:=rfl;rw [er];clear er;generalize cq s g { r with cs:=i } 30=s1 at *;have C3:=cV s1 g { aa s1 g with dm:=i } g1 b1;have C4:=uM (ai s1 g { aa s1 g with dm:=i }) g 30 (by rw [cD];exact g1) (by rw [cD];exact b1);refine an.intro func205 rfl rfl rfl (fun ok e=>?_)
 repeat (first | refine ay ?_ | intro _)
 refine J.draw (by kernel_rfl) rfl ?_;refine JW.base (some 6) ?_;refine tk 0 ?_;refine tk 1 ?_;refine tk 2 ?_;refine tk 3 ?_;refine dA 4 (C1) ?_;refine dA 5 (C2) ?_;refine jt 6 rfl rfl (Ld.bq rfl rfl rfl (by exact rfl) (by exact rfl)) (fun _=>?_);refine bR ?_
 repeat (first | refine ay ?_ | intro _)
 exact aD func205
theorem KH (s:ah) (g:Nat) (p:Int) (hg:g < s.gs.length) (hb:Few s) (k0:0≤(aa s g).k) (k1:(aa s g).k < (aa s g).aB.length) (kb:(aa s g).aB.length≤100000) (hm:aT s (ax (aa s g).aB (aa s g).k)=true) :
  Pure prog 154 [.agg (aC s),.c (nI g),.c (nI p)] (.agg (aC (Sx.lock s g p))):=by
 have I1:=ov k0 k1;have C1:=IJ s g (ax (aa s g).aB (aa s g).k) hm hb.2.1;have g2:g < (Sx.tryLock s g (ax (aa s g).aB (aa s g).k)).1.gs.length:=by rw [BJ];exact hg
 have b2:(Sx.tryLock s g (ax (aa s g).aB (aa s g).k)).1.gs.length≤100000:=by rw [BJ];exact hb.1
 refine an.intro func154 rfl rfl rfl (fun ok e=>?_)
 cases ht:(Sx.tryLock s g (ax (aa s g).aB (aa s g).k)).2 with
 | false =>
  rw [ht] at C1;have er:Sx.lock s g p=s:=by unfold Sx.lock;simp only;rw [if_neg (by rw [ht];simp)]
  rw [er]
  repeat (first | refine ay ?_ | intro _)
  refine J.draw (by kernel_rfl) rfl ?_;refine JW.base (some 13) ?_;refine tk 0 ?_;refine tk 1 ?_;refine tk 2 ?_;refine tk 3 ?_;refine tk 4 ?_;refine tk 5 ?_;refine JD.take 6 rfl rfl (by kernel_rfl) rfl (qb rfl) (Qt.cI rfl rfl k0 I1) rfl ?_;refine tk 7 ?_;refine JD.cU (i:=8) (j:=12) (by kernel_rfl) ?_ ?_;refine JS.bZ rfl rfl rfl (qb rfl) (Ld.pure (C1) (qb rfl) rfl lq) .none (fun _=>?_);refine JD.lB ?_;refine tk 9 ?_;refine tk 10 ?_;refine JD.cU (i:=11) (j:=12) (by kernel_rfl) ?_ ?_;refine JS.q rfl rfl rfl (qb rfl) (Qt.extract rfl rfl) ?_;refine jl 12 rfl rfl rfl rfl (Ld.alloc (qb rfl)) .none (fun _=>?_);refine jt 13 rfl rfl (Ld.bq rfl rfl rfl (by exact rfl) (by exact rfl)) (fun _=>?_);refine JW.base none ?_;refine jk 14 rfl rfl rfl rfl (Qt.assign rfl) ?_;refine bE ?_
  rotate_left
  refine JS.bZ rfl rfl rfl (qb rfl) (Ld.alloc (qb rfl)) .none (fun _=>?_);refine JD.cU (i:=11) (j:=13) (by kernel_rfl) ?_ ?_;refine JS.q rfl rfl rfl (qb rfl) (Qt.extract rfl rfl) ?_;refine jt 13 rfl rfl (Ld.bq rfl rfl rfl (by exact rfl) (by exact rfl)) (fun _=>?_);refine JW.base none ?_;refine jk 14 rfl rfl rfl rfl (Qt.assign rfl) ?_;refine bE ?_
  rotate_left
  (refine JS.last rfl rfl (Ld.bq rfl rfl rfl (by exact rfl) (by exact rfl)) (fun _=>?_))
  refine JW.base none ?_;refine jk 11 rfl rfl rfl rfl (Qt.extract rfl rfl) ?_;refine jk 14 rfl rfl rfl rfl (Qt.assign rfl) ?_;refine bE ?_
  rotate_left
  refine JS.bZ rfl rfl rfl (qb rfl) (Ld.alloc (qb rfl)) .none (fun _=>?_);refine dA 8 (C1) ?_;refine jk 9 rfl rfl rfl rfl (Qt.move rfl) ?_;refine JD.lB ?_;refine tk 10 ?_;refine JD.cU (i:=11) (j:=13) (by kernel_rfl) ?_ ?_;refine JS.q rfl rfl rfl (qb rfl) (Qt.extract rfl rfl) ?_;refine jt 13 rfl rfl (Ld.bq rfl rfl rfl (by exact rfl) (by exact rfl)) (fun _=>?_);refine JW.base none ?_;refine jk 14 rfl rfl rfl rfl (Qt.assign rfl) ?_;refine bE ?_
  rotate_left
  (refine JS.last rfl rfl (Ld.bq rfl rfl rfl (by exact rfl) (by exact rfl)) (fun _=>?_))
  refine JW.base none ?_;refine jk 11 rfl rfl rfl rfl (Qt.extract rfl rfl) ?_;refine jk 14 rfl rfl rfl rfl (Qt.assign rfl) ?_;refine bE ?_
  rotate_left
  all_goals
   repeat (refine gn ?_)
   exact aD func154
 | true =>
  rw [ht] at C1;have er:Sx.lock s g p=if (aa s g).k + 1=(aa s g).aB.length then ai (Sx.tryLock s g (ax (aa s g).aB (aa s g).k)).1 g { aa s g with k:=0,place:=p } else ai (Sx.tryLock s g (ax (aa s g).aB (aa s g).k)).1 g { aa s g with k:=(aa s g).k + 1 }:=by unfold Sx.lock;simp only;rw [if_pos ht]
  rw [er];generalize (Sx.tryLock s g (ax (aa s g).aB (aa s g).k)).1=s1 at *;have hk:((aa s g).k + 1 == ((aa s g).aB.length:Int))=decide ((aa s g).k + 1=(aa s g).aB.length):=rfl
  by_cases hl:(aa s g).k + 1=(aa s g).aB.length
  ·rw [if_pos hl];rw [decide_eq_true hl] at hk
   repeat (first | refine ay ?_ | intro _)
   refine J.draw (by kernel_rfl) rfl ?_;refine JW.base (some 13) ?_;refine tk 0 ?_;refine tk 1 ?_;refine tk 2 ?_;refine tk 3 ?_;refine tk 4 ?_;refine tk 5 ?_;refine JD.take 6 rfl rfl (by kernel_rfl) rfl (qb rfl) (Qt.cI rfl rfl k0 I1) rfl ?_;refine tk 7 ?_;refine JD.cU (i:=8) (j:=12) (by kernel_rfl) ?_ ?_;refine JS.bZ rfl rfl rfl (qb rfl) (Ld.pure (C1) (qb rfl) rfl lq) .none (fun _=>?_);refine JD.lB ?_;refine tk 9 ?_;refine tk 10 ?_;refine JD.cU (i:=11) (j:=12) (by kernel_rfl) ?_ ?_;refine JS.q rfl rfl rfl (qb rfl) (Qt.extract rfl rfl) ?_;refine jl 12 rfl rfl rfl rfl (Ld.alloc (qb rfl)) .none (fun _=>?_);refine jt 13 rfl rfl (Ld.bq rfl rfl rfl (by exact rfl) (by exact rfl)) (fun _=>?_);refine JW.base none ?_;refine jk 14 rfl rfl rfl rfl (Qt.assign rfl) ?_;refine bE ?_
   rotate_left
   refine JS.bZ rfl rfl rfl (qb rfl) (Ld.alloc (qb rfl)) .none (fun _=>?_);refine JD.cU (i:=11) (j:=13) (by kernel_rfl) ?_ ?_;refine JS.q rfl rfl rfl (qb rfl) (Qt.extract rfl rfl) ?_;refine jt 13 rfl rfl (Ld.bq rfl rfl rfl (by exact rfl) (by exact rfl)) (fun _=>?_);refine JW.base none ?_;refine jk 14 rfl rfl rfl rfl (Qt.assign rfl) ?_;refine bE ?_
   rotate_left
   (refine JS.last rfl rfl (Ld.bq rfl rfl rfl (by exact rfl) (by exact rfl)) (fun _=>?_))
   refine JW.base none ?_;refine jk 11 rfl rfl rfl rfl (Qt.extract rfl rfl) ?_;refine jk 14 rfl rfl rfl rfl (Qt.assign rfl) ?_;refine bE ?_
   rotate_left
   refine JS.bZ rfl rfl rfl (qb rfl) (Ld.alloc (qb rfl)) .none (fun _=>?_);refine dA 8 (C1) ?_;refine jk 9 rfl rfl rfl rfl (Qt.move rfl) ?_;refine JD.lB ?_;refine tk 10 ?_;refine JD.cU (i:=11) (j:=13) (by kernel_rfl) ?_ ?_;refine JS.q rfl rfl rfl (qb rfl) (Qt.extract rfl rfl) ?_;refine jt 13 rfl rfl (Ld.bq rfl rfl rfl (by exact rfl) (by exact rfl)) (fun _=>?_);refine JW.base none ?_;refine jk 14 rfl rfl rfl rfl (Qt.assign rfl) ?_;refine bE ?_
   rotate_left
   (refine JS.last rfl rfl (Ld.bq rfl rfl rfl (by exact rfl) (by exact rfl)) (fun _=>?_))
   refine JW.base none ?_;refine jk 11 rfl rfl rfl rfl (Qt.extract rfl rfl) ?_;refine jk 14 rfl rfl rfl rfl (Qt.assign rfl) ?_;refine bE ?_
   rotate_left
   all_goals
    repeat (first | refine aX (cV s1 g { aa s g with k:=0,place:=p } g2 b2) ?_ | refine gn ?_)
    exact aD func154
  ·rw [if_neg hl];rw [decide_eq_false hl] at hk
   repeat (first | refine ay ?_ | intro _)
   refine J.draw (by kernel_rfl) rfl ?_;refine JW.base (some 13) ?_;refine tk 0 ?_;refine tk 1 ?_;refine tk 2 ?_;refine tk 3 ?_;refine tk 4 ?_;refine tk 5 ?_;refine JD.take 6 rfl rfl (by kernel_rfl) rfl (qb rfl) (Qt.cI rfl rfl k0 I1) rfl ?_;refine tk 7 ?_;refine JD.cU (i:=8) (j:=12) (by kernel_rfl) ?_ ?_;refine JS.bZ rfl rfl rfl (qb rfl) (Ld.pure (C1) (qb rfl) rfl lq) .none (fun _=>?_);refine JD.lB ?_;refine tk 9 ?_;refine tk 10 ?_;refine JD.cU (i:=11) (j:=12) (by kernel_rfl) ?_ ?_;refine JS.q rfl rfl rfl (qb rfl) (Qt.extract rfl rfl) ?_;refine jl 12 rfl rfl rfl rfl (Ld.alloc (qb rfl)) .none (fun _=>?_);refine jt 13 rfl rfl (Ld.bq rfl rfl rfl (by exact rfl) (by exact rfl)) (fun _=>?_);refine JW.base none ?_;refine jk 14 rfl rfl rfl rfl (Qt.assign rfl) ?_;refine bE ?_
   rotate_left
   refine JS.bZ rfl rfl rfl (qb rfl) (Ld.alloc (qb rfl)) .none (fun _=>?_);refine JD.cU (i:=11) (j:=13) (by kernel_rfl) ?_ ?_;refine JS.q rfl rfl rfl (qb rfl) (Qt.extract rfl rfl) ?_;refine jt 13 rfl rfl (Ld.bq rfl rfl rfl (by exact rfl) (by exact rfl)) (fun _=>?_);refine JW.base none ?_;refine jk 14 rfl rfl rfl rfl (Qt.assign rfl) ?_;refine bE ?_
   rotate_left
   (refine JS.last rfl rfl (Ld.bq rfl rfl rfl (by exact rfl) (by exact rfl)) (fun _=>?_))
   refine JW.base none ?_;refine jk 11 rfl rfl rfl rfl (Qt.extract rfl rfl) ?_;refine jk 14 rfl rfl rfl rfl (Qt.assign rfl) ?_;refine bE ?_
   rotate_left
   refine JS.bZ rfl rfl rfl (qb rfl) (Ld.alloc (qb rfl)) .none (fun _=>?_);refine dA 8 (C1) ?_;refine jk 9 rfl rfl rfl rfl (Qt.move rfl) ?_;refine JD.lB ?_;refine tk 10 ?_;refine JD.cU (i:=11) (j:=13) (by kernel_rfl) ?_ ?_;refine JS.q rfl rfl rfl (qb rfl) (Qt.extract rfl rfl) ?_;refine jt 13 rfl rfl (Ld.bq rfl rfl rfl (by exact rfl) (by exact rfl)) (fun _=>?_);refine JW.base none ?_;refine jk 14 rfl rfl rfl rfl (Qt.assign rfl) ?_;refine bE ?_
   rotate_left
   (refine JS.last rfl rfl (Ld.bq rfl rfl rfl (by exact rfl) (by exact rfl)) (fun _=>?_))
   refine JW.base none ?_;refine jk 11 rfl rfl rfl rfl (Qt.extract rfl rfl) ?_;refine jk 14 rfl rfl rfl rfl (Qt.assign rfl) ?_;refine bE ?_
   rotate_left
   all_goals
    repeat (first | refine aX (cV s1 g { aa s g with k:=(aa s g).k + 1 } g2 b2) ?_ | refine gn ?_)
    exact aD func154
theorem qt (s:ah) (g:Nat) (p:Int) (hg:g < s.gs.length) (hb:s.gs.length≤100000) (k0:0≤(aa s g).k) (k1:(aa s g).k≤100000) :
  Pure prog 204 [.agg (aC s),.c (nI g),.c (nI p)] (.agg (aC (Sx.next s g p))):=by
 have er:Sx.next s g p=if (aa s g).k + 1=(aa s g).order.length then ai s g { aa s g with k:=0,place:=p } else ai s g { aa s g with k:=(aa s g).k + 1 }:=rfl
 rw [er];have hk:((aa s g).k + 1 == ((aa s g).order.length:Int))=decide ((aa s g).k + 1=(aa s g).order.length):=rfl;refine an.intro func204 rfl rfl rfl (fun ok e=>?_)
 by_cases hl:(aa s g).k + 1=(aa s g).order.length
 ·rw [if_pos hl];rw [decide_eq_true hl] at hk
  repeat (first | refine aX (cV s g { aa s g with k:=0,place:=p } hg hb) ?_ | refine ay ?_ | intro _)
  exact aD func204
 ·rw [if_neg hl];rw [decide_eq_false hl] at hk
  repeat (first | refine aX (cV s g { aa s g with k:=(aa s g).k + 1 } hg hb) ?_ | refine ay ?_ | intro _)
  exact aD func204
theorem Fs (s:ah) (g:Nat) (hg:g < s.gs.length) (hb:s.gs.length≤100000) (k0:(aa s g).place=27→0≤(aa s g).k∧(aa s g).k < (aa s g).order.length) :
  Pure prog 156 [.agg (aC s),.c (nI g)] (.agg (aC (Sx.dG s g))):=by
 refine an.intro func156 rfl rfl rfl (fun ok e=>?_)
 cases hp:((aa s g).place == 27) with
 | true =>
  have e0:(aa s g).place=27:=by simpa using hp
  have er:Sx.dG s g=ai s g { aa s g with dm:=ax (aa s g).order (aa s g).k }:=by unfold Sx.dG;simp only;rw [if_pos e0]
  rw [er];have q0:=(k0 e0).1
  repeat (first | (refine K.indexAddr ?_;refine jx rfl rfl rfl rfl (by omega) (ov (k0 e0).1 (k0 e0).2) ?_) | refine aX (cV s g { aa s g with dm:=ax (aa s g).order (aa s g).k } hg hb) ?_ | refine ay ?_ | intro _)
  exact aD func156
 | false =>
  have e0:¬ (aa s g).place=27:=by simpa using hp
  have er:Sx.dG s g=ai s g (aa s g):=by unfold Sx.dG;simp only;rw [if_neg e0]
  rw [er]
  repeat (first | refine aX (cV s g (aa s g) hg hb) ?_ | refine ay ?_ | intro _)
  exact aD func156
end Fl
open Go.RowKit
namespace Fl
open Sx Go.Proofs.Tryz
set_option maxRecDepth 100000
theorem qu {α:Type} (f:Gr→α) {s:ah} {o g:Nat} {x:Gr} (e:f x=f (aa s o)):f (aa (ai s o x) g)=f (aa s g):=by
 by_cases h:o=g
 ·subst h;rcases BO s o x o with e1 | e1
  ·rw [e1,e]
  ·rw [e1]
 ·have:aa (ai s o x) g=aa s g:=by
   unfold aa ai;simp only [List.getD_eq_getElem?_getD,List.getElem?_set];rw [if_neg h]
  rw [this]
theorem Ft {α:Type} (f:Gr→α) {s:ah} {o g:Nat} {p:Int} (e:∀ x:Gr,f { x with place:=p }=f x):f (aa (Sx.aS s o p) g)=f (aa s g):=by
 unfold Sx.aS;exact qu f (e _)
theorem KI {α:Type} (f:Gr→α) {s:ah} {o g:Nat} {i:Int} (e:∀ (x:Gr) (a b c:Int),f { x with bT:=a,wi:=b,dm:=c }=f x):f (aa (Sx.pair s o i) g)=f (aa s g):=by
 unfold Sx.pair;simp only
 by_cases h:o=(su s i).g.toNat
 ·subst h;rcases BO (ai s (su s i).g.toNat { aa s (su s i).g.toNat with bT:=(aa s (su s i).g.toNat).t,wi:=((su s i).g.toNat:Int),dm:=(su s i).cs }) (su s i).g.toNat { aa s (su s i).g.toNat with bT:=(aa s (su s i).g.toNat).t,wi:=(su s i).g } g with e1 | e1
  ·by_cases h2:(su s i).g.toNat=g
   ·rw [e1,← h2];exact e (aa s (su s i).g.toNat) (aa s (su s i).g.toNat).t (su s i).g (aa s (su s i).g.toNat).dm
   ·have:∀ (s:ah) (o:Nat) (x:Gr),o≠g→aa (ai s o x) g=aa s g:=fun s o x h=>by
     unfold aa ai;simp only [List.getD_eq_getElem?_getD,List.getElem?_set];rw [if_neg h]
    rw [this _ _ _ h2,this _ _ _ h2]
  ·rw [e1];exact qu f (e (aa s (su s i).g.toNat) _ _ _)
 ·have h3:∀ (s:ah) (o:Nat) (x:Gr) (g:Nat),o≠g→aa (ai s o x) g=aa s g:=fun s o x g h=>by
   unfold aa ai;simp only [List.getD_eq_getElem?_getD,List.getElem?_set];rw [if_neg h]
  rw [qu f (x:={ aa s o with bT:=(aa s o).t,wi:=(su s i).g })]
  ·exact qu f (e (aa s (su s i).g.toNat) _ _ _)
  ·rw [h3 _ _ _ _ (Ne.symm h)];exact e (aa s o) _ _ (aa s o).dm
theorem Fu {α:Type} (f:Gr→α) {s:ah} {g:Nat} {i wi ha:Int} (e:∀ (x:Gr) (a b c:Int),f { x with bT:=a,wi:=b,dm:=c }=f x) (e2:∀ (x:Gr) (p:Int),f { x with place:=p }=f x) (e3:∀ (x:Gr) (a b:Int),f { x with hold:=a,t:=b }=f x) (h:Nat):f (aa (taken s g i wi ha) h)=f (aa s h):=by
 unfold taken
 split
 ·rw [Ft f (fun x=>e2 x _)];exact qu f (e3 (aa s g) i (aa s g).t)
 ·rw [Ft f (fun x=>e2 x _),KI f e,sY (fR _ _)];exact qu f (e3 (aa s g) i s.step)
theorem zu (s:ah) (g:Nat) (i wi ha:Int):(taken s g i wi ha).gs.length=s.gs.length:=by
 unfold taken
 split
 ·simp [Sx.aS,ai]
 ·rw [wK,wL,fR,cD]
structure zw (s:ah) (g:Nat) (k:Pn.Cs):Prop where
 lt:g < s.gs.length
 fit:Fit s
 k0:0≤(aa s g).k
 k1:(aa s g).k < (aa s g).order.length
 md:aT s k.ch=true
 hr:∀ a l,(cn s k.ch).recv=a :: l→dK s a
 hs:∀ a l,(cn s k.ch).send=a :: l→dK s a
theorem zw.dG {s:ah} {g:Nat} {k:Pn.Cs} (h:zw s g k) (i wi ha:Int):0≤(aa (taken s g i wi ha) g).k∧(aa (taken s g i wi ha) g).k < (aa (taken s g i wi ha) g).order.length:=by
 rw [Fu (f:=Gr.k) (fun _ _ _ _=>rfl) (fun _ _=>rfl) (fun _ _ _=>rfl),Fu (f:=Gr.order) (fun _ _ _ _=>rfl) (fun _ _=>rfl) (fun _ _ _=>rfl)];exact ⟨h.k0,h.k1⟩
theorem TF (s:ah) (g:Nat) (i:Int) (k:Pn.Cs) (h:zw s g k) :
  Pure prog 203 [.agg (aC s),.c (nI g),.c (nI i),.agg (mc k)] (.bp [.agg (aC (fX s g i k).1),.c (bI (fX s g i k).2)]):=by
 have hg:=h.lt;have hb:=h.fit.1.1;have dL:=h.fit.1.2.1;have hm:=h.md;have hl:=fD hm;refine an.intro func203 rfl rfl rfl (fun ok e=>?_)
 cases cF:(cn s k.ch).closed with
 | true =>
  have er:fX s g i k=(Sx.cZ s g ⟨3,0,0,false,0⟩ i,true):=by unfold fX;simp only;rw [if_pos cF]
  rw [er]
  repeat (first | refine J.gK (congrArg (fun b=>some (D.c (bI b))) cF) ?_ | refine aX (zq s g ⟨3,0,0,false,0⟩ i hg hb) ?_ | refine ay ?_ | intro _)
  exact aD func203
 | false =>
  have cQ:¬ (cn s k.ch).closed=true:=by rw [cF];simp
  cases hr:(cn s k.ch).recv with
  | cons a l =>
   have er:fX s g i k=(Sx.dG (taken s g a 26 27) g,true):=by unfold fX;simp only;rw [if_neg cQ,if_pos (by rw [hr];simp),hr];rfl
   rw [er];have hz:(decide (((cn s k.ch).recv.length:Int) > 0))=true:=by rw [hr];simp
   have w0:((cn s k.ch).recv.map fun n=>[nI n])[(0:Int).toNat]?=some [nI a]:=by rw [hr];rfl
   have C1:=BM s g a 26 27 hg (h.hr a l hr) h.fit;have C2:=Fs (taken s g a 26 27) g (by rw [zu];exact hg) (by rw [zu];exact hb) (fun _=>h.dG a 26 27)
   repeat (first | refine J.fT (congrArg (fun b=>some (D.c (bI b))) cF) ?_ | refine ay ?_ | intro _)
   refine J.draw (by kernel_rfl) rfl ?_;refine JW.base (some 9) ?_;refine tk 0 ?_;refine tk 1 ?_;refine tk 2 ?_;refine tk 3 ?_;refine JD.take 4 rfl rfl (by kernel_rfl) rfl (qb rfl) (Qt.cI rfl rfl (by omega) w0) rfl ?_;refine tk 5 ?_;refine tk 7 ?_;refine dA 6 (C1) ?_;refine dA 8 (C2) ?_;refine jt 9 rfl rfl (Ld.bq rfl rfl rfl (by exact rfl) (by exact rfl)) (fun _=>?_);refine JW.base none ?_;refine jk 10 rfl rfl rfl rfl (Qt.assign rfl) ?_;refine bE ?_
   all_goals
    exact aD func203
  | nil =>
   have hz:(decide (((cn s k.ch).recv.length:Int) > 0))=false:=by rw [hr];rfl
   have ak:fX s g i k=if (fo (cn s k.ch).buf (cn s k.ch).cap k.v).2=true then (Sx.cZ (aE s k.ch { cn s k.ch with buf:=(fo (cn s k.ch).buf (cn s k.ch).cap k.v).1 }) g ⟨1,0,0,true,0⟩ i,true) else (s,false):=by unfold fX;simp only;rw [if_neg cQ,if_neg (by rw [hr];simp)]
   have CP:=Kq (cn s k.ch).buf (cn s k.ch).cap k.v (h.fit.bf _)
   cases hp:(fo (cn s k.ch).buf (cn s k.ch).cap k.v).2 with
   | true =>
    rw [if_pos hp] at ak;rw [hp] at CP;rw [ak]
    repeat (first | refine J.fT (congrArg (fun b=>some (D.c (bI b))) cF) ?_ | refine aX (m9 s k.ch { cn s k.ch with buf:=(fo (cn s k.ch).buf (cn s k.ch).cap k.v).1 } hm dL) ?_ | refine aX (zq (aE s k.ch { cn s k.ch with buf:=(fo (cn s k.ch).buf (cn s k.ch).cap k.v).1 }) g ⟨1,0,0,true,0⟩ i hg hb) ?_ | refine ay ?_ | intro _)
    exact aD func203
   | false =>
    rw [if_neg (by rw [hp];simp)] at ak;rw [hp] at CP;rw [ak]
    repeat (first | refine J.fT (congrArg (fun b=>some (D.c (bI b))) cF) ?_ | refine ay ?_ | intro _)
    exact aD func203
theorem TG (s:ah) (g:Nat) (i:Int) (k:Pn.Cs) (h:zw s g k) :
  Pure prog 202 [.agg (aC s),.c (nI g),.c (nI i),.agg (mc k)] (.bp [.agg (aC (gE s g i k).1),.c (bI (gE s g i k).2)]):=by
 have hg:=h.lt;have hb:=h.fit.1.1;have dL:=h.fit.1.2.1;have hm:=h.md;have hl:=fD hm;refine an.intro func202 rfl rfl rfl (fun ok e=>?_)
 cases hr:(cn s k.ch).send with
 | cons a l =>
  have er:gE s g i k=(Sx.dG (taken s g a 26 27) g,true):=by unfold gE;simp only;rw [if_pos (by rw [hr];simp),hr];rfl
  rw [er];have hz:(decide (((cn s k.ch).send.length:Int) > 0))=true:=by rw [hr];simp
  have w0:((cn s k.ch).send.map fun n=>[nI n])[(0:Int).toNat]?=some [nI a]:=by rw [hr];rfl
  have C1:=BM s g a 26 27 hg (h.hs a l hr) h.fit;have C2:=Fs (taken s g a 26 27) g (by rw [zu];exact hg) (by rw [zu];exact hb) (fun _=>h.dG a 26 27)
  repeat (first | refine ay ?_ | intro _)
  refine J.draw (by kernel_rfl) rfl ?_;refine JW.base (some 9) ?_;refine tk 0 ?_;refine tk 1 ?_;refine tk 2 ?_;refine tk 3 ?_;refine JD.take 4 rfl rfl (by kernel_rfl) rfl (qb rfl) (Qt.cI rfl rfl (by omega) w0) rfl ?_;refine tk 5 ?_;refine tk 7 ?_;refine dA 6 (C1) ?_;refine dA 8 (C2) ?_;refine jt 9 rfl rfl (Ld.bq rfl rfl rfl (by exact rfl) (by exact rfl)) (fun _=>?_);refine JW.base none ?_;refine jk 10 rfl rfl rfl rfl (Qt.assign rfl) ?_;refine bE ?_
  all_goals
   exact aD func202
 | nil =>
  have hz:(decide (((cn s k.ch).send.length:Int) > 0))=false:=by rw [hr];rfl
  have ak:gE s g i k=if (dF (cn s k.ch).buf).2.2=true then (Sx.cZ (aE s k.ch { cn s k.ch with buf:=(dF (cn s k.ch).buf).1 }) g (eB (dF (cn s k.ch).buf).2.1 true) i,true) else if (cn s k.ch).closed=true then (Sx.cZ s g (eB 0 false) i,true) else (s,false):=by unfold gE;simp only;rw [if_neg (by rw [hr];simp)]
  have CG:=Ks (cn s k.ch).buf (h.fit.bf _)
  cases hp:(dF (cn s k.ch).buf).2.2 with
  | true =>
   rw [if_pos hp] at ak;rw [hp] at CG;rw [ak]
   repeat (first | refine aX (m9 s k.ch { cn s k.ch with buf:=(dF (cn s k.ch).buf).1 } hm dL) ?_ | refine aX (kU (dF (cn s k.ch).buf).2.1 true) ?_ | refine aX (zq (aE s k.ch { cn s k.ch with buf:=(dF (cn s k.ch).buf).1 }) g (eB (dF (cn s k.ch).buf).2.1 true) i hg hb) ?_ | refine ay ?_ | intro _)
   exact aD func202
  | false =>
   rw [if_neg (by rw [hp];simp)] at ak;rw [hp] at CG
   cases cF:(cn s k.ch).closed with
   | true =>
    rw [if_pos cF] at ak;rw [ak]
    repeat (first | refine J.gK (congrArg (fun b=>some (D.c (bI b))) cF) ?_ | refine ay ?_ | intro _)
    refine J.draw (by kernel_rfl) rfl ?_;refine JW.base (some 5) ?_;refine tk 0 ?_;refine tk 1 ?_;refine tk 3 ?_;refine dA 2 (kU 0 false) ?_;refine dA 4 (zq s g (eB 0 false) i hg hb) ?_;refine jt 5 rfl rfl (Ld.bq rfl rfl rfl (by exact rfl) (by exact rfl)) (fun _=>?_);refine JW.base none ?_;refine jk 6 rfl rfl rfl rfl (Qt.assign rfl) ?_;refine bE ?_
    all_goals
     exact aD func202
   | false =>
    rw [if_neg (by rw [cF];simp)] at ak;rw [ak]
    repeat (first | refine J.fT (congrArg (fun b=>some (D.c (bI b))) cF) ?_ | refine ay ?_ | intro _)
    exact aD func202
end Fl
open Go.RowKit
namespace Fl
open Sx Go.Proofs.Tryz
set_option maxRecDepth 100000
theorem zy {o:Pn.Op} {i:Int} (h0:0≤i) (h:i < o.cases.length):(o.cases.map mc)[i.toNat]?=some (mc (aH o i)):=by
 have:i.toNat < o.cases.length:=by omega
 exact at_map (by unfold aH;rw [List.getD_eq_getElem?_getD,List.getElem?_eq_getElem this];rfl)
structure zz (s:ah) (g:Nat) (o:Pn.Op):Prop where
 i0:0≤ax (aa s g).order (aa s g).k
 i1:ax (aa s g).order (aa s g).k < o.cases.length
 ca:zw s g (aH o (ax (aa s g).order (aa s g).k))
 cl:o.cases.length≤50000
theorem TH (s:ah) (g:Nat) (o:Pn.Op) (h:zz s g o) :
  Pure prog 155 [.agg (aC s),.c (nI g),.agg (dH o)] (.agg (aC (fq s g o))):=by
 have hg:=h.ca.lt;have hb:=h.ca.fit.1.1;have k0:=h.ca.k0;have k1:=h.ca.k1;have ob:=h.ca.fit.od g;have I1:=ov k0 k1;have i0:=h.i0;have i1:=h.i1;have cl:=h.cl;have J1:=zy i0 i1;have C1:=TG s g (ax (aa s g).order (aa s g).k) _ h.ca;have C2:=TF s g (ax (aa s g).order (aa s g).k) _ h.ca;have ak:fq s g o=fq s g o:=rfl
 conv at ak=>rhs;unfold fq;simp only
 refine an.intro func155 rfl rfl rfl (fun ok e=>?_)
 repeat (first | refine ay ?_ | intro _)
 refine J.draw (by kernel_rfl) rfl ?_;refine JW.base none ?_;refine tk 0 ?_;refine tk 1 ?_;refine tk 2 ?_;refine JD.take 3 rfl rfl (by kernel_rfl) rfl (qb rfl) (Qt.cI rfl rfl (by omega) (iB hg)) rfl ?_;refine tk 4 ?_;refine tk 5 ?_;refine tk 6 ?_;refine tk 7 ?_;refine tk 8 ?_;refine JD.take 9 rfl rfl (by kernel_rfl) rfl (qb rfl) (Qt.cI rfl rfl (by omega) (iB hg)) rfl ?_;refine tk 10 ?_;refine tk 11 ?_;refine JD.take 12 rfl rfl (by kernel_rfl) rfl (qb rfl) (Qt.cI rfl rfl k0 I1) rfl ?_;refine tk 13 ?_;refine tk 14 ?_;refine bE ?_;generalize ax (aa s g).order (aa s g).k=i at *;generalize cP:aH o i=kk at *;have key:∃ R:ah × Bool,R=(if kk.send=true then fX s g i kk else gE s g i kk)∧((kk.send=true∧R=fX s g i kk)∨(kk.send=false∧R=gE s g i kk)):=by
  cases hs:kk.send with
  | true=>exact ⟨_,rfl,.inl ⟨rfl,by simp⟩⟩
  | false=>exact ⟨_,rfl,.inr ⟨rfl,by simp⟩⟩
 obtain ⟨R,hR,hW⟩:=key;rw [← hR] at ak;clear hR
 by_cases hr:R.2=true
 case pos =>
  rw [if_pos hr] at ak;rw [ak];rcases hW with ⟨hs,rfl⟩ | ⟨hs,rfl⟩
  ·rw [hr] at C2
   repeat (first | refine J.gK (congrArg (fun b=>some (D.c (bI b))) hs) ?_ | (refine K.store ?_;refine JO.ld (Ld.bq rfl rfl rfl (by exact rfl) (by exact rfl)) rfl (fun _=>?_)) | refine ay ?_ | intro _)
   exact aD func155
  ·rw [hr] at C1
   repeat (first | refine J.fT (congrArg (fun b=>some (D.c (bI b))) hs) ?_ | (refine K.store ?_;refine JO.ld (Ld.bq rfl rfl rfl (by exact rfl) (by exact rfl)) rfl (fun _=>?_)) | refine ay ?_ | intro _)
   exact aD func155
 case neg =>
 have ki:R.2=false:=by simpa using hr
 rw [if_neg hr] at ak
 by_cases hk:(aa s g).k + 1 < (aa s g).order.length
 case pos =>
  rw [if_pos hk] at ak;rw [ak];have bF:(decide ((aa s g).k + 1 < ((aa s g).order.length:Int)))=true:=decide_eq_true hk;have C3:=qt s g 25 hg hb k0 (by omega);rcases hW with ⟨hs,rfl⟩ | ⟨hs,rfl⟩
  ·rw [ki] at C2
   repeat (first | refine J.gK (congrArg (fun b=>some (D.c (bI b))) hs) ?_ | (refine K.store ?_;refine JO.ld (Ld.bq rfl rfl rfl (by exact rfl) (by exact rfl)) rfl (fun _=>?_)) | refine ay ?_ | intro _)
   exact aD func155
  ·rw [ki] at C1
   repeat (first | refine J.fT (congrArg (fun b=>some (D.c (bI b))) hs) ?_ | (refine K.store ?_;refine JO.ld (Ld.bq rfl rfl rfl (by exact rfl) (by exact rfl)) rfl (fun _=>?_)) | refine ay ?_ | intro _)
   exact aD func155
 case neg =>
 rw [if_neg hk] at ak;have bF:(decide ((aa s g).k + 1 < ((aa s g).order.length:Int)))=false:=decide_eq_false hk
 cases mI:o.de with
 | true =>
  rw [if_pos mI] at ak;rw [ak];have C3:=zq s g ⟨2,0,0,false,0⟩ (-1) hg hb;rcases hW with ⟨hs,rfl⟩ | ⟨hs,rfl⟩
  ·rw [ki] at C2
   repeat (first | refine J.gK (congrArg (fun b=>some (D.c (bI b))) hs) ?_ | refine J.gK (congrArg (fun b=>some (D.c (bI b))) mI) ?_ | (refine K.store ?_;refine JO.ld (Ld.bq rfl rfl rfl (by exact rfl) (by exact rfl)) rfl (fun _=>?_)) | refine ay ?_ | intro _)
   exact aD func155
  ·rw [ki] at C1
   repeat (first | refine J.fT (congrArg (fun b=>some (D.c (bI b))) hs) ?_ | refine J.gK (congrArg (fun b=>some (D.c (bI b))) mI) ?_ | (refine K.store ?_;refine JO.ld (Ld.bq rfl rfl rfl (by exact rfl) (by exact rfl)) rfl (fun _=>?_)) | refine ay ?_ | intro _)
   exact aD func155
 | false =>
  rw [if_neg (by rw [mI];simp)] at ak;rw [ak];have C3:=cV s g { aa s g with aq:=List.replicate o.cases.length (-1) } hg hb;have kx:(aa (ai s g { aa s g with aq:=List.replicate o.cases.length (-1) }) g).k=(aa s g).k:=qu Gr.k rfl;have C4:=qt (ai s g { aa s g with aq:=List.replicate o.cases.length (-1) }) g 28 (by rw [cD];exact hg) (by rw [cD];exact hb) (by rw [kx];exact k0) (by rw [kx];omega);rcases hW with ⟨hs,rfl⟩ | ⟨hs,rfl⟩
  case' inl =>
   rw [ki] at C2
   repeat (first | refine J.gK (congrArg (fun b=>some (D.c (bI b))) hs) ?_ | refine J.fT (congrArg (fun b=>some (D.c (bI b))) mI) ?_ | (refine K.store ?_;first | refine JO.ld (Ld.bq rfl rfl rfl (by exact rfl) (by exact rfl)) rfl (fun _=>?_) | refine JO.ld (Ld.cY rfl rfl (by exact rfl)) rfl (fun _=>?_)) | refine ay ?_ | intro _)
   rename_i b6 b5 b4 b3 u3 b2 u2 Yh b1 u1 b0 u0
  case' inr =>
   rw [ki] at C1
   repeat (first | refine J.fT (congrArg (fun b=>some (D.c (bI b))) hs) ?_ | refine J.fT (congrArg (fun b=>some (D.c (bI b))) mI) ?_ | (refine K.store ?_;first | refine JO.ld (Ld.bq rfl rfl rfl (by exact rfl) (by exact rfl)) rfl (fun _=>?_) | refine JO.ld (Ld.cY rfl rfl (by exact rfl)) rfl (fun _=>?_)) | refine ay ?_ | intro _)
   rename_i b6 b5 b4 b3 u3 b2 u2 b1 u1 b0 u0
  all_goals
   refine J.cS 5 ?_;refine J.cS 3 ?_;refine J.cS 2 ?_;refine J.loop (ι:={ p:Nat × Value // p.1≤o.cases.length }) (fun p=>[(77,.c (nI p.1.1)),(76,.c (nI o.cases.length)),(11,.c (.v (.pointer (some ⟨b1,0,none⟩)))),(3,.c (.v (.pointer (some ⟨b6,0,none⟩)))),(6,.c (.v (.pointer (some ⟨b4,0,none⟩)))),(1,.c (nI g))]) (fun p=>[.row p.1.2 3 1 ((List.replicate p.1.1 (-1:Int)).map fun n=>[nI n]),.box b1 47 ((eG (aa s g)).set 22 (.v p.1.2)),.box b4 36 ri,.box b6 36 (aC s)]) (fun p=>o.cases.length - p.1.1) ⟨(0,.slice (some ⟨b0,0,none⟩) 0 0),Nat.zero_le _⟩ (fun X h=>h.aW ⟨rfl,rfl,rfl,rfl,rfl,rfl,trivial⟩) (fun p ih=>?_);obtain ⟨⟨k,v⟩,kJ⟩:=p;simp only at kJ ih ⊢
   by_cases KJ:k < o.cases.length
   ·have h1:(decide ((k:Int) < (o.cases.length:Int)))=true:=by simpa using KJ
    repeat (first | (refine K.store ?_;refine JO.ld (Ld.cY rfl rfl (by exact rfl)) rfl (fun _=>?_)) | (refine K.bi ?_;refine JO.ld (Ld.cy (qb rfl) rfl rfl .dj (by (simp;omega))) rfl (fun _=>?_)) | refine ay ?_ | intro _)
    rename_i b9 v2 u9;refine J.cS 1 ?_;refine J.dN ?_ ((ih ⟨(k + 1,v2),by simp only;omega⟩ (by simp only;omega)).aW ⟨rfl,rfl,rfl,rfl,rfl,rfl,trivial⟩);simp only [List.replicate_succ',List.map_append,List.map_cons,List.map_nil];rfl
   ·have h1:(decide ((k:Int) < (o.cases.length:Int)))=false:=by simpa using KJ
    obtain rfl:k=o.cases.length:=by omega
    refine J.mT 0 1 22 rfl rfl rfl ?_
    repeat (first | (refine K.store ?_;refine JO.ld (Ld.bq rfl rfl rfl (by exact rfl) (by exact rfl)) rfl (fun _=>?_)) | refine gn ?_)
    exact aD func155
end Fl
end Go.Proofs.YtdjhhbpedllnhaaGreat
