/-
  What the laws need, part D32.
  Conditions: none.
-/
import Derived.Test.YtofnbflkhgammaaGreatD30
set_option linter.unusedVariables false
set_option linter.unusedSimpArgs false
set_option linter.unnecessarySimpa false
set_option maxHeartbeats 2000000
namespace Go.Proofs.YtofnbflkhgammaaGreat
open Go.RowKit
namespace Fl
open Sx Go.Proofs.Tryz
set_option maxRecDepth 100000
theorem oO {l:List Int} {k:Int} (h0:0≤k) (h:k < l.length):(l.map fun n=>[nI n])[k.toNat]?=some [nI (aD l k)]:=by
 have:k.toNat < l.length:=by omega
 refine at_map ?_;unfold aD;rw [List.getElem?_eq_getElem this,List.getD_eq_getElem?_getD,List.getElem?_eq_getElem this];rfl
theorem vL (s:ah) (g:Nat) (p:Int) (hg:g < s.gs.length) (hb:s.gs.length≤100000) :
  Pure prog 225 [.agg (az s),.c (nI g),.c (nI p)] (.agg (az (unlock s g p))):=by
 refine ax.intro func225 rfl rfl rfl (fun ok e=>?_)
 repeat (first | refine aO (cP s g { aa s g with k:=(aa s g).aF.length,place:=p } hg hb) ?_ | refine av ?_ | intro _)
 exact aA func225
theorem N9 (s:ah) (g:Nat) (r:Md.ak) (p:Int):(bH s g r p).gs.length=s.gs.length:=by simp [bH,ai]
theorem AB (s:ah) (g:Nat) (r:Md.ak) (i:Int) (hg:g < s.gs.length) (hb:s.gs.length≤100000) :
  Pure prog 223 [.agg (az s),.c (nI g),.agg (wD r),.c (nI i)] (.agg (az (fq s g r i))):=by
 have C1:=Ao r i;have C2:=jv s g { r with cs:=i } 30 hg hb;have g1:g < (bH s g { r with cs:=i } 30).gs.length:=by rw [N9];exact hg
 have b1:(bH s g { r with cs:=i } 30).gs.length≤100000:=by rw [N9];exact hb
 have er:fq s g r i=unlock (ai (bH s g { r with cs:=i } 30) g { aa (bH s g { r with cs:=i } 30) g with dL:=i }) g 30:=rfl;rw [er];clear er;generalize bH s g { r with cs:=i } 30=s1 at *;have C3:=cP s1 g { aa s1 g with dL:=i } g1 b1;have C4:=vL (ai s1 g { aa s1 g with dL:=i }) g 30 (by rw [cr];exact g1) (by rw [cr];exact b1);refine ax.intro func223 rfl rfl rfl (fun ok e=>?_)
 repeat (first | refine av ?_ | intro _)
 refine J.draw (by kernel_rfl) rfl ?_;refine JW.base (some 6) ?_;refine tk 0 ?_;refine tk 1 ?_;refine tk 2 ?_;refine tk 3 ?_;refine cW 4 (C1) ?_;refine cW 5 (C2) ?_;refine jt 6 rfl rfl (Ld.aX rfl rfl rfl (by exact rfl) (by exact rfl)) (fun _=>?_);refine bS ?_
 repeat (first | refine av ?_ | intro _)
 exact aA func223
theorem Oa (s:ah) (g:Nat) (p:Int) (hg:g < s.gs.length) (hb:Few s) (k0:0≤(aa s g).k) (k1:(aa s g).k < (aa s g).aF.length) (kb:(aa s g).aF.length≤100000) (hm:aN s (aD (aa s g).aF (aa s g).k)=true) :
  Pure prog 201 [.agg (az s),.c (nI g),.c (nI p)] (.agg (az (lock s g p))):=by
 have I1:=oO k0 k1;have C1:=LN s g (aD (aa s g).aF (aa s g).k) hm hb.2.1;have g2:g < (Sx.tryLock s g (aD (aa s g).aF (aa s g).k)).1.gs.length:=by rw [CZ];exact hg
 have b2:(Sx.tryLock s g (aD (aa s g).aF (aa s g).k)).1.gs.length≤100000:=by rw [CZ];exact hb.1
 refine ax.intro func201 rfl rfl rfl (fun ok e=>?_)
 cases ht:(Sx.tryLock s g (aD (aa s g).aF (aa s g).k)).2 with
 | false =>
  rw [ht] at C1;have er:lock s g p=s:=by unfold lock;simp only;rw [if_neg (by rw [ht];simp)]
  rw [er]
  repeat (first | refine av ?_ | intro _)
  refine J.draw (by kernel_rfl) rfl ?_;refine JW.base (some 13) ?_;refine tk 0 ?_;refine tk 1 ?_;refine tk 2 ?_;refine tk 3 ?_;refine tk 4 ?_;refine tk 5 ?_;refine JD.take 6 rfl rfl (by kernel_rfl) rfl (qb rfl) (Qt.bw rfl rfl k0 I1) rfl ?_;refine tk 7 ?_;refine JD.cU (i:=8) (j:=12) (by kernel_rfl) ?_ ?_;refine JS.cz rfl rfl rfl (qb rfl) (Ld.pure (C1) (qb rfl) rfl lq) .none (fun _=>?_);refine JD.lV ?_;refine tk 9 ?_;refine tk 10 ?_;refine JD.cU (i:=11) (j:=12) (by kernel_rfl) ?_ ?_;refine JS.q rfl rfl rfl (qb rfl) (Qt.extract rfl rfl) ?_;refine jl 12 rfl rfl rfl rfl (Ld.alloc (qb rfl)) .none (fun _=>?_);refine jt 13 rfl rfl (Ld.aX rfl rfl rfl (by exact rfl) (by exact rfl)) (fun _=>?_);refine JW.base none ?_;refine jk 14 rfl rfl rfl rfl (Qt.assign rfl) ?_;refine bt ?_
  rotate_left
  refine JS.cz rfl rfl rfl (qb rfl) (Ld.alloc (qb rfl)) .none (fun _=>?_);refine JD.cU (i:=11) (j:=13) (by kernel_rfl) ?_ ?_;refine JS.q rfl rfl rfl (qb rfl) (Qt.extract rfl rfl) ?_;refine jt 13 rfl rfl (Ld.aX rfl rfl rfl (by exact rfl) (by exact rfl)) (fun _=>?_);refine JW.base none ?_;refine jk 14 rfl rfl rfl rfl (Qt.assign rfl) ?_;refine bt ?_
  rotate_left
  (refine JS.last rfl rfl (Ld.aX rfl rfl rfl (by exact rfl) (by exact rfl)) (fun _=>?_))
  refine JW.base none ?_;refine jk 11 rfl rfl rfl rfl (Qt.extract rfl rfl) ?_;refine jk 14 rfl rfl rfl rfl (Qt.assign rfl) ?_;refine bt ?_
  rotate_left
  refine JS.cz rfl rfl rfl (qb rfl) (Ld.alloc (qb rfl)) .none (fun _=>?_);refine cW 8 (C1) ?_;refine jk 9 rfl rfl rfl rfl (Qt.move rfl) ?_;refine JD.lV ?_;refine tk 10 ?_;refine JD.cU (i:=11) (j:=13) (by kernel_rfl) ?_ ?_;refine JS.q rfl rfl rfl (qb rfl) (Qt.extract rfl rfl) ?_;refine jt 13 rfl rfl (Ld.aX rfl rfl rfl (by exact rfl) (by exact rfl)) (fun _=>?_);refine JW.base none ?_;refine jk 14 rfl rfl rfl rfl (Qt.assign rfl) ?_;refine bt ?_
  rotate_left
  (refine JS.last rfl rfl (Ld.aX rfl rfl rfl (by exact rfl) (by exact rfl)) (fun _=>?_))
  refine JW.base none ?_;refine jk 11 rfl rfl rfl rfl (Qt.extract rfl rfl) ?_;refine jk 14 rfl rfl rfl rfl (Qt.assign rfl) ?_;refine bt ?_
  rotate_left
  all_goals
   repeat (refine gn ?_)
   exact aA func201
 | true =>
  rw [ht] at C1;have er:lock s g p=if (aa s g).k + 1=(aa s g).aF.length then ai (Sx.tryLock s g (aD (aa s g).aF (aa s g).k)).1 g { aa s g with k:=0,place:=p } else ai (Sx.tryLock s g (aD (aa s g).aF (aa s g).k)).1 g { aa s g with k:=(aa s g).k + 1 }:=by unfold lock;simp only;rw [if_pos ht]
  rw [er];generalize (Sx.tryLock s g (aD (aa s g).aF (aa s g).k)).1=s1 at *;have hk:((aa s g).k + 1 == ((aa s g).aF.length:Int))=decide ((aa s g).k + 1=(aa s g).aF.length):=rfl
  by_cases hl:(aa s g).k + 1=(aa s g).aF.length
  ·rw [if_pos hl];rw [decide_eq_true hl] at hk
   repeat (first | refine av ?_ | intro _)
   refine J.draw (by kernel_rfl) rfl ?_;refine JW.base (some 13) ?_;refine tk 0 ?_;refine tk 1 ?_;refine tk 2 ?_;refine tk 3 ?_;refine tk 4 ?_;refine tk 5 ?_;refine JD.take 6 rfl rfl (by kernel_rfl) rfl (qb rfl) (Qt.bw rfl rfl k0 I1) rfl ?_;refine tk 7 ?_;refine JD.cU (i:=8) (j:=12) (by kernel_rfl) ?_ ?_;refine JS.cz rfl rfl rfl (qb rfl) (Ld.pure (C1) (qb rfl) rfl lq) .none (fun _=>?_);refine JD.lV ?_;refine tk 9 ?_;refine tk 10 ?_;refine JD.cU (i:=11) (j:=12) (by kernel_rfl) ?_ ?_;refine JS.q rfl rfl rfl (qb rfl) (Qt.extract rfl rfl) ?_;refine jl 12 rfl rfl rfl rfl (Ld.alloc (qb rfl)) .none (fun _=>?_);refine jt 13 rfl rfl (Ld.aX rfl rfl rfl (by exact rfl) (by exact rfl)) (fun _=>?_);refine JW.base none ?_;refine jk 14 rfl rfl rfl rfl (Qt.assign rfl) ?_;refine bt ?_
   rotate_left
   refine JS.cz rfl rfl rfl (qb rfl) (Ld.alloc (qb rfl)) .none (fun _=>?_);refine JD.cU (i:=11) (j:=13) (by kernel_rfl) ?_ ?_;refine JS.q rfl rfl rfl (qb rfl) (Qt.extract rfl rfl) ?_;refine jt 13 rfl rfl (Ld.aX rfl rfl rfl (by exact rfl) (by exact rfl)) (fun _=>?_);refine JW.base none ?_;refine jk 14 rfl rfl rfl rfl (Qt.assign rfl) ?_;refine bt ?_
   rotate_left
   (refine JS.last rfl rfl (Ld.aX rfl rfl rfl (by exact rfl) (by exact rfl)) (fun _=>?_))
   refine JW.base none ?_;refine jk 11 rfl rfl rfl rfl (Qt.extract rfl rfl) ?_;refine jk 14 rfl rfl rfl rfl (Qt.assign rfl) ?_;refine bt ?_
   rotate_left
   refine JS.cz rfl rfl rfl (qb rfl) (Ld.alloc (qb rfl)) .none (fun _=>?_);refine cW 8 (C1) ?_;refine jk 9 rfl rfl rfl rfl (Qt.move rfl) ?_;refine JD.lV ?_;refine tk 10 ?_;refine JD.cU (i:=11) (j:=13) (by kernel_rfl) ?_ ?_;refine JS.q rfl rfl rfl (qb rfl) (Qt.extract rfl rfl) ?_;refine jt 13 rfl rfl (Ld.aX rfl rfl rfl (by exact rfl) (by exact rfl)) (fun _=>?_);refine JW.base none ?_;refine jk 14 rfl rfl rfl rfl (Qt.assign rfl) ?_;refine bt ?_
   rotate_left
   (refine JS.last rfl rfl (Ld.aX rfl rfl rfl (by exact rfl) (by exact rfl)) (fun _=>?_))
   refine JW.base none ?_;refine jk 11 rfl rfl rfl rfl (Qt.extract rfl rfl) ?_;refine jk 14 rfl rfl rfl rfl (Qt.assign rfl) ?_;refine bt ?_
   rotate_left
   all_goals
    repeat (first | refine aO (cP s1 g { aa s g with k:=0,place:=p } g2 b2) ?_ | refine gn ?_)
    exact aA func201
  ·rw [if_neg hl];rw [decide_eq_false hl] at hk
   repeat (first | refine av ?_ | intro _)
   refine J.draw (by kernel_rfl) rfl ?_;refine JW.base (some 13) ?_;refine tk 0 ?_;refine tk 1 ?_;refine tk 2 ?_;refine tk 3 ?_;refine tk 4 ?_;refine tk 5 ?_;refine JD.take 6 rfl rfl (by kernel_rfl) rfl (qb rfl) (Qt.bw rfl rfl k0 I1) rfl ?_;refine tk 7 ?_;refine JD.cU (i:=8) (j:=12) (by kernel_rfl) ?_ ?_;refine JS.cz rfl rfl rfl (qb rfl) (Ld.pure (C1) (qb rfl) rfl lq) .none (fun _=>?_);refine JD.lV ?_;refine tk 9 ?_;refine tk 10 ?_;refine JD.cU (i:=11) (j:=12) (by kernel_rfl) ?_ ?_;refine JS.q rfl rfl rfl (qb rfl) (Qt.extract rfl rfl) ?_;refine jl 12 rfl rfl rfl rfl (Ld.alloc (qb rfl)) .none (fun _=>?_);refine jt 13 rfl rfl (Ld.aX rfl rfl rfl (by exact rfl) (by exact rfl)) (fun _=>?_);refine JW.base none ?_;refine jk 14 rfl rfl rfl rfl (Qt.assign rfl) ?_;refine bt ?_
   rotate_left
   refine JS.cz rfl rfl rfl (qb rfl) (Ld.alloc (qb rfl)) .none (fun _=>?_);refine JD.cU (i:=11) (j:=13) (by kernel_rfl) ?_ ?_;refine JS.q rfl rfl rfl (qb rfl) (Qt.extract rfl rfl) ?_;refine jt 13 rfl rfl (Ld.aX rfl rfl rfl (by exact rfl) (by exact rfl)) (fun _=>?_);refine JW.base none ?_;refine jk 14 rfl rfl rfl rfl (Qt.assign rfl) ?_;refine bt ?_
   rotate_left
   (refine JS.last rfl rfl (Ld.aX rfl rfl rfl (by exact rfl) (by exact rfl)) (fun _=>?_))
   refine JW.base none ?_;refine jk 11 rfl rfl rfl rfl (Qt.extract rfl rfl) ?_;refine jk 14 rfl rfl rfl rfl (Qt.assign rfl) ?_;refine bt ?_
   rotate_left
   refine JS.cz rfl rfl rfl (qb rfl) (Ld.alloc (qb rfl)) .none (fun _=>?_);refine cW 8 (C1) ?_;refine jk 9 rfl rfl rfl rfl (Qt.move rfl) ?_;refine JD.lV ?_;refine tk 10 ?_;refine JD.cU (i:=11) (j:=13) (by kernel_rfl) ?_ ?_;refine JS.q rfl rfl rfl (qb rfl) (Qt.extract rfl rfl) ?_;refine jt 13 rfl rfl (Ld.aX rfl rfl rfl (by exact rfl) (by exact rfl)) (fun _=>?_);refine JW.base none ?_;refine jk 14 rfl rfl rfl rfl (Qt.assign rfl) ?_;refine bt ?_
   rotate_left
   (refine JS.last rfl rfl (Ld.aX rfl rfl rfl (by exact rfl) (by exact rfl)) (fun _=>?_))
   refine JW.base none ?_;refine jk 11 rfl rfl rfl rfl (Qt.extract rfl rfl) ?_;refine jk 14 rfl rfl rfl rfl (Qt.assign rfl) ?_;refine bt ?_
   rotate_left
   all_goals
    repeat (first | refine aO (cP s1 g { aa s g with k:=(aa s g).k + 1 } g2 b2) ?_ | refine gn ?_)
    exact aA func201
theorem qY (s:ah) (g:Nat) (p:Int) (hg:g < s.gs.length) (hb:s.gs.length≤100000) (k0:0≤(aa s g).k) (k1:(aa s g).k≤100000) :
  Pure prog 222 [.agg (az s),.c (nI g),.c (nI p)] (.agg (az (Sx.next s g p))):=by
 have er:Sx.next s g p=if (aa s g).k + 1=(aa s g).order.length then ai s g { aa s g with k:=0,place:=p } else ai s g { aa s g with k:=(aa s g).k + 1 }:=rfl
 rw [er];have hk:((aa s g).k + 1 == ((aa s g).order.length:Int))=decide ((aa s g).k + 1=(aa s g).order.length):=rfl;refine ax.intro func222 rfl rfl rfl (fun ok e=>?_)
 by_cases hl:(aa s g).k + 1=(aa s g).order.length
 ·rw [if_pos hl];rw [decide_eq_true hl] at hk
  repeat (first | refine aO (cP s g { aa s g with k:=0,place:=p } hg hb) ?_ | refine av ?_ | intro _)
  exact aA func222
 ·rw [if_neg hl];rw [decide_eq_false hl] at hk
  repeat (first | refine aO (cP s g { aa s g with k:=(aa s g).k + 1 } hg hb) ?_ | refine av ?_ | intro _)
  exact aA func222
theorem He (s:ah) (g:Nat) (hg:g < s.gs.length) (hb:s.gs.length≤100000) (k0:(aa s g).place=27→0≤(aa s g).k∧(aa s g).k < (aa s g).order.length) :
  Pure prog 203 [.agg (az s),.c (nI g)] (.agg (az (Sx.gI s g))):=by
 refine ax.intro func203 rfl rfl rfl (fun ok e=>?_)
 cases hp:((aa s g).place == 27) with
 | true =>
  have e0:(aa s g).place=27:=by simpa using hp
  have er:Sx.gI s g=ai s g { aa s g with dL:=aD (aa s g).order (aa s g).k }:=by unfold Sx.gI;simp only;rw [if_pos e0]
  rw [er];have q0:=(k0 e0).1
  repeat (first | (refine K.indexAddr ?_;refine jx rfl rfl rfl rfl (by omega) (oO (k0 e0).1 (k0 e0).2) ?_) | refine aO (cP s g { aa s g with dL:=aD (aa s g).order (aa s g).k } hg hb) ?_ | refine av ?_ | intro _)
  exact aA func203
 | false =>
  have e0:¬ (aa s g).place=27:=by simpa using hp
  have er:Sx.gI s g=ai s g (aa s g):=by unfold Sx.gI;simp only;rw [if_neg e0]
  rw [er]
  repeat (first | refine aO (cP s g (aa s g) hg hb) ?_ | refine av ?_ | intro _)
  exact aA func203
end Fl
open Go.RowKit
namespace Fl
open Sx Go.Proofs.Tryz
set_option maxRecDepth 100000
theorem qZ {α:Type} (f:Gr→α) {s:ah} {o g:Nat} {x:Gr} (e:f x=f (aa s o)):f (aa (ai s o x) g)=f (aa s g):=by
 by_cases h:o=g
 ·subst h;rcases C8 s o x o with e1 | e1
  ·rw [e1,e]
  ·rw [e1]
 ·have:aa (ai s o x) g=aa s g:=by
   unfold aa ai;simp only [List.getD_eq_getElem?_getD,List.getElem?_set];rw [if_neg h]
  rw [this]
theorem Hf {α:Type} (f:Gr→α) {s:ah} {o g:Nat} {p:Int} (e:∀ x:Gr,f { x with place:=p }=f x):f (aa (Sx.aI s o p) g)=f (aa s g):=by
 unfold Sx.aI;exact qZ f (e _)
theorem Ob {α:Type} (f:Gr→α) {s:ah} {o g:Nat} {i:Int} (e:∀ (x:Gr) (a b c:Int),f { x with bQ:=a,wi:=b,dL:=c }=f x):f (aa (Sx.pair s o i) g)=f (aa s g):=by
 unfold Sx.pair;simp only
 by_cases h:o=(su s i).g.toNat
 ·subst h;rcases C8 (ai s (su s i).g.toNat { aa s (su s i).g.toNat with bQ:=(aa s (su s i).g.toNat).t,wi:=((su s i).g.toNat:Int),dL:=(su s i).cs }) (su s i).g.toNat { aa s (su s i).g.toNat with bQ:=(aa s (su s i).g.toNat).t,wi:=(su s i).g } g with e1 | e1
  ·by_cases h2:(su s i).g.toNat=g
   ·rw [e1,← h2];exact e (aa s (su s i).g.toNat) (aa s (su s i).g.toNat).t (su s i).g (aa s (su s i).g.toNat).dL
   ·have:∀ (s:ah) (o:Nat) (x:Gr),o≠g→aa (ai s o x) g=aa s g:=fun s o x h=>by
     unfold aa ai;simp only [List.getD_eq_getElem?_getD,List.getElem?_set];rw [if_neg h]
    rw [this _ _ _ h2,this _ _ _ h2]
  ·rw [e1];exact qZ f (e (aa s (su s i).g.toNat) _ _ _)
 ·have h3:∀ (s:ah) (o:Nat) (x:Gr) (g:Nat),o≠g→aa (ai s o x) g=aa s g:=fun s o x g h=>by
   unfold aa ai;simp only [List.getD_eq_getElem?_getD,List.getElem?_set];rw [if_neg h]
  rw [qZ f (x:={ aa s o with bQ:=(aa s o).t,wi:=(su s i).g })]
  ·exact qZ f (e (aa s (su s i).g.toNat) _ _ _)
  ·rw [h3 _ _ _ _ (Ne.symm h)];exact e (aa s o) _ _ (aa s o).dL
theorem Oc {α:Type} (f:Gr→α) {s:ah} {g:Nat} {i wi ha:Int} (e:∀ (x:Gr) (a b c:Int),f { x with bQ:=a,wi:=b,dL:=c }=f x) (e2:∀ (x:Gr) (p:Int),f { x with place:=p }=f x) (e3:∀ (x:Gr) (a b:Int),f { x with hold:=a,t:=b }=f x) (h:Nat):f (aa (taken s g i wi ha) h)=f (aa s h):=by
 unfold taken
 split
 ·rw [Hf f (fun x=>e2 x _)];exact qZ f (e3 (aa s g) i (aa s g).t)
 ·rw [Hf f (fun x=>e2 x _),Ob f e,uh (fX _ _)];exact qZ f (e3 (aa s g) i s.step)
theorem C9 (s:ah) (g:Nat) (i wi ha:Int):(taken s g i wi ha).gs.length=s.gs.length:=by
 unfold taken
 split
 ·simp [Sx.aI,ai]
 ·rw [xI,xJ,fX,cr]
structure AD (s:ah) (g:Nat) (k:Pn.Cs):Prop where
 lt:g < s.gs.length
 fit:Fit s
 k0:0≤(aa s g).k
 k1:(aa s g).k < (aa s g).order.length
 md:aN s k.ch=true
 hr:∀ a l,(cn s k.ch).recv=a :: l→dz s a
 hs:∀ a l,(cn s k.ch).send=a :: l→dz s a
theorem AD.gI {s:ah} {g:Nat} {k:Pn.Cs} (h:AD s g k) (i wi ha:Int):0≤(aa (taken s g i wi ha) g).k∧(aa (taken s g i wi ha) g).k < (aa (taken s g i wi ha) g).order.length:=by
 rw [Oc (f:=Gr.k) (fun _ _ _ _=>rfl) (fun _ _=>rfl) (fun _ _ _=>rfl),Oc (f:=Gr.order) (fun _ _ _ _=>rfl) (fun _ _=>rfl) (fun _ _ _=>rfl)];exact ⟨h.k0,h.k1⟩
theorem Ya (s:ah) (g:Nat) (i:Int) (k:Pn.Cs) (h:AD s g k) :
  Pure prog 221 [.agg (az s),.c (nI g),.c (nI i),.agg (tr k)] (.aZ [.agg (az (iU s g i k).1),.c (bI (iU s g i k).2)]):=by
 have hg:=h.lt;have hb:=h.fit.1.1;have dF:=h.fit.1.2.1;have hm:=h.md;have hl:=eV hm;refine ax.intro func221 rfl rfl rfl (fun ok e=>?_)
 cases bZ:(cn s k.ch).closed with
 | true =>
  have er:iU s g i k=(fq s g ⟨3,0,0,false,0⟩ i,true):=by unfold iU;simp only;rw [if_pos bZ]
  rw [er]
  repeat (first | refine J.gZ (congrArg (fun b=>some (D.c (bI b))) bZ) ?_ | refine aO (AB s g ⟨3,0,0,false,0⟩ i hg hb) ?_ | refine av ?_ | intro _)
  exact aA func221
 | false =>
  have cF:¬ (cn s k.ch).closed=true:=by rw [bZ];simp
  cases hr:(cn s k.ch).recv with
  | cons a l =>
   have er:iU s g i k=(Sx.gI (taken s g a 26 27) g,true):=by unfold iU;simp only;rw [if_neg cF,if_pos (by rw [hr];simp),hr];rfl
   rw [er];have hz:(decide (((cn s k.ch).recv.length:Int) > 0))=true:=by rw [hr];simp
   have w0:((cn s k.ch).recv.map fun n=>[nI n])[(0:Int).toNat]?=some [nI a]:=by rw [hr];rfl
   have C1:=xK s g a 26 27 hg (h.hr a l hr) h.fit;have C2:=He (taken s g a 26 27) g (by rw [C9];exact hg) (by rw [C9];exact hb) (fun _=>h.gI a 26 27)
   repeat (first | refine J.gw (congrArg (fun b=>some (D.c (bI b))) bZ) ?_ | refine av ?_ | intro _)
   refine J.draw (by kernel_rfl) rfl ?_;refine JW.base (some 9) ?_;refine tk 0 ?_;refine tk 1 ?_;refine tk 2 ?_;refine tk 3 ?_;refine JD.take 4 rfl rfl (by kernel_rfl) rfl (qb rfl) (Qt.bw rfl rfl (by omega) w0) rfl ?_;refine tk 5 ?_;refine tk 7 ?_;refine cW 6 (C1) ?_;refine cW 8 (C2) ?_;refine jt 9 rfl rfl (Ld.aX rfl rfl rfl (by exact rfl) (by exact rfl)) (fun _=>?_);refine JW.base none ?_;refine jk 10 rfl rfl rfl rfl (Qt.assign rfl) ?_;refine bt ?_
   all_goals
    exact aA func221
  | nil =>
   have hz:(decide (((cn s k.ch).recv.length:Int) > 0))=false:=by rw [hr];rfl
   have aj:iU s g i k=if (fo (cn s k.ch).buf (cn s k.ch).cap k.v).2=true then (fq (aE s k.ch { cn s k.ch with buf:=(fo (cn s k.ch).buf (cn s k.ch).cap k.v).1 }) g ⟨1,0,0,true,0⟩ i,true) else (s,false):=by unfold iU;simp only;rw [if_neg cF,if_neg (by rw [hr];simp)]
   have CP:=NU (cn s k.ch).buf (cn s k.ch).cap k.v (h.fit.bf _)
   cases hp:(fo (cn s k.ch).buf (cn s k.ch).cap k.v).2 with
   | true =>
    rw [if_pos hp] at aj;rw [hp] at CP;rw [aj]
    repeat (first | refine J.gw (congrArg (fun b=>some (D.c (bI b))) bZ) ?_ | refine aO (nA s k.ch { cn s k.ch with buf:=(fo (cn s k.ch).buf (cn s k.ch).cap k.v).1 } hm dF) ?_ | refine aO (AB (aE s k.ch { cn s k.ch with buf:=(fo (cn s k.ch).buf (cn s k.ch).cap k.v).1 }) g ⟨1,0,0,true,0⟩ i hg hb) ?_ | refine av ?_ | intro _)
    exact aA func221
   | false =>
    rw [if_neg (by rw [hp];simp)] at aj;rw [hp] at CP;rw [aj]
    repeat (first | refine J.gw (congrArg (fun b=>some (D.c (bI b))) bZ) ?_ | refine av ?_ | intro _)
    exact aA func221
theorem Yb (s:ah) (g:Nat) (i:Int) (k:Pn.Cs) (h:AD s g k) :
  Pure prog 220 [.agg (az s),.c (nI g),.c (nI i),.agg (tr k)] (.aZ [.agg (az (jH s g i k).1),.c (bI (jH s g i k).2)]):=by
 have hg:=h.lt;have hb:=h.fit.1.1;have dF:=h.fit.1.2.1;have hm:=h.md;have hl:=eV hm;refine ax.intro func220 rfl rfl rfl (fun ok e=>?_)
 cases hr:(cn s k.ch).send with
 | cons a l =>
  have er:jH s g i k=(Sx.gI (taken s g a 26 27) g,true):=by unfold jH;simp only;rw [if_pos (by rw [hr];simp),hr];rfl
  rw [er];have hz:(decide (((cn s k.ch).send.length:Int) > 0))=true:=by rw [hr];simp
  have w0:((cn s k.ch).send.map fun n=>[nI n])[(0:Int).toNat]?=some [nI a]:=by rw [hr];rfl
  have C1:=xK s g a 26 27 hg (h.hs a l hr) h.fit;have C2:=He (taken s g a 26 27) g (by rw [C9];exact hg) (by rw [C9];exact hb) (fun _=>h.gI a 26 27)
  repeat (first | refine av ?_ | intro _)
  refine J.draw (by kernel_rfl) rfl ?_;refine JW.base (some 9) ?_;refine tk 0 ?_;refine tk 1 ?_;refine tk 2 ?_;refine tk 3 ?_;refine JD.take 4 rfl rfl (by kernel_rfl) rfl (qb rfl) (Qt.bw rfl rfl (by omega) w0) rfl ?_;refine tk 5 ?_;refine tk 7 ?_;refine cW 6 (C1) ?_;refine cW 8 (C2) ?_;refine jt 9 rfl rfl (Ld.aX rfl rfl rfl (by exact rfl) (by exact rfl)) (fun _=>?_);refine JW.base none ?_;refine jk 10 rfl rfl rfl rfl (Qt.assign rfl) ?_;refine bt ?_
  all_goals
   exact aA func220
 | nil =>
  have hz:(decide (((cn s k.ch).send.length:Int) > 0))=false:=by rw [hr];rfl
  have aj:jH s g i k=if (gN (cn s k.ch).buf).2.2=true then (fq (aE s k.ch { cn s k.ch with buf:=(gN (cn s k.ch).buf).1 }) g (eJ (gN (cn s k.ch).buf).2.1 true) i,true) else if (cn s k.ch).closed=true then (fq s g (eJ 0 false) i,true) else (s,false):=by unfold jH;simp only;rw [if_neg (by rw [hr];simp)]
  have CG:=NW (cn s k.ch).buf (h.fit.bf _)
  cases hp:(gN (cn s k.ch).buf).2.2 with
  | true =>
   rw [if_pos hp] at aj;rw [hp] at CG;rw [aj]
   repeat (first | refine aO (nA s k.ch { cn s k.ch with buf:=(gN (cn s k.ch).buf).1 } hm dF) ?_ | refine aO (lG (gN (cn s k.ch).buf).2.1 true) ?_ | refine aO (AB (aE s k.ch { cn s k.ch with buf:=(gN (cn s k.ch).buf).1 }) g (eJ (gN (cn s k.ch).buf).2.1 true) i hg hb) ?_ | refine av ?_ | intro _)
   exact aA func220
  | false =>
   rw [if_neg (by rw [hp];simp)] at aj;rw [hp] at CG
   cases bZ:(cn s k.ch).closed with
   | true =>
    rw [if_pos bZ] at aj;rw [aj]
    repeat (first | refine J.gZ (congrArg (fun b=>some (D.c (bI b))) bZ) ?_ | refine av ?_ | intro _)
    refine J.draw (by kernel_rfl) rfl ?_;refine JW.base (some 5) ?_;refine tk 0 ?_;refine tk 1 ?_;refine tk 3 ?_;refine cW 2 (lG 0 false) ?_;refine cW 4 (AB s g (eJ 0 false) i hg hb) ?_;refine jt 5 rfl rfl (Ld.aX rfl rfl rfl (by exact rfl) (by exact rfl)) (fun _=>?_);refine JW.base none ?_;refine jk 6 rfl rfl rfl rfl (Qt.assign rfl) ?_;refine bt ?_
    all_goals
     exact aA func220
   | false =>
    rw [if_neg (by rw [bZ];simp)] at aj;rw [aj]
    repeat (first | refine J.gw (congrArg (fun b=>some (D.c (bI b))) bZ) ?_ | refine av ?_ | intro _)
    exact aA func220
end Fl
end Go.Proofs.YtofnbflkhgammaaGreat
