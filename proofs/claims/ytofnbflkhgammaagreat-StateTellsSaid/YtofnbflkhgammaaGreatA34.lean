/-
  What the laws need, part A34.
  Conditions: none.
-/
import Derived.Test.YtofnbflkhgammaaGreatA32
set_option linter.unusedVariables false
set_option linter.unusedSimpArgs false
set_option linter.unnecessarySimpa false
set_option maxHeartbeats 2000000
namespace Go.Proofs.YtofnbflkhgammaaGreat
open Go.RowKit
namespace Fl
open Sx
set_option maxRecDepth 100000
theorem ou {l:List Int} {k:Int} (h0:0≤k) (h:k < l.length):(l.map fun n=>[nI n])[k.toNat]?=some [nI (aA l k)]:=by
 have:k.toNat < l.length:=by omega
 refine at_map ?_;unfold aA;rw [List.getElem?_eq_getElem this,List.getD_eq_getElem?_getD,List.getElem?_eq_getElem this];rfl
theorem uO (s:Sx.St) (g:Nat) (p:Int) (hg:g < s.gs.length) (hb:s.gs.length≤100000) :
  Pure Tryz.prog 225 [.agg (ay s),.c (nI g),.c (nI p)] (.agg (ay (unlock s g p))):=by
 refine aq.intro Tryz.func225 rfl rfl rfl (fun ok e=>?_)
 repeat (first | refine aJ (cE s g { Sx.gr s g with k:=(Sx.gr s g).aC.length,place:=p } hg hb) ?_ | refine au ?_ | intro _)
 exact az Tryz.func225
theorem MQ (s:Sx.St) (g:Nat) (r:Md.ai) (p:Int):(bw s g r p).gs.length=s.gs.length:=by simp [bw,Sx.aa]
theorem zu (s:Sx.St) (g:Nat) (r:Md.ai) (i:Int) (hg:g < s.gs.length) (hb:s.gs.length≤100000) :
  Pure Tryz.prog 223 [.agg (ay s),.c (nI g),.agg (vj r),.c (nI i)] (.agg (ay (eV s g r i))):=by
 have C1:=ze r i;have C2:=jh s g { r with cs:=i } 30 hg hb;have g1:g < (bw s g { r with cs:=i } 30).gs.length:=by rw [MQ];exact hg
 have b1:(bw s g { r with cs:=i } 30).gs.length≤100000:=by rw [MQ];exact hb
 have er:eV s g r i=unlock (Sx.aa (bw s g { r with cs:=i } 30) g { Sx.gr (bw s g { r with cs:=i } 30) g with dh:=i }) g 30:=rfl;rw [er];clear er;generalize bw s g { r with cs:=i } 30=s1 at *;have C3:=cE s1 g { Sx.gr s1 g with dh:=i } g1 b1;have C4:=uO (Sx.aa s1 g { Sx.gr s1 g with dh:=i }) g 30 (by rw [bV];exact g1) (by rw [bV];exact b1);refine aq.intro Tryz.func223 rfl rfl rfl (fun ok e=>?_)
 repeat (first | refine au ?_ | intro _)
 refine J.draw (by kernel_rfl) rfl ?_;refine JW.base (some 6) ?_;refine tk 0 ?_;refine tk 1 ?_;refine tk 2 ?_;refine tk 3 ?_;refine cU 4 (C1) ?_;refine cU 5 (C2) ?_;refine jt 6 rfl rfl (Ld.aP rfl rfl rfl (by exact rfl) (by exact rfl)) (fun _=>?_);refine bJ ?_
 repeat (first | refine au ?_ | intro _)
 exact az Tryz.func223
theorem MR (s:Sx.St) (g:Nat) (p:Int) (hg:g < s.gs.length) (hb:Few s) (k0:0≤(Sx.gr s g).k) (k1:(Sx.gr s g).k < (Sx.gr s g).aC.length) (kb:(Sx.gr s g).aC.length≤100000) (hm:Sx.made s (aA (Sx.gr s g).aC (Sx.gr s g).k)=true) :
  Pure Tryz.prog 201 [.agg (ay s),.c (nI g),.c (nI p)] (.agg (ay (lock s g p))):=by
 have I1:=ou k0 k1;have C1:=Mc s g (aA (Sx.gr s g).aC (Sx.gr s g).k) hm hb.2.1;have g2:g < (Sx.tryLock s g (aA (Sx.gr s g).aC (Sx.gr s g).k)).1.gs.length:=by rw [BY];exact hg
 have b2:(Sx.tryLock s g (aA (Sx.gr s g).aC (Sx.gr s g).k)).1.gs.length≤100000:=by rw [BY];exact hb.1
 refine aq.intro Tryz.func201 rfl rfl rfl (fun ok e=>?_)
 cases ht:(Sx.tryLock s g (aA (Sx.gr s g).aC (Sx.gr s g).k)).2 with
 | false =>
  rw [ht] at C1;have er:lock s g p=s:=by unfold lock;simp only;rw [if_neg (by rw [ht];simp)]
  rw [er]
  repeat (first | refine au ?_ | intro _)
  refine J.draw (by kernel_rfl) rfl ?_;refine JW.base (some 13) ?_;refine tk 0 ?_;refine tk 1 ?_;refine tk 2 ?_;refine tk 3 ?_;refine tk 4 ?_;refine tk 5 ?_;refine JD.take 6 rfl rfl (by kernel_rfl) rfl (qb rfl) (Qt.cq rfl rfl k0 I1) rfl ?_;refine tk 7 ?_;refine JD.cB (i:=8) (j:=12) (by kernel_rfl) ?_ ?_;refine JS.bp rfl rfl rfl (qb rfl) (Ld.pure (C1) (qb rfl) rfl lq) .none (fun _=>?_);refine JD.lP ?_;refine tk 9 ?_;refine tk 10 ?_;refine JD.cB (i:=11) (j:=12) (by kernel_rfl) ?_ ?_;refine JS.q rfl rfl rfl (qb rfl) (Qt.extract rfl rfl) ?_;refine jl 12 rfl rfl rfl rfl (Ld.alloc (qb rfl)) .none (fun _=>?_);refine jt 13 rfl rfl (Ld.aP rfl rfl rfl (by exact rfl) (by exact rfl)) (fun _=>?_);refine JW.base none ?_;refine jk 14 rfl rfl rfl rfl (Qt.assign rfl) ?_;refine bH ?_
  rotate_left
  refine JS.bp rfl rfl rfl (qb rfl) (Ld.alloc (qb rfl)) .none (fun _=>?_);refine JD.cB (i:=11) (j:=13) (by kernel_rfl) ?_ ?_;refine JS.q rfl rfl rfl (qb rfl) (Qt.extract rfl rfl) ?_;refine jt 13 rfl rfl (Ld.aP rfl rfl rfl (by exact rfl) (by exact rfl)) (fun _=>?_);refine JW.base none ?_;refine jk 14 rfl rfl rfl rfl (Qt.assign rfl) ?_;refine bH ?_
  rotate_left
  (refine JS.last rfl rfl (Ld.aP rfl rfl rfl (by exact rfl) (by exact rfl)) (fun _=>?_))
  refine JW.base none ?_;refine jk 11 rfl rfl rfl rfl (Qt.extract rfl rfl) ?_;refine jk 14 rfl rfl rfl rfl (Qt.assign rfl) ?_;refine bH ?_
  rotate_left
  refine JS.bp rfl rfl rfl (qb rfl) (Ld.alloc (qb rfl)) .none (fun _=>?_);refine cU 8 (C1) ?_;refine jk 9 rfl rfl rfl rfl (Qt.move rfl) ?_;refine JD.lP ?_;refine tk 10 ?_;refine JD.cB (i:=11) (j:=13) (by kernel_rfl) ?_ ?_;refine JS.q rfl rfl rfl (qb rfl) (Qt.extract rfl rfl) ?_;refine jt 13 rfl rfl (Ld.aP rfl rfl rfl (by exact rfl) (by exact rfl)) (fun _=>?_);refine JW.base none ?_;refine jk 14 rfl rfl rfl rfl (Qt.assign rfl) ?_;refine bH ?_
  rotate_left
  (refine JS.last rfl rfl (Ld.aP rfl rfl rfl (by exact rfl) (by exact rfl)) (fun _=>?_))
  refine JW.base none ?_;refine jk 11 rfl rfl rfl rfl (Qt.extract rfl rfl) ?_;refine jk 14 rfl rfl rfl rfl (Qt.assign rfl) ?_;refine bH ?_
  rotate_left
  all_goals
   repeat (refine gn ?_)
   exact az Tryz.func201
 | true =>
  rw [ht] at C1;have er:lock s g p=if (Sx.gr s g).k + 1=(Sx.gr s g).aC.length then Sx.aa (Sx.tryLock s g (aA (Sx.gr s g).aC (Sx.gr s g).k)).1 g { Sx.gr s g with k:=0,place:=p } else Sx.aa (Sx.tryLock s g (aA (Sx.gr s g).aC (Sx.gr s g).k)).1 g { Sx.gr s g with k:=(Sx.gr s g).k + 1 }:=by unfold lock;simp only;rw [if_pos ht]
  rw [er];generalize (Sx.tryLock s g (aA (Sx.gr s g).aC (Sx.gr s g).k)).1=s1 at *;have hk:((Sx.gr s g).k + 1 == ((Sx.gr s g).aC.length:Int))=decide ((Sx.gr s g).k + 1=(Sx.gr s g).aC.length):=rfl
  by_cases hl:(Sx.gr s g).k + 1=(Sx.gr s g).aC.length
  ·rw [if_pos hl];rw [decide_eq_true hl] at hk
   repeat (first | refine au ?_ | intro _)
   refine J.draw (by kernel_rfl) rfl ?_;refine JW.base (some 13) ?_;refine tk 0 ?_;refine tk 1 ?_;refine tk 2 ?_;refine tk 3 ?_;refine tk 4 ?_;refine tk 5 ?_;refine JD.take 6 rfl rfl (by kernel_rfl) rfl (qb rfl) (Qt.cq rfl rfl k0 I1) rfl ?_;refine tk 7 ?_;refine JD.cB (i:=8) (j:=12) (by kernel_rfl) ?_ ?_;refine JS.bp rfl rfl rfl (qb rfl) (Ld.pure (C1) (qb rfl) rfl lq) .none (fun _=>?_);refine JD.lP ?_;refine tk 9 ?_;refine tk 10 ?_;refine JD.cB (i:=11) (j:=12) (by kernel_rfl) ?_ ?_;refine JS.q rfl rfl rfl (qb rfl) (Qt.extract rfl rfl) ?_;refine jl 12 rfl rfl rfl rfl (Ld.alloc (qb rfl)) .none (fun _=>?_);refine jt 13 rfl rfl (Ld.aP rfl rfl rfl (by exact rfl) (by exact rfl)) (fun _=>?_);refine JW.base none ?_;refine jk 14 rfl rfl rfl rfl (Qt.assign rfl) ?_;refine bH ?_
   rotate_left
   refine JS.bp rfl rfl rfl (qb rfl) (Ld.alloc (qb rfl)) .none (fun _=>?_);refine JD.cB (i:=11) (j:=13) (by kernel_rfl) ?_ ?_;refine JS.q rfl rfl rfl (qb rfl) (Qt.extract rfl rfl) ?_;refine jt 13 rfl rfl (Ld.aP rfl rfl rfl (by exact rfl) (by exact rfl)) (fun _=>?_);refine JW.base none ?_;refine jk 14 rfl rfl rfl rfl (Qt.assign rfl) ?_;refine bH ?_
   rotate_left
   (refine JS.last rfl rfl (Ld.aP rfl rfl rfl (by exact rfl) (by exact rfl)) (fun _=>?_))
   refine JW.base none ?_;refine jk 11 rfl rfl rfl rfl (Qt.extract rfl rfl) ?_;refine jk 14 rfl rfl rfl rfl (Qt.assign rfl) ?_;refine bH ?_
   rotate_left
   refine JS.bp rfl rfl rfl (qb rfl) (Ld.alloc (qb rfl)) .none (fun _=>?_);refine cU 8 (C1) ?_;refine jk 9 rfl rfl rfl rfl (Qt.move rfl) ?_;refine JD.lP ?_;refine tk 10 ?_;refine JD.cB (i:=11) (j:=13) (by kernel_rfl) ?_ ?_;refine JS.q rfl rfl rfl (qb rfl) (Qt.extract rfl rfl) ?_;refine jt 13 rfl rfl (Ld.aP rfl rfl rfl (by exact rfl) (by exact rfl)) (fun _=>?_);refine JW.base none ?_;refine jk 14 rfl rfl rfl rfl (Qt.assign rfl) ?_;refine bH ?_
   rotate_left
   (refine JS.last rfl rfl (Ld.aP rfl rfl rfl (by exact rfl) (by exact rfl)) (fun _=>?_))
   refine JW.base none ?_;refine jk 11 rfl rfl rfl rfl (Qt.extract rfl rfl) ?_;refine jk 14 rfl rfl rfl rfl (Qt.assign rfl) ?_;refine bH ?_
   rotate_left
   all_goals
    repeat (first | refine aJ (cE s1 g { Sx.gr s g with k:=0,place:=p } g2 b2) ?_ | refine gn ?_)
    exact az Tryz.func201
  ·rw [if_neg hl];rw [decide_eq_false hl] at hk
   repeat (first | refine au ?_ | intro _)
   refine J.draw (by kernel_rfl) rfl ?_;refine JW.base (some 13) ?_;refine tk 0 ?_;refine tk 1 ?_;refine tk 2 ?_;refine tk 3 ?_;refine tk 4 ?_;refine tk 5 ?_;refine JD.take 6 rfl rfl (by kernel_rfl) rfl (qb rfl) (Qt.cq rfl rfl k0 I1) rfl ?_;refine tk 7 ?_;refine JD.cB (i:=8) (j:=12) (by kernel_rfl) ?_ ?_;refine JS.bp rfl rfl rfl (qb rfl) (Ld.pure (C1) (qb rfl) rfl lq) .none (fun _=>?_);refine JD.lP ?_;refine tk 9 ?_;refine tk 10 ?_;refine JD.cB (i:=11) (j:=12) (by kernel_rfl) ?_ ?_;refine JS.q rfl rfl rfl (qb rfl) (Qt.extract rfl rfl) ?_;refine jl 12 rfl rfl rfl rfl (Ld.alloc (qb rfl)) .none (fun _=>?_);refine jt 13 rfl rfl (Ld.aP rfl rfl rfl (by exact rfl) (by exact rfl)) (fun _=>?_);refine JW.base none ?_;refine jk 14 rfl rfl rfl rfl (Qt.assign rfl) ?_;refine bH ?_
   rotate_left
   refine JS.bp rfl rfl rfl (qb rfl) (Ld.alloc (qb rfl)) .none (fun _=>?_);refine JD.cB (i:=11) (j:=13) (by kernel_rfl) ?_ ?_;refine JS.q rfl rfl rfl (qb rfl) (Qt.extract rfl rfl) ?_;refine jt 13 rfl rfl (Ld.aP rfl rfl rfl (by exact rfl) (by exact rfl)) (fun _=>?_);refine JW.base none ?_;refine jk 14 rfl rfl rfl rfl (Qt.assign rfl) ?_;refine bH ?_
   rotate_left
   (refine JS.last rfl rfl (Ld.aP rfl rfl rfl (by exact rfl) (by exact rfl)) (fun _=>?_))
   refine JW.base none ?_;refine jk 11 rfl rfl rfl rfl (Qt.extract rfl rfl) ?_;refine jk 14 rfl rfl rfl rfl (Qt.assign rfl) ?_;refine bH ?_
   rotate_left
   refine JS.bp rfl rfl rfl (qb rfl) (Ld.alloc (qb rfl)) .none (fun _=>?_);refine cU 8 (C1) ?_;refine jk 9 rfl rfl rfl rfl (Qt.move rfl) ?_;refine JD.lP ?_;refine tk 10 ?_;refine JD.cB (i:=11) (j:=13) (by kernel_rfl) ?_ ?_;refine JS.q rfl rfl rfl (qb rfl) (Qt.extract rfl rfl) ?_;refine jt 13 rfl rfl (Ld.aP rfl rfl rfl (by exact rfl) (by exact rfl)) (fun _=>?_);refine JW.base none ?_;refine jk 14 rfl rfl rfl rfl (Qt.assign rfl) ?_;refine bH ?_
   rotate_left
   (refine JS.last rfl rfl (Ld.aP rfl rfl rfl (by exact rfl) (by exact rfl)) (fun _=>?_))
   refine JW.base none ?_;refine jk 11 rfl rfl rfl rfl (Qt.extract rfl rfl) ?_;refine jk 14 rfl rfl rfl rfl (Qt.assign rfl) ?_;refine bH ?_
   rotate_left
   all_goals
    repeat (first | refine aJ (cE s1 g { Sx.gr s g with k:=(Sx.gr s g).k + 1 } g2 b2) ?_ | refine gn ?_)
    exact az Tryz.func201
theorem qm (s:Sx.St) (g:Nat) (p:Int) (hg:g < s.gs.length) (hb:s.gs.length≤100000) (k0:0≤(Sx.gr s g).k) (k1:(Sx.gr s g).k≤100000) :
  Pure Tryz.prog 222 [.agg (ay s),.c (nI g),.c (nI p)] (.agg (ay (Sx.next s g p))):=by
 have er:Sx.next s g p=if (Sx.gr s g).k + 1=(Sx.gr s g).order.length then Sx.aa s g { Sx.gr s g with k:=0,place:=p } else Sx.aa s g { Sx.gr s g with k:=(Sx.gr s g).k + 1 }:=rfl
 rw [er];have hk:((Sx.gr s g).k + 1 == ((Sx.gr s g).order.length:Int))=decide ((Sx.gr s g).k + 1=(Sx.gr s g).order.length):=rfl;refine aq.intro Tryz.func222 rfl rfl rfl (fun ok e=>?_)
 by_cases hl:(Sx.gr s g).k + 1=(Sx.gr s g).order.length
 ·rw [if_pos hl];rw [decide_eq_true hl] at hk
  repeat (first | refine aJ (cE s g { Sx.gr s g with k:=0,place:=p } hg hb) ?_ | refine au ?_ | intro _)
  exact az Tryz.func222
 ·rw [if_neg hl];rw [decide_eq_false hl] at hk
  repeat (first | refine aJ (cE s g { Sx.gr s g with k:=(Sx.gr s g).k + 1 } hg hb) ?_ | refine au ?_ | intro _)
  exact az Tryz.func222
theorem Ge (s:Sx.St) (g:Nat) (hg:g < s.gs.length) (hb:s.gs.length≤100000) (k0:(Sx.gr s g).place=27→0≤(Sx.gr s g).k∧(Sx.gr s g).k < (Sx.gr s g).order.length) :
  Pure Tryz.prog 203 [.agg (ay s),.c (nI g)] (.agg (ay (Sx.gy s g))):=by
 refine aq.intro Tryz.func203 rfl rfl rfl (fun ok e=>?_)
 cases hp:((Sx.gr s g).place == 27) with
 | true =>
  have e0:(Sx.gr s g).place=27:=by simpa using hp
  have er:Sx.gy s g=Sx.aa s g { Sx.gr s g with dh:=aA (Sx.gr s g).order (Sx.gr s g).k }:=by unfold Sx.gy;simp only;rw [if_pos e0]
  rw [er];have q0:=(k0 e0).1
  repeat (first | (refine K.indexAddr ?_;refine jx rfl rfl rfl rfl (by omega) (ou (k0 e0).1 (k0 e0).2) ?_) | refine aJ (cE s g { Sx.gr s g with dh:=aA (Sx.gr s g).order (Sx.gr s g).k } hg hb) ?_ | refine au ?_ | intro _)
  exact az Tryz.func203
 | false =>
  have e0:¬ (Sx.gr s g).place=27:=by simpa using hp
  have er:Sx.gy s g=Sx.aa s g (Sx.gr s g):=by unfold Sx.gy;simp only;rw [if_neg e0]
  rw [er]
  repeat (first | refine aJ (cE s g (Sx.gr s g) hg hb) ?_ | refine au ?_ | intro _)
  exact az Tryz.func203
end Fl
open Go.RowKit
namespace Fl
open Sx
set_option maxRecDepth 100000
theorem qn {α:Type} (f:Gr→α) {s:Sx.St} {o g:Nat} {x:Gr} (e:f x=f (Sx.gr s o)):f (Sx.gr (Sx.aa s o x) g)=f (Sx.gr s g):=by
 by_cases h:o=g
 ·subst h;rcases B3 s o x o with e1 | e1
  ·rw [e1,e]
  ·rw [e1]
 ·have:Sx.gr (Sx.aa s o x) g=Sx.gr s g:=by
   unfold Sx.gr Sx.aa;simp only [List.getD_eq_getElem?_getD,List.getElem?_set];rw [if_neg h]
  rw [this]
theorem Gf {α:Type} (f:Gr→α) {s:Sx.St} {o g:Nat} {p:Int} (e:∀ x:Gr,f { x with place:=p }=f x):f (Sx.gr (Sx.aE s o p) g)=f (Sx.gr s g):=by
 unfold Sx.aE;exact qn f (e _)
theorem MS {α:Type} (f:Gr→α) {s:Sx.St} {o g:Nat} {i:Int} (e:∀ (x:Gr) (a b c:Int),f { x with bG:=a,wi:=b,dh:=c }=f x):f (Sx.gr (Sx.pair s o i) g)=f (Sx.gr s g):=by
 unfold Sx.pair;simp only
 by_cases h:o=(su s i).g.toNat
 ·subst h;rcases B3 (Sx.aa s (su s i).g.toNat { Sx.gr s (su s i).g.toNat with bG:=(Sx.gr s (su s i).g.toNat).t,wi:=((su s i).g.toNat:Int),dh:=(su s i).cs }) (su s i).g.toNat { Sx.gr s (su s i).g.toNat with bG:=(Sx.gr s (su s i).g.toNat).t,wi:=(su s i).g } g with e1 | e1
  ·by_cases h2:(su s i).g.toNat=g
   ·rw [e1,← h2];exact e (Sx.gr s (su s i).g.toNat) (Sx.gr s (su s i).g.toNat).t (su s i).g (Sx.gr s (su s i).g.toNat).dh
   ·have:∀ (s:Sx.St) (o:Nat) (x:Gr),o≠g→Sx.gr (Sx.aa s o x) g=Sx.gr s g:=fun s o x h=>by
     unfold Sx.gr Sx.aa;simp only [List.getD_eq_getElem?_getD,List.getElem?_set];rw [if_neg h]
    rw [this _ _ _ h2,this _ _ _ h2]
  ·rw [e1];exact qn f (e (Sx.gr s (su s i).g.toNat) _ _ _)
 ·have h3:∀ (s:Sx.St) (o:Nat) (x:Gr) (g:Nat),o≠g→Sx.gr (Sx.aa s o x) g=Sx.gr s g:=fun s o x g h=>by
   unfold Sx.gr Sx.aa;simp only [List.getD_eq_getElem?_getD,List.getElem?_set];rw [if_neg h]
  rw [qn f (x:={ Sx.gr s o with bG:=(Sx.gr s o).t,wi:=(su s i).g })]
  ·exact qn f (e (Sx.gr s (su s i).g.toNat) _ _ _)
  ·rw [h3 _ _ _ _ (Ne.symm h)];exact e (Sx.gr s o) _ _ (Sx.gr s o).dh
theorem MT {α:Type} (f:Gr→α) {s:Sx.St} {g:Nat} {i wi ha:Int} (e:∀ (x:Gr) (a b c:Int),f { x with bG:=a,wi:=b,dh:=c }=f x) (e2:∀ (x:Gr) (p:Int),f { x with place:=p }=f x) (e3:∀ (x:Gr) (a b:Int),f { x with hold:=a,t:=b }=f x) (h:Nat):f (Sx.gr (taken s g i wi ha) h)=f (Sx.gr s h):=by
 unfold taken
 split
 ·rw [Gf f (fun x=>e2 x _)];exact qn f (e3 (Sx.gr s g) i (Sx.gr s g).t)
 ·rw [Gf f (fun x=>e2 x _),MS f e,tv (fL _ _)];exact qn f (e3 (Sx.gr s g) i s.step)
theorem B9 (s:Sx.St) (g:Nat) (i wi ha:Int):(taken s g i wi ha).gs.length=s.gs.length:=by
 unfold taken
 split
 ·simp [Sx.aE,Sx.aa]
 ·rw [wA,wB,fL,bV]
structure zw (s:Sx.St) (g:Nat) (k:Pn.Cs):Prop where
 lt:g < s.gs.length
 fit:Fit s
 k0:0≤(Sx.gr s g).k
 k1:(Sx.gr s g).k < (Sx.gr s g).order.length
 md:Sx.made s k.ch=true
 hr:∀ a l,(cn s k.ch).recv=a :: l→dm s a
 hs:∀ a l,(cn s k.ch).send=a :: l→dm s a
theorem zw.gy {s:Sx.St} {g:Nat} {k:Pn.Cs} (h:zw s g k) (i wi ha:Int):0≤(Sx.gr (taken s g i wi ha) g).k∧(Sx.gr (taken s g i wi ha) g).k < (Sx.gr (taken s g i wi ha) g).order.length:=by
 rw [MT (f:=Gr.k) (fun _ _ _ _=>rfl) (fun _ _=>rfl) (fun _ _ _=>rfl),MT (f:=Gr.order) (fun _ _ _ _=>rfl) (fun _ _=>rfl) (fun _ _ _=>rfl)];exact ⟨h.k0,h.k1⟩
theorem XG (s:Sx.St) (g:Nat) (i:Int) (k:Pn.Cs) (h:zw s g k) :
  Pure Tryz.prog 221 [.agg (ay s),.c (nI g),.c (nI i),.agg (sA k)] (.aV [.agg (ay (iF s g i k).1),.c (bI (iF s g i k).2)]):=by
 have hg:=h.lt;have hb:=h.fit.1.1;have dz:=h.fit.1.2.1;have hm:=h.md;have hl:=eD hm;refine aq.intro Tryz.func221 rfl rfl rfl (fun ok e=>?_)
 cases bQ:(cn s k.ch).closed with
 | true =>
  have er:iF s g i k=(eV s g ⟨3,0,0,false,0⟩ i,true):=by unfold iF;simp only;rw [if_pos bQ]
  rw [er]
  repeat (first | refine J.eN (congrArg (fun b=>some (D.c (bI b))) bQ) ?_ | refine aJ (zu s g ⟨3,0,0,false,0⟩ i hg hb) ?_ | refine au ?_ | intro _)
  exact az Tryz.func221
 | false =>
  have cr:¬ (cn s k.ch).closed=true:=by rw [bQ];simp
  cases hr:(cn s k.ch).recv with
  | cons a l =>
   have er:iF s g i k=(Sx.gy (taken s g a 26 27) g,true):=by unfold iF;simp only;rw [if_neg cr,if_pos (by rw [hr];simp),hr];rfl
   rw [er];have hz:(decide (((cn s k.ch).recv.length:Int) > 0))=true:=by rw [hr];simp
   have w0:((cn s k.ch).recv.map fun n=>[nI n])[(0:Int).toNat]?=some [nI a]:=by rw [hr];rfl
   have C1:=BZ s g a 26 27 hg (h.hr a l hr) h.fit;have C2:=Ge (taken s g a 26 27) g (by rw [B9];exact hg) (by rw [B9];exact hb) (fun _=>h.gy a 26 27)
   repeat (first | refine J.ez (congrArg (fun b=>some (D.c (bI b))) bQ) ?_ | refine au ?_ | intro _)
   refine J.draw (by kernel_rfl) rfl ?_;refine JW.base (some 9) ?_;refine tk 0 ?_;refine tk 1 ?_;refine tk 2 ?_;refine tk 3 ?_;refine JD.take 4 rfl rfl (by kernel_rfl) rfl (qb rfl) (Qt.cq rfl rfl (by omega) w0) rfl ?_;refine tk 5 ?_;refine tk 7 ?_;refine cU 6 (C1) ?_;refine cU 8 (C2) ?_;refine jt 9 rfl rfl (Ld.aP rfl rfl rfl (by exact rfl) (by exact rfl)) (fun _=>?_);refine JW.base none ?_;refine jk 10 rfl rfl rfl rfl (Qt.assign rfl) ?_;refine bH ?_
   all_goals
    exact az Tryz.func221
  | nil =>
   have hz:(decide (((cn s k.ch).recv.length:Int) > 0))=false:=by rw [hr];rfl
   have ag:iF s g i k=if (iE (cn s k.ch).buf (cn s k.ch).cap k.v).2=true then (eV (Sx.av s k.ch { cn s k.ch with buf:=(iE (cn s k.ch).buf (cn s k.ch).cap k.v).1 }) g ⟨1,0,0,true,0⟩ i,true) else (s,false):=by unfold iF;simp only;rw [if_neg cr,if_neg (by rw [hr];simp)]
   have CP:=MC (cn s k.ch).buf (cn s k.ch).cap k.v (h.fit.bf _)
   cases hp:(iE (cn s k.ch).buf (cn s k.ch).cap k.v).2 with
   | true =>
    rw [if_pos hp] at ag;rw [hp] at CP;rw [ag]
    repeat (first | refine J.ez (congrArg (fun b=>some (D.c (bI b))) bQ) ?_ | refine aJ (mX s k.ch { cn s k.ch with buf:=(iE (cn s k.ch).buf (cn s k.ch).cap k.v).1 } hm dz) ?_ | refine aJ (zu (Sx.av s k.ch { cn s k.ch with buf:=(iE (cn s k.ch).buf (cn s k.ch).cap k.v).1 }) g ⟨1,0,0,true,0⟩ i hg hb) ?_ | refine au ?_ | intro _)
    exact az Tryz.func221
   | false =>
    rw [if_neg (by rw [hp];simp)] at ag;rw [hp] at CP;rw [ag]
    repeat (first | refine J.ez (congrArg (fun b=>some (D.c (bI b))) bQ) ?_ | refine au ?_ | intro _)
    exact az Tryz.func221
theorem XH (s:Sx.St) (g:Nat) (i:Int) (k:Pn.Cs) (h:zw s g k) :
  Pure Tryz.prog 220 [.agg (ay s),.c (nI g),.c (nI i),.agg (sA k)] (.aV [.agg (ay (jo s g i k).1),.c (bI (jo s g i k).2)]):=by
 have hg:=h.lt;have hb:=h.fit.1.1;have dz:=h.fit.1.2.1;have hm:=h.md;have hl:=eD hm;refine aq.intro Tryz.func220 rfl rfl rfl (fun ok e=>?_)
 cases hr:(cn s k.ch).send with
 | cons a l =>
  have er:jo s g i k=(Sx.gy (taken s g a 26 27) g,true):=by unfold jo;simp only;rw [if_pos (by rw [hr];simp),hr];rfl
  rw [er];have hz:(decide (((cn s k.ch).send.length:Int) > 0))=true:=by rw [hr];simp
  have w0:((cn s k.ch).send.map fun n=>[nI n])[(0:Int).toNat]?=some [nI a]:=by rw [hr];rfl
  have C1:=BZ s g a 26 27 hg (h.hs a l hr) h.fit;have C2:=Ge (taken s g a 26 27) g (by rw [B9];exact hg) (by rw [B9];exact hb) (fun _=>h.gy a 26 27)
  repeat (first | refine au ?_ | intro _)
  refine J.draw (by kernel_rfl) rfl ?_;refine JW.base (some 9) ?_;refine tk 0 ?_;refine tk 1 ?_;refine tk 2 ?_;refine tk 3 ?_;refine JD.take 4 rfl rfl (by kernel_rfl) rfl (qb rfl) (Qt.cq rfl rfl (by omega) w0) rfl ?_;refine tk 5 ?_;refine tk 7 ?_;refine cU 6 (C1) ?_;refine cU 8 (C2) ?_;refine jt 9 rfl rfl (Ld.aP rfl rfl rfl (by exact rfl) (by exact rfl)) (fun _=>?_);refine JW.base none ?_;refine jk 10 rfl rfl rfl rfl (Qt.assign rfl) ?_;refine bH ?_
  all_goals
   exact az Tryz.func220
 | nil =>
  have hz:(decide (((cn s k.ch).send.length:Int) > 0))=false:=by rw [hr];rfl
  have ag:jo s g i k=if (gF (cn s k.ch).buf).2.2=true then (eV (Sx.av s k.ch { cn s k.ch with buf:=(gF (cn s k.ch).buf).1 }) g (ee (gF (cn s k.ch).buf).2.1 true) i,true) else if (cn s k.ch).closed=true then (eV s g (ee 0 false) i,true) else (s,false):=by unfold jo;simp only;rw [if_neg (by rw [hr];simp)]
  have CG:=ME (cn s k.ch).buf (h.fit.bf _)
  cases hp:(gF (cn s k.ch).buf).2.2 with
  | true =>
   rw [if_pos hp] at ag;rw [hp] at CG;rw [ag]
   repeat (first | refine aJ (mX s k.ch { cn s k.ch with buf:=(gF (cn s k.ch).buf).1 } hm dz) ?_ | refine aJ (kQ (gF (cn s k.ch).buf).2.1 true) ?_ | refine aJ (zu (Sx.av s k.ch { cn s k.ch with buf:=(gF (cn s k.ch).buf).1 }) g (ee (gF (cn s k.ch).buf).2.1 true) i hg hb) ?_ | refine au ?_ | intro _)
   exact az Tryz.func220
  | false =>
   rw [if_neg (by rw [hp];simp)] at ag;rw [hp] at CG
   cases bQ:(cn s k.ch).closed with
   | true =>
    rw [if_pos bQ] at ag;rw [ag]
    repeat (first | refine J.eN (congrArg (fun b=>some (D.c (bI b))) bQ) ?_ | refine au ?_ | intro _)
    refine J.draw (by kernel_rfl) rfl ?_;refine JW.base (some 5) ?_;refine tk 0 ?_;refine tk 1 ?_;refine tk 3 ?_;refine cU 2 (kQ 0 false) ?_;refine cU 4 (zu s g (ee 0 false) i hg hb) ?_;refine jt 5 rfl rfl (Ld.aP rfl rfl rfl (by exact rfl) (by exact rfl)) (fun _=>?_);refine JW.base none ?_;refine jk 6 rfl rfl rfl rfl (Qt.assign rfl) ?_;refine bH ?_
    all_goals
     exact az Tryz.func220
   | false =>
    rw [if_neg (by rw [bQ];simp)] at ag;rw [ag]
    repeat (first | refine J.ez (congrArg (fun b=>some (D.c (bI b))) bQ) ?_ | refine au ?_ | intro _)
    exact az Tryz.func220
end Fl
end Go.Proofs.YtofnbflkhgammaaGreat
