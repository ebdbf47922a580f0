/-
  What the laws need, part B17.
  Conditions: none.
-/
import Derived.Test.YtgjpdogjekmemaaGreatB16
set_option linter.unusedVariables false
set_option linter.unusedSimpArgs false
set_option linter.unnecessarySimpa false
set_option maxHeartbeats 2000000
namespace Go.Proofs.YtgjpdogjekmemaaGreat
open Go.RowKit
namespace Fl
open Sx Go.Proofs.Tryz
set_option maxRecDepth 100000
theorem vO (s:ai) (g:Nat) (p:Int):(Sx.next s g p).gs.length=s.gs.length:=by
 unfold Sx.next;simp only;split <;> rw [bP]
theorem Ky (s:ai) (g:Nat) (hg:g < s.gs.length) (hb:Fit s) (k0:0≤(aa s g).k) (k1:(aa s g).k < (aa s g).order.length) (i0:0≤aB (aa s g).order (aa s g).k) (i1:aB (aa s g).order (aa s g).k < (aa s g).aq.length)
  (hc:g < s.cache.length) (hp:kr s) (j1:aB (aa s g).aq (aB (aa s g).order (aa s g).k) < s.aL.length) :
  Pure prog 133 [.agg (aC s),.c (nI g)] (.agg (aC (iz s g))):=by
 have I1:=ku k0 k1;have I2:=ku i0 i1;have kb:=hb.od g;have wb:=hb.sg g;have aj:iz s g=iz s g:=rfl
 conv at aj=>rhs;unfold iz;simp only
 generalize aB (aa s g).order (aa s g).k=i at *;have DG:0≤aB (aa s g).aq i→Pure prog 148 [.agg (aC s),.c (nI g),.c (nI (aB (aa s g).aq i))] (.agg (aC (Sx.cL s g (aB (aa s g).aq i)))):=fun h=>AQ s g _ hc hp h j1 hb.1.2.2
 have e1:([] ++ List.map (fun n=>[nI n]) (aa s g).aq).set i.toNat [nI (-1)]=((aa s g).aq.set i.toNat (-1)).map (fun n=>[nI n]):=by simp
 have wl:i < (([] ++ List.map (fun n=>[nI n]) (aa s g).aq).length:Int):=by simp;omega
 have wn:i.toNat < ([] ++ List.map (fun n=>[nI n]) (aa s g).aq).length:=by simp;omega
 have vP:((aa s g).k + 1 == ((aa s g).order.length:Int))=decide ((aa s g).k + 1=(aa s g).order.length):=rfl;refine aA.intro func133 rfl rfl rfl (fun ok e=>?_);have key:∀ s1:ai,s1.gs=s.gs→∃ (g1:g < s1.gs.length) (b1:s1.gs.length≤100000) (eg:aa s1 g=aa s g),True:=fun s1 h=>⟨by rw [h];exact hg,by rw [h];exact hb.1.1,nZ h g,trivial⟩
 by_cases oF:0≤aB (aa s g).aq i
 ·rw [if_pos oF] at aj;have Kz:(decide (aB (aa s g).aq i ≥ 0))=true:=decide_eq_true oF;have D0:=DG oF;obtain ⟨g1,b1,eg,-⟩:=key (Sx.cL s g (aB (aa s g).aq i)) (sO _ _ _);generalize Sx.cL s g (aB (aa s g).aq i)=s1 at *
  by_cases hl:(aa s g).k + 1=(aa s g).order.length
  ·rw [if_pos hl] at aj;rw [decide_eq_true hl] at vP;rw [aj];have D2:=cj s1 g { aa s g with aq:=[] } g1 b1;have kx:(aa (ah s1 g { aa s g with aq:=[] }) g)={ aa s g with aq:=[] }:=by unfold aa ah;simp [g1]
   have D3:=lV (ah s1 g { aa s g with aq:=[] }) g 34 (by rw [bP];exact g1) (by rw [bP];exact b1) (by rw [kx];exact k0) (by rw [kx];simp only;omega);have D4:=sG (Sx.next (ah s1 g { aa s g with aq:=[] }) g 34) g (by rw [vO,bP];exact g1) (by rw [vO,bP];exact b1)
   repeat (first | refine au ?_ | intro _)
   refine J.draw (by kernel_rfl) rfl ?_;refine JW.base (some 8) ?_;refine tk 0 ?_;refine tk 1 ?_;refine tk 2 ?_;refine tk 3 ?_;refine tk 4 ?_;refine JD.take 5 rfl rfl (by kernel_rfl) rfl (qb rfl) (Qt.dj rfl rfl i0 I2) rfl ?_;refine tk 6 ?_;refine cz 7 (D0) ?_;refine jt 8 rfl rfl (Ld.bu rfl rfl rfl (by exact rfl) (by exact rfl)) (fun _=>?_);refine cH ?_
   repeat (first | (refine K.bi ?_;refine JO.ld (Ld.bO (qb rfl) rfl rfl .read (by (simp;omega))) rfl (fun _=>?_)) | refine au ?_ | intro _)
   repeat (first | (refine K.store ?_;refine JO.ld (Ld.bM rfl rfl rfl (by exact rfl) (by exact wn)) rfl (fun _=>?_)) | (refine K.indexAddr ?_;refine jq rfl rfl rfl (Qt.aN rfl rfl (by omega) (by omega)) ?_))
   refine JO.nil ?_;refine J.lN 0 1 22 rfl rfl rfl ?_
   repeat (first | refine ke (D2) ?_ | refine gn ?_)
   exact az func133
  ·rw [if_neg hl] at aj;rw [decide_eq_false hl] at vP;rw [aj];have D2:=cj s1 g { aa s g with aq:=(aa s g).aq.set i.toNat (-1) } g1 b1;have kx:(aa (ah s1 g { aa s g with aq:=(aa s g).aq.set i.toNat (-1) }) g)={ aa s g with aq:=(aa s g).aq.set i.toNat (-1) }:=by unfold aa ah;simp [g1]
   have D3:=lV (ah s1 g { aa s g with aq:=(aa s g).aq.set i.toNat (-1) }) g 34 (by rw [bP];exact g1) (by rw [bP];exact b1) (by rw [kx];exact k0) (by rw [kx];simp only;omega)
   repeat (first | refine au ?_ | intro _)
   refine J.draw (by kernel_rfl) rfl ?_;refine JW.base (some 8) ?_;refine tk 0 ?_;refine tk 1 ?_;refine tk 2 ?_;refine tk 3 ?_;refine tk 4 ?_;refine JD.take 5 rfl rfl (by kernel_rfl) rfl (qb rfl) (Qt.dj rfl rfl i0 I2) rfl ?_;refine tk 6 ?_;refine cz 7 (D0) ?_;refine jt 8 rfl rfl (Ld.bu rfl rfl rfl (by exact rfl) (by exact rfl)) (fun _=>?_);refine cH ?_
   repeat (first | (refine K.bi ?_;refine JO.ld (Ld.bO (qb rfl) rfl rfl .read (by (simp;omega))) rfl (fun _=>?_)) | refine au ?_ | intro _)
   repeat (first | (refine K.store ?_;refine JO.ld (Ld.bM rfl rfl rfl (by exact rfl) (by exact wn)) rfl (fun _=>?_)) | (refine K.indexAddr ?_;refine jq rfl rfl rfl (Qt.aN rfl rfl (by omega) (by omega)) ?_))
   refine JO.nil ?_;refine J.lN 0 1 22 rfl rfl rfl ?_;rw [show (A.v (.int .i64 (-1)))=nI (-1) from rfl,e1]
   repeat (refine gn ?_)
   exact az func133
 ·rw [if_neg oF] at aj;have Kz:(decide (aB (aa s g).aq i ≥ 0))=false:=decide_eq_false oF
  by_cases hl:(aa s g).k + 1=(aa s g).order.length
  ·rw [if_pos hl] at aj;rw [decide_eq_true hl] at vP;rw [aj];have D2:=cj s g { aa s g with aq:=[] } hg hb.1.1;have kx:(aa (ah s g { aa s g with aq:=[] }) g)={ aa s g with aq:=[] }:=by unfold aa ah;simp [hg]
   have D3:=lV (ah s g { aa s g with aq:=[] }) g 34 (by rw [bP];exact hg) (by rw [bP];exact hb.1.1) (by rw [kx];exact k0) (by rw [kx];simp only;omega);have D4:=sG (Sx.next (ah s g { aa s g with aq:=[] }) g 34) g (by rw [vO,bP];exact hg) (by rw [vO,bP];exact hb.1.1)
   repeat (first | (refine K.bi ?_;refine JO.ld (Ld.bO (qb rfl) rfl rfl .read (by (simp;omega))) rfl (fun _=>?_)) | refine au ?_ | intro _)
   repeat (first | (refine K.store ?_;refine JO.ld (Ld.bM rfl rfl rfl (by exact rfl) (by exact wn)) rfl (fun _=>?_)) | (refine K.indexAddr ?_;refine jq rfl rfl rfl (Qt.aN rfl rfl (by omega) (by omega)) ?_))
   refine JO.nil ?_;refine J.lN 0 1 22 rfl rfl rfl ?_
   repeat (first | refine ke (D2) ?_ | refine gn ?_)
   exact az func133
  ·rw [if_neg hl] at aj;rw [decide_eq_false hl] at vP;rw [aj];have D2:=cj s g { aa s g with aq:=(aa s g).aq.set i.toNat (-1) } hg hb.1.1;have kx:(aa (ah s g { aa s g with aq:=(aa s g).aq.set i.toNat (-1) }) g)={ aa s g with aq:=(aa s g).aq.set i.toNat (-1) }:=by unfold aa ah;simp [hg]
   have D3:=lV (ah s g { aa s g with aq:=(aa s g).aq.set i.toNat (-1) }) g 34 (by rw [bP];exact hg) (by rw [bP];exact hb.1.1) (by rw [kx];exact k0) (by rw [kx];simp only;omega)
   repeat (first | (refine K.bi ?_;refine JO.ld (Ld.bO (qb rfl) rfl rfl .read (by (simp;omega))) rfl (fun _=>?_)) | refine au ?_ | intro _)
   repeat (first | (refine K.store ?_;refine JO.ld (Ld.bM rfl rfl rfl (by exact rfl) (by exact wn)) rfl (fun _=>?_)) | (refine K.indexAddr ?_;refine jq rfl rfl rfl (Qt.aN rfl rfl (by omega) (by omega)) ?_))
   refine JO.nil ?_;refine J.lN 0 1 22 rfl rfl rfl ?_;rw [show (A.v (.int .i64 (-1)))=nI (-1) from rfl,e1]
   repeat (refine gn ?_)
   exact az func133
end Fl
open Go.RowKit
namespace Fl
open Sx Go.Proofs.Tryz
set_option maxRecDepth 100000
structure iG (s:ai) (g:Nat):Prop where
 co:qw s g
 fit:Fit s
 lk:(aa s g).place=24∨(aa s g).place=31→0≤(aa s g).k∧(aa s g).k < (aa s g).aE.length∧(aa s g).aE.length≤100000∧aR s (aB (aa s g).aE (aa s g).k)=true
 ha:(aa s g).place=25∨(aa s g).place=27∨(aa s g).place=28∨(aa s g).place=29→tW s g (ag s g)
 KB:(aa s g).place=26→cP s (aa s g).hold∧0≤(aa s g).k∧(aa s g).k < (aa s g).order.length
 KC:(aa s g).place=27→cP s (aa s g).hold
 KD:(aa s g).place=28→kr s∧g < s.cache.length∧((bw s g).2.2=true→0≤(bw s g).2.1∧(bw s g).2.1 < s.aL.length)
 sg:(aa s g).place=28∨(aa s g).place=29→(aa s g).aq.length=(ag s g).cases.length
 fr:(aa s g).place=30∨(aa s g).place=33→1≤(aa s g).k∧(aa s g).k≤(aa s g).aE.length∧(aa s g).aE.length≤100000∧aR s (aB (aa s g).aE ((aa s g).k - 1))=true
 sP:(aa s g).place=14→0≤(aa s g).param∧(aa s g).param < s.aL.length
 KF:(aa s g).place=32→0≤(aa s g).k∧(aa s g).k < (aa s g).order.length∧0≤aB (aa s g).order (aa s g).k∧aB (aa s g).order (aa s g).k < (aa s g).aq.length∧0≤aB (aa s g).aq (aB (aa s g).order (aa s g).k)∧aB (aa s g).aq (aB (aa s g).order (aa s g).k) < s.aL.length
 KG:(aa s g).place=34→0≤(aa s g).k∧(aa s g).k < (aa s g).order.length∧0≤aB (aa s g).order (aa s g).k∧aB (aa s g).order (aa s g).k < (aa s g).aq.length∧g < s.cache.length∧kr s∧aB (aa s g).aq (aB (aa s g).order (aa s g).k) < s.aL.length
theorem Dg {α:Type} (f:Gr→α) {s:ai} {g:Nat} {ba on:Int} (e:∀ (x:Gr) (a b c:Int),f { x with bS:=a,wi:=b,c7:=c }=f x) (e2:∀ (x:Gr) (p:Int),f { x with place:=p }=f x) (e3:∀ (x:Gr) (a b:Int),f { x with hold:=a,t:=b }=f x) (e4:∀ (x:Gr) (b:Bool),f { x with br:=b }=f x) (h:Nat):f (aa (cR s g ba on) h)=f (aa s h):=by
 unfold cR;simp only
 split
 ·have:=lW f (s:=bE s (aa s g).hold) (o:=g) (g:=h) (x:={ aa s g with hold:=-1,place:=ba }) (by rw [nZ (eU _ _)];exact (e2 { aa s g with hold:=-1,t:=(aa s g).t } ba).trans (e3 (aa s g) (-1) (aa s g).t));rw [this,nZ (eU _ _)]
 ·rw [yb f (fun x=>e2 x _),Bk f e];have h1:∀ h,f (aa (ah s g { aa s g with t:=s.step }) h)=f (aa s h):=fun h=>lW f (e3 (aa s g) (aa s g).hold s.step)
  have h2:=lW f (s:=ah s g { aa s g with t:=s.step }) (o:=(su s (aa s g).hold).g.toNat) (g:=h) (x:={ aa s (su s (aa s g).hold).g.toNat with br:=true }) (by rw [h1];exact e4 _ _);rw [h2,h1]
theorem Dh (s:ai) (g:Nat) (ba on:Int):(cR s g ba on).gs.length=s.gs.length:=by
 unfold cR;simp only
 split
 ·rw [bP,eU]
 ·rw [qz,qD,bP,bP]
theorem vQ (s:ai) (g:Nat):(cI s g).1.gs.length=s.gs.length:=by
 unfold cI;simp only;rw [bP,Gf]
theorem KH (s:ai) (g:Nat) (h:iG s g) (hk:(ag s g).kind=9) (e0:(aa s g).place=24) :
  Pure prog 87 [.agg (aC s),.c (nI g)] (.aU [.agg (aC (bn s g).1),.c (bI (bn s g).2)]):=by
 have hg:=h.co.lt;have hf:Few s:=h.fit.toAnd;have hb:=hf.1;have C0:=cO s g hg h.co.cJ;have K9:((ag s g).kind != 9)=false:=by rw [hk];rfl
 have aZ:¬ ((ag s g).kind≠9):=by omega
 have aj:bn s g=bn s g:=rfl
 conv at aj=>rhs;unfold bn;simp only;rw [if_neg aZ]
 have P:∀ c,((aa s g).place == c)=((24:Int) == c):=fun c=>by rw [e0]
 refine aA.intro func87 rfl rfl rfl (fun ok e=>?_);rw [if_pos e0] at aj;obtain ⟨k0,k1,kb,hm⟩:=h.lk (by omega);have D1:=Bj s g 25 hg hf k0 k1 kb hm;rw [aj]
 repeat (first | refine aM (P _) ?_ | refine au ?_ | intro _)
 exact az func87
theorem KI (s:ai) (g:Nat) (h:iG s g) (hk:(ag s g).kind=9) (e0:(aa s g).place=31) :
  Pure prog 87 [.agg (aC s),.c (nI g)] (.aU [.agg (aC (bn s g).1),.c (bI (bn s g).2)]):=by
 have hg:=h.co.lt;have hf:Few s:=h.fit.toAnd;have hb:=hf.1;have C0:=cO s g hg h.co.cJ;have K9:((ag s g).kind != 9)=false:=by rw [hk];rfl
 have aZ:¬ ((ag s g).kind≠9):=by omega
 have aj:bn s g=bn s g:=rfl
 conv at aj=>rhs;unfold bn;simp only;rw [if_neg aZ]
 have P:∀ c,((aa s g).place == c)=((31:Int) == c):=fun c=>by rw [e0]
 refine aA.intro func87 rfl rfl rfl (fun ok e=>?_);rw [av,av,av,av,av,av,av,av] at aj;rw [if_pos e0] at aj;obtain ⟨k0,k1,kb,hm⟩:=h.lk (by omega);have D1:=Bj s g 32 hg hf k0 k1 kb hm;rw [aj]
 repeat (first | refine aM (P _) ?_ | refine au ?_ | intro _)
 exact az func87
theorem KJ (s:ai) (g:Nat) (h:iG s g) (hk:(ag s g).kind=9) (e0:(aa s g).place=25) :
  Pure prog 87 [.agg (aC s),.c (nI g)] (.aU [.agg (aC (bn s g).1),.c (bI (bn s g).2)]):=by
 have hg:=h.co.lt;have hf:Few s:=h.fit.toAnd;have hb:=hf.1;have C0:=cO s g hg h.co.cJ;have K9:((ag s g).kind != 9)=false:=by rw [hk];rfl
 have aZ:¬ ((ag s g).kind≠9):=by omega
 have aj:bn s g=bn s g:=rfl
 conv at aj=>rhs;unfold bn;simp only;rw [if_neg aZ]
 have P:∀ c,((aa s g).place == c)=((25:Int) == c):=fun c=>by rw [e0]
 refine aA.intro func87 rfl rfl rfl (fun ok e=>?_);rw [av] at aj;rw [if_pos e0] at aj;have D1:=Kr s g (ag s g) (h.ha (by omega));rw [aj]
 repeat (first | refine aM (P _) ?_ | refine au ?_ | intro _)
 exact az func87
theorem KL (s:ai) (g:Nat) (h:iG s g) (hk:(ag s g).kind=9) (e0:(aa s g).place=26) :
  Pure prog 87 [.agg (aC s),.c (nI g)] (.aU [.agg (aC (bn s g).1),.c (bI (bn s g).2)]):=by
 have hg:=h.co.lt;have hf:Few s:=h.fit.toAnd;have hb:=hf.1;have C0:=cO s g hg h.co.cJ;have K9:((ag s g).kind != 9)=false:=by rw [hk];rfl
 have aZ:¬ ((ag s g).kind≠9):=by omega
 have aj:bn s g=bn s g:=rfl
 conv at aj=>rhs;unfold bn;simp only;rw [if_neg aZ]
 have P:∀ c,((aa s g).place == c)=((26:Int) == c):=fun c=>by rw [e0]
 refine aA.intro func87 rfl rfl rfl (fun ok e=>?_);rw [av,av] at aj;rw [if_pos e0] at aj;obtain ⟨hi,k0,k1⟩:=h.KB e0;have D1:=xW s g 25 27 hg hi h.fit;have D2:=ya (cR s g 25 27) g (by rw [Dh];exact hg) (by rw [Dh];exact hb) (fun _=>by rw [Dg (f:=Gr.k) (fun _ _ _ _=>rfl) (fun _ _=>rfl) (fun _ _ _=>rfl) (fun _ _=>rfl),Dg (f:=Gr.order) (fun _ _ _ _=>rfl) (fun _ _=>rfl) (fun _ _ _=>rfl) (fun _ _=>rfl)];exact ⟨k0,k1⟩);rw [aj]
 repeat (first | refine aM (P _) ?_ | refine au ?_ | intro _)
 exact az func87
theorem KM (s:ai) (g:Nat) (h:iG s g) (hk:(ag s g).kind=9) (e0:(aa s g).place=27) :
  Pure prog 87 [.agg (aC s),.c (nI g)] (.aU [.agg (aC (bn s g).1),.c (bI (bn s g).2)]):=by
 have hg:=h.co.lt;have hf:Few s:=h.fit.toAnd;have hb:=hf.1;have C0:=cO s g hg h.co.cJ;have K9:((ag s g).kind != 9)=false:=by rw [hk];rfl
 have aZ:¬ ((ag s g).kind≠9):=by omega
 have aj:bn s g=bn s g:=rfl
 conv at aj=>rhs;unfold bn;simp only;rw [if_neg aZ]
 have P:∀ c,((aa s g).place == c)=((27:Int) == c):=fun c=>by rw [e0]
 refine aA.intro func87 rfl rfl rfl (fun ok e=>?_);rw [av,av,av] at aj;rw [if_pos e0] at aj;have D1:=Ks s g (ag s g) (h.ha (by omega)) (h.KC e0);rw [aj]
 repeat (first | refine aM (P _) ?_ | refine au ?_ | intro _)
 exact az func87
theorem KO (s:ai) (g:Nat) (h:iG s g) (hk:(ag s g).kind=9) (e0:(aa s g).place=28) :
  Pure prog 87 [.agg (aC s),.c (nI g)] (.aU [.agg (aC (bn s g).1),.c (bI (bn s g).2)]):=by
 have hg:=h.co.lt;have hf:Few s:=h.fit.toAnd;have hb:=hf.1;have C0:=cO s g hg h.co.cJ;have K9:((ag s g).kind != 9)=false:=by rw [hk];rfl
 have aZ:¬ ((ag s g).kind≠9):=by omega
 have aj:bn s g=bn s g:=rfl
 conv at aj=>rhs;unfold bn;simp only;rw [if_neg aZ]
 have P:∀ c,((aa s g).place == c)=((28:Int) == c):=fun c=>by rw [e0]
 refine aA.intro func87 rfl rfl rfl (fun ok e=>?_);rw [av,av,av,av] at aj;rw [if_pos e0] at aj;obtain ⟨p1,p2,p3⟩:=h.KD e0;have D1:=Kt s g (ag s g) (h.ha (by omega)) p1 p2 p3 (h.sg (by omega));rw [aj]
 repeat (first | refine aM (P _) ?_ | refine au ?_ | intro _)
 exact az func87
theorem KP (s:ai) (g:Nat) (h:iG s g) (hk:(ag s g).kind=9) (e0:(aa s g).place=29) :
  Pure prog 87 [.agg (aC s),.c (nI g)] (.aU [.agg (aC (bn s g).1),.c (bI (bn s g).2)]):=by
 have hg:=h.co.lt;have hf:Few s:=h.fit.toAnd;have hb:=hf.1;have C0:=cO s g hg h.co.cJ;have K9:((ag s g).kind != 9)=false:=by rw [hk];rfl
 have aZ:¬ ((ag s g).kind≠9):=by omega
 have aj:bn s g=bn s g:=rfl
 conv at aj=>rhs;unfold bn;simp only;rw [if_neg aZ]
 have P:∀ c,((aa s g).place == c)=((29:Int) == c):=fun c=>by rw [e0]
 refine aA.intro func87 rfl rfl rfl (fun ok e=>?_);rw [av,av,av,av,av] at aj;rw [if_pos e0] at aj;have D1:=Ku s g (ag s g) (h.ha (by omega)) (h.sg (by omega));rw [aj]
 repeat (first | refine aM (P _) ?_ | refine au ?_ | intro _)
 exact az func87
theorem KQ (s:ai) (g:Nat) (h:iG s g) (hk:(ag s g).kind=9) (e0:(aa s g).place=14) :
  Pure prog 87 [.agg (aC s),.c (nI g)] (.aU [.agg (aC (bn s g).1),.c (bI (bn s g).2)]):=by
 have hg:=h.co.lt;have hf:Few s:=h.fit.toAnd;have hb:=hf.1;have C0:=cO s g hg h.co.cJ;have K9:((ag s g).kind != 9)=false:=by rw [hk];rfl
 have aZ:¬ ((ag s g).kind≠9):=by omega
 have aj:bn s g=bn s g:=rfl
 conv at aj=>rhs;unfold bn;simp only;rw [if_neg aZ]
 have P:∀ c,((aa s g).place == c)=((14:Int) == c):=fun c=>by rw [e0]
 refine aA.intro func87 rfl rfl rfl (fun ok e=>?_);rw [av,av,av,av,av,av,av] at aj;rw [if_pos e0] at aj;obtain ⟨p1,p2⟩:=h.sP e0;have D1:=Kw s g hg hb p1 p2;rw [aj]
 repeat (first | refine aM (P _) ?_ | refine au ?_ | intro _)
 exact az func87
theorem KS (s:ai) (g:Nat) (h:iG s g) (hk:(ag s g).kind=9) (e0:(aa s g).place=32) :
  Pure prog 87 [.agg (aC s),.c (nI g)] (.aU [.agg (aC (bn s g).1),.c (bI (bn s g).2)]):=by
 have hg:=h.co.lt;have hf:Few s:=h.fit.toAnd;have hb:=hf.1;have C0:=cO s g hg h.co.cJ;have K9:((ag s g).kind != 9)=false:=by rw [hk];rfl
 have aZ:¬ ((ag s g).kind≠9):=by omega
 have aj:bn s g=bn s g:=rfl
 conv at aj=>rhs;unfold bn;simp only;rw [if_neg aZ]
 have P:∀ c,((aa s g).place == c)=((32:Int) == c):=fun c=>by rw [e0]
 refine aA.intro func87 rfl rfl rfl (fun ok e=>?_);rw [av,av,av,av,av,av,av,av,av] at aj;rw [if_pos e0] at aj;obtain ⟨k0,k1,i0,i1,j0,j1⟩:=h.KF e0;have D1:=Kx s g hg h.fit k0 k1 i0 i1 j0 j1;rw [aj]
 repeat (first | refine aM (P _) ?_ | refine au ?_ | intro _)
 exact az func87
theorem KT (s:ai) (g:Nat) (h:iG s g) (hk:(ag s g).kind=9) (e0:(aa s g).place=34) :
  Pure prog 87 [.agg (aC s),.c (nI g)] (.aU [.agg (aC (bn s g).1),.c (bI (bn s g).2)]):=by
 have hg:=h.co.lt;have hf:Few s:=h.fit.toAnd;have hb:=hf.1;have C0:=cO s g hg h.co.cJ;have K9:((ag s g).kind != 9)=false:=by rw [hk];rfl
 have aZ:¬ ((ag s g).kind≠9):=by omega
 have aj:bn s g=bn s g:=rfl
 conv at aj=>rhs;unfold bn;simp only;rw [if_neg aZ]
 have P:∀ c,((aa s g).place == c)=((34:Int) == c):=fun c=>by rw [e0]
 refine aA.intro func87 rfl rfl rfl (fun ok e=>?_);rw [av,av,av,av,av,av,av,av,av,av,av] at aj;rw [if_pos e0] at aj;obtain ⟨k0,k1,i0,i1,hc,hp,j1⟩:=h.KG e0;have D1:=Ky s g hg h.fit k0 k1 i0 i1 hc hp j1;rw [aj]
 repeat (first | refine aM (P _) ?_ | refine au ?_ | intro _)
 exact az func87
theorem KU (s:ai) (g:Nat) (h:iG s g) (hk:(ag s g).kind=9) (e0:(aa s g).place=33) :
  Pure prog 87 [.agg (aC s),.c (nI g)] (.aU [.agg (aC (bn s g).1),.c (bI (bn s g).2)]):=by
 have hg:=h.co.lt;have hf:Few s:=h.fit.toAnd;have hb:=hf.1;have C0:=cO s g hg h.co.cJ;have K9:((ag s g).kind != 9)=false:=by rw [hk];rfl
 have aZ:¬ ((ag s g).kind≠9):=by omega
 have aj:bn s g=bn s g:=rfl
 conv at aj=>rhs;unfold bn;simp only;rw [if_neg aZ]
 have P:∀ c,((aa s g).place == c)=((33:Int) == c):=fun c=>by rw [e0]
 refine aA.intro func87 rfl rfl rfl (fun ok e=>?_);rw [av,av,av,av,av,av,av,av,av,av] at aj;rw [if_pos e0] at aj;obtain ⟨k0,k1,kb,hm⟩:=h.fr (by omega);have D1:=Df s g hg hf k0 k1 kb hm;have g1:g < (cI s g).1.gs.length:=by rw [vQ];exact hg
 have b1:(cI s g).1.gs.length≤100000:=by rw [vQ];exact hb
 cases bY:(cI s g).2 with
 | true =>
  rw [if_pos bY] at aj;rw [bY] at D1;rw [aj];generalize (cI s g).1=s1 at *
  repeat (first | refine aM (P _) ?_ | refine au ?_ | intro _)
  exact az func87
 | false =>
  rw [if_neg (by rw [bY];simp)] at aj;rw [bY] at D1;rw [aj];generalize (cI s g).1=s1 at *
  repeat (first | refine aM (P _) ?_ | refine aO (dX s1 g 34 g1 b1) ?_ | refine au ?_ | intro _)
  exact az func87
theorem KV (s:ai) (g:Nat) (h:iG s g) (hk:(ag s g).kind=9) (e0:(aa s g).place=30) :
  Pure prog 87 [.agg (aC s),.c (nI g)] (.aU [.agg (aC (bn s g).1),.c (bI (bn s g).2)]):=by
 have hg:=h.co.lt;have hf:Few s:=h.fit.toAnd;have hb:=hf.1;have C0:=cO s g hg h.co.cJ;have K9:((ag s g).kind != 9)=false:=by rw [hk];rfl
 have aZ:¬ ((ag s g).kind≠9):=by omega
 have aj:bn s g=bn s g:=rfl
 conv at aj=>rhs;unfold bn;simp only;rw [if_neg aZ]
 have P:∀ c,((aa s g).place == c)=((30:Int) == c):=fun c=>by rw [e0]
 refine aA.intro func87 rfl rfl rfl (fun ok e=>?_);rw [av,av,av,av,av,av] at aj;rw [if_pos e0] at aj;obtain ⟨k0,k1,kb,hm⟩:=h.fr (by omega);have D1:=Df s g hg hf k0 k1 kb hm;have g1:g < (cI s g).1.gs.length:=by rw [vQ];exact hg
 have b1:(cI s g).1.gs.length≤100000:=by rw [vQ];exact hb
 cases bY:(cI s g).2 with
 | true =>
  rw [if_pos bY] at aj;rw [bY] at D1;rw [aj];generalize (cI s g).1=s1 at *
  repeat (first | refine aM (P _) ?_ | refine au ?_ | intro _)
  exact az func87
 | false =>
  rw [if_neg (by rw [bY];simp)] at aj;rw [bY] at D1
  by_cases hc:(aa s g).res.code=0
  ·rw [if_pos hc] at aj;rw [aj];generalize (cI s g).1=s1 at *;have KW:((aa s g).res.code == 0)=true:=by simpa using hc
   repeat (first | refine aM (P _) ?_ | refine aO (dX s1 g 13 g1 b1) ?_ | refine au ?_ | intro _)
   exact az func87
  ·rw [if_neg hc] at aj;have KW:((aa s g).res.code == 0)=false:=by simpa using hc
   have CS:=Kv (aa s g).aq (Nat.le_trans (h.fit.sg g) (by omega))
   cases hs:j9 (aa s g).aq with
   | true =>
    rw [if_pos hs] at aj;rw [hs] at CS;rw [aj];generalize (cI s g).1=s1 at *
    repeat (first | refine aM (P _) ?_ | refine aO (dX s1 g 34 g1 b1) ?_ | refine au ?_ | intro _)
    exact az func87
   | false =>
    rw [if_neg (by rw [hs];simp)] at aj;rw [hs] at CS;rw [aj];generalize (cI s g).1=s1 at *
    repeat (first | refine aM (P _) ?_ | refine aO (sG s1 g g1 b1) ?_ | refine au ?_ | intro _)
    exact az func87
theorem KX (s:ai) (g:Nat) (h:iG s g) (hk:(ag s g).kind=9) (e0:(aa s g).place=13) :
  Pure prog 87 [.agg (aC s),.c (nI g)] (.aU [.agg (aC (bn s g).1),.c (bI (bn s g).2)]):=by
 have hg:=h.co.lt;have hf:Few s:=h.fit.toAnd;have hb:=hf.1;have C0:=cO s g hg h.co.cJ;have K9:((ag s g).kind != 9)=false:=by rw [hk];rfl
 have aZ:¬ ((ag s g).kind≠9):=by omega
 have aj:bn s g=bn s g:=rfl
 conv at aj=>rhs;unfold bn;simp only;rw [if_neg aZ]
 have P:∀ c,((aa s g).place == c)=((13:Int) == c):=fun c=>by rw [e0]
 refine aA.intro func87 rfl rfl rfl (fun ok e=>?_);rw [av,av,av,av,av,av,av,av,av,av,av,av] at aj;rw [if_pos (by omega)] at aj;have D1:=dY s g h.co;rw [aj]
 repeat (first | refine aM (P _) ?_ | refine au ?_ | intro _)
 exact az func87
theorem KY (s:ai) (g:Nat) (h:iG s g) (hk:(ag s g).kind=9) (e0:(aa s g).place=17) :
  Pure prog 87 [.agg (aC s),.c (nI g)] (.aU [.agg (aC (bn s g).1),.c (bI (bn s g).2)]):=by
 have hg:=h.co.lt;have hf:Few s:=h.fit.toAnd;have hb:=hf.1;have C0:=cO s g hg h.co.cJ;have K9:((ag s g).kind != 9)=false:=by rw [hk];rfl
 have aZ:¬ ((ag s g).kind≠9):=by omega
 have aj:bn s g=bn s g:=rfl
 conv at aj=>rhs;unfold bn;simp only;rw [if_neg aZ]
 have P:∀ c,((aa s g).place == c)=((17:Int) == c):=fun c=>by rw [e0]
 refine aA.intro func87 rfl rfl rfl (fun ok e=>?_);rw [av,av,av,av,av,av,av,av,av,av,av,av] at aj;rw [if_pos (by omega)] at aj;have D1:=dY s g h.co;rw [aj]
 repeat (first | refine aM (P _) ?_ | refine au ?_ | intro _)
 exact az func87
theorem KZ (s:ai) (g:Nat) (h:iG s g) (hk:(ag s g).kind=9) (e0:¬ ((aa s g).place=24∨(aa s g).place=25∨(aa s g).place=26∨(aa s g).place=27∨(aa s g).place=28∨(aa s g).place=29∨(aa s g).place=30∨(aa s g).place=14∨(aa s g).place=31∨(aa s g).place=32∨(aa s g).place=33∨(aa s g).place=34∨(aa s g).place=13∨(aa s g).place=17)) :
  Pure prog 87 [.agg (aC s),.c (nI g)] (.aU [.agg (aC (bn s g).1),.c (bI (bn s g).2)]):=by
 have hg:=h.co.lt;have hf:Few s:=h.fit.toAnd;have hb:=hf.1;have C0:=cO s g hg h.co.cJ;have K9:((ag s g).kind != 9)=false:=by rw [hk];rfl
 have aZ:¬ ((ag s g).kind≠9):=by omega
 have aj:bn s g=bn s g:=rfl
 conv at aj=>rhs;unfold bn;simp only;rw [if_neg aZ]
 refine aA.intro func87 rfl rfl rfl (fun ok e=>?_);rw [av,av,av,av,av,av,av,av,av,av,av,av,av] at aj;have Nc:((aa s g).place == 24)=false:=by simp;omega
 have Nd:((aa s g).place == 25)=false:=by simp;omega
 have Nf:((aa s g).place == 26)=false:=by simp;omega
 have Ng:((aa s g).place == 27)=false:=by simp;omega
 have Nh:((aa s g).place == 28)=false:=by simp;omega
 have Ni:((aa s g).place == 29)=false:=by simp;omega
 have Nj:((aa s g).place == 30)=false:=by simp;omega
 have Bb:((aa s g).place == 14)=false:=by simp;omega
 have Nk:((aa s g).place == 31)=false:=by simp;omega
 have Nl:((aa s g).place == 32)=false:=by simp;omega
 have Nm:((aa s g).place == 33)=false:=by simp;omega
 have Nn:((aa s g).place == 34)=false:=by simp;omega
 have No:((aa s g).place == 13)=false:=by simp;omega
 have Np:((aa s g).place == 17)=false:=by simp;omega
 rw [aj]
 repeat (first | refine au ?_ | intro _)
 exact az func87
theorem K1 (s:ai) (g:Nat) (h:iG s g) :
  Pure prog 87 [.agg (aC s),.c (nI g)] (.aU [.agg (aC (bn s g).1),.c (bI (bn s g).2)]):=by
 by_cases hk:(ag s g).kind=9
 case neg =>
  have hg:=h.co.lt;have C0:=cO s g hg h.co.cJ;refine aA.intro func87 rfl rfl rfl (fun ok e=>?_);have K9:((ag s g).kind != 9)=true:=by simp;omega
  have er:bn s g=(s,false):=by unfold bn;simp only;rw [if_pos (by omega)]
  rw [er]
  repeat (first | refine au ?_ | intro _)
  exact az func87
 case pos =>
  by_cases tF:(aa s g).place=24
  ·exact KH s g h hk tF
  by_cases tG:(aa s g).place=25
  ·exact KJ s g h hk tG
  by_cases tH:(aa s g).place=26
  ·exact KL s g h hk tH
  by_cases tI:(aa s g).place=27
  ·exact KM s g h hk tI
  by_cases tJ:(aa s g).place=28
  ·exact KO s g h hk tJ
  by_cases tK:(aa s g).place=29
  ·exact KP s g h hk tK
  by_cases tM:(aa s g).place=30
  ·exact KV s g h hk tM
  by_cases gU:(aa s g).place=14
  ·exact KQ s g h hk gU
  by_cases qP:(aa s g).place=31
  ·exact KI s g h hk qP
  by_cases tN:(aa s g).place=32
  ·exact KS s g h hk tN
  by_cases tO:(aa s g).place=33
  ·exact KU s g h hk tO
  by_cases tS:(aa s g).place=34
  ·exact KT s g h hk tS
  by_cases oQ:(aa s g).place=13
  ·exact KX s g h hk oQ
  by_cases n9:(aa s g).place=17
  ·exact KY s g h hk n9
  exact KZ s g h hk (by omega)
end Fl
end Go.Proofs.YtgjpdogjekmemaaGreat
