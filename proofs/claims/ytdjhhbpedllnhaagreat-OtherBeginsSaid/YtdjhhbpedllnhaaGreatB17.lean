/-
  What the laws need, part B17.
  Conditions: none.
-/
import Derived.Test.YtdjhhbpedllnhaaGreatB16
set_option linter.unusedVariables false
set_option linter.unusedSimpArgs false
set_option linter.unnecessarySimpa false
set_option maxHeartbeats 2000000
namespace Go.Proofs.YtdjhhbpedllnhaaGreat
open Go.RowKit
namespace Fl
open Sx Go.Proofs.Tryz
set_option maxRecDepth 100000
theorem BP (s:ah) (g:Nat) (p:Int):(Sx.next s g p).gs.length=s.gs.length:=by
 unfold Sx.next;simp only;split <;> rw [cD]
theorem TS (s:ah) (g:Nat) (hg:g < s.gs.length) (hb:Fit s) (k0:0≤(aa s g).k) (k1:(aa s g).k < (aa s g).order.length) (i0:0≤ax (aa s g).order (aa s g).k) (i1:ax (aa s g).order (aa s g).k < (aa s g).aq.length)
  (hc:g < s.cache.length) (hp:ou s) (j1:ax (aa s g).aq (ax (aa s g).order (aa s g).k) < s.aA.length) :
  Pure prog 167 [.agg (aC s),.c (nI g)] (.agg (aC (iz s g))):=by
 have I1:=ov k0 k1;have I2:=ov i0 i1;have kb:=hb.od g;have wb:=hb.sg g;have ak:iz s g=iz s g:=rfl
 conv at ak=>rhs;unfold iz;simp only
 generalize ax (aa s g).order (aa s g).k=i at *;have DG:0≤ax (aa s g).aq i→Pure prog 217 [.agg (aC s),.c (nI g),.c (nI (ax (aa s g).aq i))] (.agg (aC (Sx.cz s g (ax (aa s g).aq i)))):=fun h=>Kp s g _ hc hp h j1 hb.1.2.2
 have e1:([] ++ List.map (fun n=>[nI n]) (aa s g).aq).set i.toNat [nI (-1)]=((aa s g).aq.set i.toNat (-1)).map (fun n=>[nI n]):=by simp
 have wl:i < (([] ++ List.map (fun n=>[nI n]) (aa s g).aq).length:Int):=by simp;omega
 have wn:i.toNat < ([] ++ List.map (fun n=>[nI n]) (aa s g).aq).length:=by simp;omega
 have BQ:((aa s g).k + 1 == ((aa s g).order.length:Int))=decide ((aa s g).k + 1=(aa s g).order.length):=rfl;refine an.intro func167 rfl rfl rfl (fun ok e=>?_);have key:∀ s1:ah,s1.gs=s.gs→∃ (g1:g < s1.gs.length) (b1:s1.gs.length≤100000) (eg:aa s1 g=aa s g),True:=fun s1 h=>⟨by rw [h];exact hg,by rw [h];exact hb.1.1,sY h g,trivial⟩
 by_cases tE:0≤ax (aa s g).aq i
 ·rw [if_pos tE] at ak;have TT:(decide (ax (aa s g).aq i ≥ 0))=true:=decide_eq_true tE;have D0:=DG tE;obtain ⟨g1,b1,eg,-⟩:=key (Sx.cz s g (ax (aa s g).aq i)) (zf _ _ _);generalize Sx.cz s g (ax (aa s g).aq i)=s1 at *
  by_cases hl:(aa s g).k + 1=(aa s g).order.length
  ·rw [if_pos hl] at ak;rw [decide_eq_true hl] at BQ;rw [ak];have D2:=cV s1 g { aa s g with aq:=[] } g1 b1;have kx:(aa (ai s1 g { aa s g with aq:=[] }) g)={ aa s g with aq:=[] }:=by unfold aa ai;simp [g1]
   have D3:=qt (ai s1 g { aa s g with aq:=[] }) g 34 (by rw [cD];exact g1) (by rw [cD];exact b1) (by rw [kx];exact k0) (by rw [kx];simp only;omega);have D4:=yG (Sx.next (ai s1 g { aa s g with aq:=[] }) g 34) g (by rw [BP,cD];exact g1) (by rw [BP,cD];exact b1)
   repeat (first | refine ay ?_ | intro _)
   refine J.draw (by kernel_rfl) rfl ?_;refine JW.base (some 8) ?_;refine tk 0 ?_;refine tk 1 ?_;refine tk 2 ?_;refine tk 3 ?_;refine tk 4 ?_;refine JD.take 5 rfl rfl (by kernel_rfl) rfl (qb rfl) (Qt.cI rfl rfl i0 I2) rfl ?_;refine tk 6 ?_;refine dA 7 (D0) ?_;refine jt 8 rfl rfl (Ld.bq rfl rfl rfl (by exact rfl) (by exact rfl)) (fun _=>?_);refine bR ?_
   repeat (first | (refine K.bi ?_;refine JO.ld (Ld.cy (qb rfl) rfl rfl .read (by (simp;omega))) rfl (fun _=>?_)) | refine ay ?_ | intro _)
   repeat (first | (refine K.store ?_;refine JO.ld (Ld.eK rfl rfl rfl (by exact rfl) (by exact wn)) rfl (fun _=>?_)) | (refine K.indexAddr ?_;refine jq rfl rfl rfl (Qt.aI rfl rfl (by omega) (by omega)) ?_))
   refine JO.nil ?_;refine J.mT 0 1 22 rfl rfl rfl ?_
   repeat (first | refine kN (D2) ?_ | refine gn ?_)
   exact aD func167
  ·rw [if_neg hl] at ak;rw [decide_eq_false hl] at BQ;rw [ak];have D2:=cV s1 g { aa s g with aq:=(aa s g).aq.set i.toNat (-1) } g1 b1;have kx:(aa (ai s1 g { aa s g with aq:=(aa s g).aq.set i.toNat (-1) }) g)={ aa s g with aq:=(aa s g).aq.set i.toNat (-1) }:=by unfold aa ai;simp [g1]
   have D3:=qt (ai s1 g { aa s g with aq:=(aa s g).aq.set i.toNat (-1) }) g 34 (by rw [cD];exact g1) (by rw [cD];exact b1) (by rw [kx];exact k0) (by rw [kx];simp only;omega)
   repeat (first | refine ay ?_ | intro _)
   refine J.draw (by kernel_rfl) rfl ?_;refine JW.base (some 8) ?_;refine tk 0 ?_;refine tk 1 ?_;refine tk 2 ?_;refine tk 3 ?_;refine tk 4 ?_;refine JD.take 5 rfl rfl (by kernel_rfl) rfl (qb rfl) (Qt.cI rfl rfl i0 I2) rfl ?_;refine tk 6 ?_;refine dA 7 (D0) ?_;refine jt 8 rfl rfl (Ld.bq rfl rfl rfl (by exact rfl) (by exact rfl)) (fun _=>?_);refine bR ?_
   repeat (first | (refine K.bi ?_;refine JO.ld (Ld.cy (qb rfl) rfl rfl .read (by (simp;omega))) rfl (fun _=>?_)) | refine ay ?_ | intro _)
   repeat (first | (refine K.store ?_;refine JO.ld (Ld.eK rfl rfl rfl (by exact rfl) (by exact wn)) rfl (fun _=>?_)) | (refine K.indexAddr ?_;refine jq rfl rfl rfl (Qt.aI rfl rfl (by omega) (by omega)) ?_))
   refine JO.nil ?_;refine J.mT 0 1 22 rfl rfl rfl ?_;rw [show (A.v (.int .i64 (-1)))=nI (-1) from rfl,e1]
   repeat (refine gn ?_)
   exact aD func167
 ·rw [if_neg tE] at ak;have TT:(decide (ax (aa s g).aq i ≥ 0))=false:=decide_eq_false tE
  by_cases hl:(aa s g).k + 1=(aa s g).order.length
  ·rw [if_pos hl] at ak;rw [decide_eq_true hl] at BQ;rw [ak];have D2:=cV s g { aa s g with aq:=[] } hg hb.1.1;have kx:(aa (ai s g { aa s g with aq:=[] }) g)={ aa s g with aq:=[] }:=by unfold aa ai;simp [hg]
   have D3:=qt (ai s g { aa s g with aq:=[] }) g 34 (by rw [cD];exact hg) (by rw [cD];exact hb.1.1) (by rw [kx];exact k0) (by rw [kx];simp only;omega);have D4:=yG (Sx.next (ai s g { aa s g with aq:=[] }) g 34) g (by rw [BP,cD];exact hg) (by rw [BP,cD];exact hb.1.1)
   repeat (first | (refine K.bi ?_;refine JO.ld (Ld.cy (qb rfl) rfl rfl .read (by (simp;omega))) rfl (fun _=>?_)) | refine ay ?_ | intro _)
   repeat (first | (refine K.store ?_;refine JO.ld (Ld.eK rfl rfl rfl (by exact rfl) (by exact wn)) rfl (fun _=>?_)) | (refine K.indexAddr ?_;refine jq rfl rfl rfl (Qt.aI rfl rfl (by omega) (by omega)) ?_))
   refine JO.nil ?_;refine J.mT 0 1 22 rfl rfl rfl ?_
   repeat (first | refine kN (D2) ?_ | refine gn ?_)
   exact aD func167
  ·rw [if_neg hl] at ak;rw [decide_eq_false hl] at BQ;rw [ak];have D2:=cV s g { aa s g with aq:=(aa s g).aq.set i.toNat (-1) } hg hb.1.1;have kx:(aa (ai s g { aa s g with aq:=(aa s g).aq.set i.toNat (-1) }) g)={ aa s g with aq:=(aa s g).aq.set i.toNat (-1) }:=by unfold aa ai;simp [hg]
   have D3:=qt (ai s g { aa s g with aq:=(aa s g).aq.set i.toNat (-1) }) g 34 (by rw [cD];exact hg) (by rw [cD];exact hb.1.1) (by rw [kx];exact k0) (by rw [kx];simp only;omega)
   repeat (first | (refine K.bi ?_;refine JO.ld (Ld.cy (qb rfl) rfl rfl .read (by (simp;omega))) rfl (fun _=>?_)) | refine ay ?_ | intro _)
   repeat (first | (refine K.store ?_;refine JO.ld (Ld.eK rfl rfl rfl (by exact rfl) (by exact wn)) rfl (fun _=>?_)) | (refine K.indexAddr ?_;refine jq rfl rfl rfl (Qt.aI rfl rfl (by omega) (by omega)) ?_))
   refine JO.nil ?_;refine J.mT 0 1 22 rfl rfl rfl ?_;rw [show (A.v (.int .i64 (-1)))=nI (-1) from rfl,e1]
   repeat (refine gn ?_)
   exact aD func167
end Fl
open Go.RowKit
namespace Fl
open Sx Go.Proofs.Tryz
set_option maxRecDepth 100000
structure j5 (s:ah) (g:Nat):Prop where
 co:wJ s g
 fit:Fit s
 lk:(aa s g).place=24∨(aa s g).place=31→0≤(aa s g).k∧(aa s g).k < (aa s g).aB.length∧(aa s g).aB.length≤100000∧aT s (ax (aa s g).aB (aa s g).k)=true
 ha:(aa s g).place=25∨(aa s g).place=27∨(aa s g).place=28∨(aa s g).place=29→zz s g (ag s g)
 BR:(aa s g).place=26→dK s (aa s g).hold∧0≤(aa s g).k∧(aa s g).k < (aa s g).order.length
 TU:(aa s g).place=27→dK s (aa s g).hold
 zB:(aa s g).place=28→ou s∧g < s.cache.length∧((bn s g).2.2=true→0≤(bn s g).2.1∧(bn s g).2.1 < s.aA.length)
 sg:(aa s g).place=28∨(aa s g).place=29→(aa s g).aq.length=(ag s g).cases.length
 fr:(aa s g).place=30∨(aa s g).place=33→1≤(aa s g).k∧(aa s g).k≤(aa s g).aB.length∧(aa s g).aB.length≤100000∧aT s (ax (aa s g).aB ((aa s g).k - 1))=true
 pE:(aa s g).place=14→0≤(aa s g).param∧(aa s g).param < s.aA.length
 BU:(aa s g).place=32→0≤(aa s g).k∧(aa s g).k < (aa s g).order.length∧0≤ax (aa s g).order (aa s g).k∧ax (aa s g).order (aa s g).k < (aa s g).aq.length∧0≤ax (aa s g).aq (ax (aa s g).order (aa s g).k)∧ax (aa s g).aq (ax (aa s g).order (aa s g).k) < s.aA.length
 zC:(aa s g).place=34→0≤(aa s g).k∧(aa s g).k < (aa s g).order.length∧0≤ax (aa s g).order (aa s g).k∧ax (aa s g).order (aa s g).k < (aa s g).aq.length∧g < s.cache.length∧ou s∧ax (aa s g).aq (ax (aa s g).order (aa s g).k) < s.aA.length
theorem Fv {α:Type} (f:Gr→α) {s:ah} {g:Nat} {ba on:Int} (e:∀ (x:Gr) (a b c:Int),f { x with bT:=a,wi:=b,dm:=c }=f x) (e2:∀ (x:Gr) (p:Int),f { x with place:=p }=f x) (e3:∀ (x:Gr) (a b:Int),f { x with hold:=a,t:=b }=f x) (e4:∀ (x:Gr) (b:Bool),f { x with bG:=b }=f x) (h:Nat):f (aa (cT s g ba on) h)=f (aa s h):=by
 unfold cT;simp only
 split
 ·have:=qu f (s:=aZ s (aa s g).hold) (o:=g) (g:=h) (x:={ aa s g with hold:=-1,place:=ba }) (by rw [sY (fR _ _)];exact (e2 { aa s g with hold:=-1,t:=(aa s g).t } ba).trans (e3 (aa s g) (-1) (aa s g).t));rw [this,sY (fR _ _)]
 ·rw [Ft f (fun x=>e2 x _),KI f e];have h1:∀ h,f (aa (ai s g { aa s g with t:=s.step }) h)=f (aa s h):=fun h=>qu f (e3 (aa s g) (aa s g).hold s.step)
  have h2:=qu f (s:=ai s g { aa s g with t:=s.step }) (o:=(su s (aa s g).hold).g.toNat) (g:=h) (x:={ aa s (su s (aa s g).hold).g.toNat with bG:=true }) (by rw [h1];exact e4 _ _);rw [h2,h1]
theorem Fx (s:ah) (g:Nat) (ba on:Int):(cT s g ba on).gs.length=s.gs.length:=by
 unfold cT;simp only
 split
 ·rw [cD,fR]
 ·rw [wK,wL,cD,cD]
theorem BV (s:ah) (g:Nat):(Sx.ck s g).1.gs.length=s.gs.length:=by
 unfold Sx.ck;simp only;rw [cD,SX]
theorem TV (s:ah) (g:Nat) (h:j5 s g) (hk:(ag s g).kind=9) (e0:(aa s g).place=24) :
  Pure prog 91 [.agg (aC s),.c (nI g)] (.bp [.agg (aC (aR s g).1),.c (bI (aR s g).2)]):=by
 have hg:=h.co.lt;have hf:Few s:=h.fit.toAnd;have hb:=hf.1;have C0:=dI s g hg h.co.dD;have K9:((ag s g).kind != 9)=false:=by rw [hk];rfl
 have bQ:¬ ((ag s g).kind≠9):=by omega
 have ak:aR s g=aR s g:=rfl
 conv at ak=>rhs;unfold aR;simp only;rw [if_neg bQ]
 have P:∀ c,((aa s g).place == c)=((24:Int) == c):=fun c=>by rw [e0]
 refine an.intro func91 rfl rfl rfl (fun ok e=>?_);rw [if_pos e0] at ak;obtain ⟨k0,k1,kb,hm⟩:=h.lk (by omega);have D1:=KH s g 25 hg hf k0 k1 kb hm;rw [ak]
 repeat (first | refine aQ (P _) ?_ | refine ay ?_ | intro _)
 exact aD func91
theorem TW (s:ah) (g:Nat) (h:j5 s g) (hk:(ag s g).kind=9) (e0:(aa s g).place=31) :
  Pure prog 91 [.agg (aC s),.c (nI g)] (.bp [.agg (aC (aR s g).1),.c (bI (aR s g).2)]):=by
 have hg:=h.co.lt;have hf:Few s:=h.fit.toAnd;have hb:=hf.1;have C0:=dI s g hg h.co.dD;have K9:((ag s g).kind != 9)=false:=by rw [hk];rfl
 have bQ:¬ ((ag s g).kind≠9):=by omega
 have ak:aR s g=aR s g:=rfl
 conv at ak=>rhs;unfold aR;simp only;rw [if_neg bQ]
 have P:∀ c,((aa s g).place == c)=((31:Int) == c):=fun c=>by rw [e0]
 refine an.intro func91 rfl rfl rfl (fun ok e=>?_);rw [az,az,az,az,az,az,az,az] at ak;rw [if_pos e0] at ak;obtain ⟨k0,k1,kb,hm⟩:=h.lk (by omega);have D1:=KH s g 32 hg hf k0 k1 kb hm;rw [ak]
 repeat (first | refine aQ (P _) ?_ | refine ay ?_ | intro _)
 exact aD func91
theorem TZ (s:ah) (g:Nat) (h:j5 s g) (hk:(ag s g).kind=9) (e0:(aa s g).place=25) :
  Pure prog 91 [.agg (aC s),.c (nI g)] (.bp [.agg (aC (aR s g).1),.c (bI (aR s g).2)]):=by
 have hg:=h.co.lt;have hf:Few s:=h.fit.toAnd;have hb:=hf.1;have C0:=dI s g hg h.co.dD;have K9:((ag s g).kind != 9)=false:=by rw [hk];rfl
 have bQ:¬ ((ag s g).kind≠9):=by omega
 have ak:aR s g=aR s g:=rfl
 conv at ak=>rhs;unfold aR;simp only;rw [if_neg bQ]
 have P:∀ c,((aa s g).place == c)=((25:Int) == c):=fun c=>by rw [e0]
 refine an.intro func91 rfl rfl rfl (fun ok e=>?_);rw [az] at ak;rw [if_pos e0] at ak;have D1:=TH s g (ag s g) (h.ha (by omega));rw [ak]
 repeat (first | refine aQ (P _) ?_ | refine ay ?_ | intro _)
 exact aD func91
theorem T0 (s:ah) (g:Nat) (h:j5 s g) (hk:(ag s g).kind=9) (e0:(aa s g).place=26) :
  Pure prog 91 [.agg (aC s),.c (nI g)] (.bp [.agg (aC (aR s g).1),.c (bI (aR s g).2)]):=by
 have hg:=h.co.lt;have hf:Few s:=h.fit.toAnd;have hb:=hf.1;have C0:=dI s g hg h.co.dD;have K9:((ag s g).kind != 9)=false:=by rw [hk];rfl
 have bQ:¬ ((ag s g).kind≠9):=by omega
 have ak:aR s g=aR s g:=rfl
 conv at ak=>rhs;unfold aR;simp only;rw [if_neg bQ]
 have P:∀ c,((aa s g).place == c)=((26:Int) == c):=fun c=>by rw [e0]
 refine an.intro func91 rfl rfl rfl (fun ok e=>?_);rw [az,az] at ak;rw [if_pos e0] at ak;obtain ⟨hi,k0,k1⟩:=h.BR e0;have D1:=Fi s g 25 27 hg hi h.fit;have D2:=Fs (cT s g 25 27) g (by rw [Fx];exact hg) (by rw [Fx];exact hb) (fun _=>by rw [Fv (f:=Gr.k) (fun _ _ _ _=>rfl) (fun _ _=>rfl) (fun _ _ _=>rfl) (fun _ _=>rfl),Fv (f:=Gr.order) (fun _ _ _ _=>rfl) (fun _ _=>rfl) (fun _ _ _=>rfl) (fun _ _=>rfl)];exact ⟨k0,k1⟩);rw [ak]
 repeat (first | refine aQ (P _) ?_ | refine ay ?_ | intro _)
 exact aD func91
theorem T2 (s:ah) (g:Nat) (h:j5 s g) (hk:(ag s g).kind=9) (e0:(aa s g).place=27) :
  Pure prog 91 [.agg (aC s),.c (nI g)] (.bp [.agg (aC (aR s g).1),.c (bI (aR s g).2)]):=by
 have hg:=h.co.lt;have hf:Few s:=h.fit.toAnd;have hb:=hf.1;have C0:=dI s g hg h.co.dD;have K9:((ag s g).kind != 9)=false:=by rw [hk];rfl
 have bQ:¬ ((ag s g).kind≠9):=by omega
 have ak:aR s g=aR s g:=rfl
 conv at ak=>rhs;unfold aR;simp only;rw [if_neg bQ]
 have P:∀ c,((aa s g).place == c)=((27:Int) == c):=fun c=>by rw [e0]
 refine an.intro func91 rfl rfl rfl (fun ok e=>?_);rw [az,az,az] at ak;rw [if_pos e0] at ak;have D1:=TI s g (ag s g) (h.ha (by omega)) (h.TU e0);rw [ak]
 repeat (first | refine aQ (P _) ?_ | refine ay ?_ | intro _)
 exact aD func91
theorem T3 (s:ah) (g:Nat) (h:j5 s g) (hk:(ag s g).kind=9) (e0:(aa s g).place=28) :
  Pure prog 91 [.agg (aC s),.c (nI g)] (.bp [.agg (aC (aR s g).1),.c (bI (aR s g).2)]):=by
 have hg:=h.co.lt;have hf:Few s:=h.fit.toAnd;have hb:=hf.1;have C0:=dI s g hg h.co.dD;have K9:((ag s g).kind != 9)=false:=by rw [hk];rfl
 have bQ:¬ ((ag s g).kind≠9):=by omega
 have ak:aR s g=aR s g:=rfl
 conv at ak=>rhs;unfold aR;simp only;rw [if_neg bQ]
 have P:∀ c,((aa s g).place == c)=((28:Int) == c):=fun c=>by rw [e0]
 refine an.intro func91 rfl rfl rfl (fun ok e=>?_);rw [az,az,az,az] at ak;rw [if_pos e0] at ak;obtain ⟨p1,p2,p3⟩:=h.zB e0;have D1:=TJ s g (ag s g) (h.ha (by omega)) p1 p2 p3 (h.sg (by omega));rw [ak]
 repeat (first | refine aQ (P _) ?_ | refine ay ?_ | intro _)
 exact aD func91
theorem T4 (s:ah) (g:Nat) (h:j5 s g) (hk:(ag s g).kind=9) (e0:(aa s g).place=29) :
  Pure prog 91 [.agg (aC s),.c (nI g)] (.bp [.agg (aC (aR s g).1),.c (bI (aR s g).2)]):=by
 have hg:=h.co.lt;have hf:Few s:=h.fit.toAnd;have hb:=hf.1;have C0:=dI s g hg h.co.dD;have K9:((ag s g).kind != 9)=false:=by rw [hk];rfl
 have bQ:¬ ((ag s g).kind≠9):=by omega
 have ak:aR s g=aR s g:=rfl
 conv at ak=>rhs;unfold aR;simp only;rw [if_neg bQ]
 have P:∀ c,((aa s g).place == c)=((29:Int) == c):=fun c=>by rw [e0]
 refine an.intro func91 rfl rfl rfl (fun ok e=>?_);rw [az,az,az,az,az] at ak;rw [if_pos e0] at ak;have D1:=TK s g (ag s g) (h.ha (by omega)) (h.sg (by omega));rw [ak]
 repeat (first | refine aQ (P _) ?_ | refine ay ?_ | intro _)
 exact aD func91
theorem T5 (s:ah) (g:Nat) (h:j5 s g) (hk:(ag s g).kind=9) (e0:(aa s g).place=14) :
  Pure prog 91 [.agg (aC s),.c (nI g)] (.bp [.agg (aC (aR s g).1),.c (bI (aR s g).2)]):=by
 have hg:=h.co.lt;have hf:Few s:=h.fit.toAnd;have hb:=hf.1;have C0:=dI s g hg h.co.dD;have K9:((ag s g).kind != 9)=false:=by rw [hk];rfl
 have bQ:¬ ((ag s g).kind≠9):=by omega
 have ak:aR s g=aR s g:=rfl
 conv at ak=>rhs;unfold aR;simp only;rw [if_neg bQ]
 have P:∀ c,((aa s g).place == c)=((14:Int) == c):=fun c=>by rw [e0]
 refine an.intro func91 rfl rfl rfl (fun ok e=>?_);rw [az,az,az,az,az,az,az] at ak;rw [if_pos e0] at ak;obtain ⟨p1,p2⟩:=h.pE e0;have D1:=TN s g hg hb p1 p2;rw [ak]
 repeat (first | refine aQ (P _) ?_ | refine ay ?_ | intro _)
 exact aD func91
theorem T6 (s:ah) (g:Nat) (h:j5 s g) (hk:(ag s g).kind=9) (e0:(aa s g).place=32) :
  Pure prog 91 [.agg (aC s),.c (nI g)] (.bp [.agg (aC (aR s g).1),.c (bI (aR s g).2)]):=by
 have hg:=h.co.lt;have hf:Few s:=h.fit.toAnd;have hb:=hf.1;have C0:=dI s g hg h.co.dD;have K9:((ag s g).kind != 9)=false:=by rw [hk];rfl
 have bQ:¬ ((ag s g).kind≠9):=by omega
 have ak:aR s g=aR s g:=rfl
 conv at ak=>rhs;unfold aR;simp only;rw [if_neg bQ]
 have P:∀ c,((aa s g).place == c)=((32:Int) == c):=fun c=>by rw [e0]
 refine an.intro func91 rfl rfl rfl (fun ok e=>?_);rw [az,az,az,az,az,az,az,az,az] at ak;rw [if_pos e0] at ak;obtain ⟨k0,k1,i0,i1,j0,j1⟩:=h.BU e0;have D1:=TO s g hg h.fit k0 k1 i0 i1 j0 j1;rw [ak]
 repeat (first | refine aQ (P _) ?_ | refine ay ?_ | intro _)
 exact aD func91
theorem T7 (s:ah) (g:Nat) (h:j5 s g) (hk:(ag s g).kind=9) (e0:(aa s g).place=34) :
  Pure prog 91 [.agg (aC s),.c (nI g)] (.bp [.agg (aC (aR s g).1),.c (bI (aR s g).2)]):=by
 have hg:=h.co.lt;have hf:Few s:=h.fit.toAnd;have hb:=hf.1;have C0:=dI s g hg h.co.dD;have K9:((ag s g).kind != 9)=false:=by rw [hk];rfl
 have bQ:¬ ((ag s g).kind≠9):=by omega
 have ak:aR s g=aR s g:=rfl
 conv at ak=>rhs;unfold aR;simp only;rw [if_neg bQ]
 have P:∀ c,((aa s g).place == c)=((34:Int) == c):=fun c=>by rw [e0]
 refine an.intro func91 rfl rfl rfl (fun ok e=>?_);rw [az,az,az,az,az,az,az,az,az,az,az] at ak;rw [if_pos e0] at ak;obtain ⟨k0,k1,i0,i1,hc,hp,j1⟩:=h.zC e0;have D1:=TS s g hg h.fit k0 k1 i0 i1 hc hp j1;rw [ak]
 repeat (first | refine aQ (P _) ?_ | refine ay ?_ | intro _)
 exact aD func91
theorem T8 (s:ah) (g:Nat) (h:j5 s g) (hk:(ag s g).kind=9) (e0:(aa s g).place=33) :
  Pure prog 91 [.agg (aC s),.c (nI g)] (.bp [.agg (aC (aR s g).1),.c (bI (aR s g).2)]):=by
 have hg:=h.co.lt;have hf:Few s:=h.fit.toAnd;have hb:=hf.1;have C0:=dI s g hg h.co.dD;have K9:((ag s g).kind != 9)=false:=by rw [hk];rfl
 have bQ:¬ ((ag s g).kind≠9):=by omega
 have ak:aR s g=aR s g:=rfl
 conv at ak=>rhs;unfold aR;simp only;rw [if_neg bQ]
 have P:∀ c,((aa s g).place == c)=((33:Int) == c):=fun c=>by rw [e0]
 refine an.intro func91 rfl rfl rfl (fun ok e=>?_);rw [az,az,az,az,az,az,az,az,az,az] at ak;rw [if_pos e0] at ak;obtain ⟨k0,k1,kb,hm⟩:=h.fr (by omega);have D1:=KM s g hg hf k0 k1 kb hm;have g1:g < (Sx.ck s g).1.gs.length:=by rw [BV];exact hg
 have b1:(Sx.ck s g).1.gs.length≤100000:=by rw [BV];exact hb
 cases cG:(Sx.ck s g).2 with
 | true =>
  rw [if_pos cG] at ak;rw [cG] at D1;rw [ak];generalize (Sx.ck s g).1=s1 at *
  repeat (first | refine aQ (P _) ?_ | refine ay ?_ | intro _)
  exact aD func91
 | false =>
  rw [if_neg (by rw [cG];simp)] at ak;rw [cG] at D1;rw [ak];generalize (Sx.ck s g).1=s1 at *
  repeat (first | refine aQ (P _) ?_ | refine aX (fQ s1 g 34 g1 b1) ?_ | refine ay ?_ | intro _)
  exact aD func91
theorem T9 (s:ah) (g:Nat) (h:j5 s g) (hk:(ag s g).kind=9) (e0:(aa s g).place=30) :
  Pure prog 91 [.agg (aC s),.c (nI g)] (.bp [.agg (aC (aR s g).1),.c (bI (aR s g).2)]):=by
 have hg:=h.co.lt;have hf:Few s:=h.fit.toAnd;have hb:=hf.1;have C0:=dI s g hg h.co.dD;have K9:((ag s g).kind != 9)=false:=by rw [hk];rfl
 have bQ:¬ ((ag s g).kind≠9):=by omega
 have ak:aR s g=aR s g:=rfl
 conv at ak=>rhs;unfold aR;simp only;rw [if_neg bQ]
 have P:∀ c,((aa s g).place == c)=((30:Int) == c):=fun c=>by rw [e0]
 refine an.intro func91 rfl rfl rfl (fun ok e=>?_);rw [az,az,az,az,az,az] at ak;rw [if_pos e0] at ak;obtain ⟨k0,k1,kb,hm⟩:=h.fr (by omega);have D1:=KM s g hg hf k0 k1 kb hm;have g1:g < (Sx.ck s g).1.gs.length:=by rw [BV];exact hg
 have b1:(Sx.ck s g).1.gs.length≤100000:=by rw [BV];exact hb
 cases cG:(Sx.ck s g).2 with
 | true =>
  rw [if_pos cG] at ak;rw [cG] at D1;rw [ak];generalize (Sx.ck s g).1=s1 at *
  repeat (first | refine aQ (P _) ?_ | refine ay ?_ | intro _)
  exact aD func91
 | false =>
  rw [if_neg (by rw [cG];simp)] at ak;rw [cG] at D1
  by_cases hc:(aa s g).res.code=0
  ·rw [if_pos hc] at ak;rw [ak];generalize (Sx.ck s g).1=s1 at *;have Ua:((aa s g).res.code == 0)=true:=by simpa using hc
   repeat (first | refine aQ (P _) ?_ | refine aX (fQ s1 g 13 g1 b1) ?_ | refine ay ?_ | intro _)
   exact aD func91
  ·rw [if_neg hc] at ak;have Ua:((aa s g).res.code == 0)=false:=by simpa using hc
   have CS:=TM (aa s g).aq (Nat.le_trans (h.fit.sg g) (by omega))
   cases hs:jT (aa s g).aq with
   | true =>
    rw [if_pos hs] at ak;rw [hs] at CS;rw [ak];generalize (Sx.ck s g).1=s1 at *
    repeat (first | refine aQ (P _) ?_ | refine aX (fQ s1 g 34 g1 b1) ?_ | refine ay ?_ | intro _)
    exact aD func91
   | false =>
    rw [if_neg (by rw [hs];simp)] at ak;rw [hs] at CS;rw [ak];generalize (Sx.ck s g).1=s1 at *
    repeat (first | refine aQ (P _) ?_ | refine aX (yG s1 g g1 b1) ?_ | refine ay ?_ | intro _)
    exact aD func91
theorem Ub (s:ah) (g:Nat) (h:j5 s g) (hk:(ag s g).kind=9) (e0:(aa s g).place=13) :
  Pure prog 91 [.agg (aC s),.c (nI g)] (.bp [.agg (aC (aR s g).1),.c (bI (aR s g).2)]):=by
 have hg:=h.co.lt;have hf:Few s:=h.fit.toAnd;have hb:=hf.1;have C0:=dI s g hg h.co.dD;have K9:((ag s g).kind != 9)=false:=by rw [hk];rfl
 have bQ:¬ ((ag s g).kind≠9):=by omega
 have ak:aR s g=aR s g:=rfl
 conv at ak=>rhs;unfold aR;simp only;rw [if_neg bQ]
 have P:∀ c,((aa s g).place == c)=((13:Int) == c):=fun c=>by rw [e0]
 refine an.intro func91 rfl rfl rfl (fun ok e=>?_);rw [az,az,az,az,az,az,az,az,az,az,az,az] at ak;rw [if_pos (by omega)] at ak;have D1:=fS s g h.co;rw [ak]
 repeat (first | refine aQ (P _) ?_ | refine ay ?_ | intro _)
 exact aD func91
theorem Uc (s:ah) (g:Nat) (h:j5 s g) (hk:(ag s g).kind=9) (e0:(aa s g).place=17) :
  Pure prog 91 [.agg (aC s),.c (nI g)] (.bp [.agg (aC (aR s g).1),.c (bI (aR s g).2)]):=by
 have hg:=h.co.lt;have hf:Few s:=h.fit.toAnd;have hb:=hf.1;have C0:=dI s g hg h.co.dD;have K9:((ag s g).kind != 9)=false:=by rw [hk];rfl
 have bQ:¬ ((ag s g).kind≠9):=by omega
 have ak:aR s g=aR s g:=rfl
 conv at ak=>rhs;unfold aR;simp only;rw [if_neg bQ]
 have P:∀ c,((aa s g).place == c)=((17:Int) == c):=fun c=>by rw [e0]
 refine an.intro func91 rfl rfl rfl (fun ok e=>?_);rw [az,az,az,az,az,az,az,az,az,az,az,az] at ak;rw [if_pos (by omega)] at ak;have D1:=fS s g h.co;rw [ak]
 repeat (first | refine aQ (P _) ?_ | refine ay ?_ | intro _)
 exact aD func91
theorem Ud (s:ah) (g:Nat) (h:j5 s g) (hk:(ag s g).kind=9) (e0:¬ ((aa s g).place=24∨(aa s g).place=25∨(aa s g).place=26∨(aa s g).place=27∨(aa s g).place=28∨(aa s g).place=29∨(aa s g).place=30∨(aa s g).place=14∨(aa s g).place=31∨(aa s g).place=32∨(aa s g).place=33∨(aa s g).place=34∨(aa s g).place=13∨(aa s g).place=17)) :
  Pure prog 91 [.agg (aC s),.c (nI g)] (.bp [.agg (aC (aR s g).1),.c (bI (aR s g).2)]):=by
 have hg:=h.co.lt;have hf:Few s:=h.fit.toAnd;have hb:=hf.1;have C0:=dI s g hg h.co.dD;have K9:((ag s g).kind != 9)=false:=by rw [hk];rfl
 have bQ:¬ ((ag s g).kind≠9):=by omega
 have ak:aR s g=aR s g:=rfl
 conv at ak=>rhs;unfold aR;simp only;rw [if_neg bQ]
 refine an.intro func91 rfl rfl rfl (fun ok e=>?_);rw [az,az,az,az,az,az,az,az,az,az,az,az,az] at ak;have Yj:((aa s g).place == 24)=false:=by simp;omega
 have Yk:((aa s g).place == 25)=false:=by simp;omega
 have Yl:((aa s g).place == 26)=false:=by simp;omega
 have Ym:((aa s g).place == 27)=false:=by simp;omega
 have Yn:((aa s g).place == 28)=false:=by simp;omega
 have Yo:((aa s g).place == 29)=false:=by simp;omega
 have Yp:((aa s g).place == 30)=false:=by simp;omega
 have Kx:((aa s g).place == 14)=false:=by simp;omega
 have Yq:((aa s g).place == 31)=false:=by simp;omega
 have Yr:((aa s g).place == 32)=false:=by simp;omega
 have Ys:((aa s g).place == 33)=false:=by simp;omega
 have Yt:((aa s g).place == 34)=false:=by simp;omega
 have Yu:((aa s g).place == 13)=false:=by simp;omega
 have Yv:((aa s g).place == 17)=false:=by simp;omega
 rw [ak]
 repeat (first | refine ay ?_ | intro _)
 exact aD func91
theorem KO (s:ah) (g:Nat) (h:j5 s g) :
  Pure prog 91 [.agg (aC s),.c (nI g)] (.bp [.agg (aC (aR s g).1),.c (bI (aR s g).2)]):=by
 by_cases hk:(ag s g).kind=9
 case neg =>
  have hg:=h.co.lt;have C0:=dI s g hg h.co.dD;refine an.intro func91 rfl rfl rfl (fun ok e=>?_);have K9:((ag s g).kind != 9)=true:=by simp;omega
  have er:aR s g=(s,false):=by unfold aR;simp only;rw [if_pos (by omega)]
  rw [er]
  repeat (first | refine ay ?_ | intro _)
  exact aD func91
 case pos =>
  by_cases qh:(aa s g).place=24
  ·exact TV s g h hk qh
  by_cases kI:(aa s g).place=25
  ·exact TZ s g h hk kI
  by_cases qj:(aa s g).place=26
  ·exact T0 s g h hk qj
  by_cases mE:(aa s g).place=27
  ·exact T2 s g h hk mE
  by_cases oe:(aa s g).place=28
  ·exact T3 s g h hk oe
  by_cases pn:(aa s g).place=29
  ·exact T4 s g h hk pn
  by_cases og:(aa s g).place=30
  ·exact T9 s g h hk og
  by_cases g9:(aa s g).place=14
  ·exact T5 s g h hk g9
  by_cases oY:(aa s g).place=31
  ·exact TW s g h hk oY
  by_cases qm:(aa s g).place=32
  ·exact T6 s g h hk qm
  by_cases qn:(aa s g).place=33
  ·exact T8 s g h hk qn
  by_cases oh:(aa s g).place=34
  ·exact T7 s g h hk oh
  by_cases oX:(aa s g).place=13
  ·exact Ub s g h hk oX
  by_cases nu:(aa s g).place=17
  ·exact Uc s g h hk nu
  exact Ud s g h hk (by omega)
end Fl
end Go.Proofs.YtdjhhbpedllnhaaGreat
