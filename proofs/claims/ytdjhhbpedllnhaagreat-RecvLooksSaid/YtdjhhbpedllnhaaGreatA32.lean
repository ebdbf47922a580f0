/-
  What the laws need, part A32.
  Conditions: none.
-/
import Derived.Test.YtdjhhbpedllnhaaGreatA31
set_option linter.unusedVariables false
set_option linter.unusedSimpArgs false
set_option linter.unnecessarySimpa false
set_option maxHeartbeats 2000000
namespace Go.Proofs.YtdjhhbpedllnhaaGreat
open Go.RowKit
namespace Fl
open Sx Go.Proofs.Tryz
set_option maxRecDepth 100000
theorem De (s:ah) (g:Nat) (p:Int):(Sx.next s g p).gs.length=s.gs.length:=by
 unfold Sx.next;simp only;split <;> rw [cz]
theorem Yc (s:ah) (g:Nat) (hg:g < s.gs.length) (hb:Fit s) (k0:0≤(aa s g).k) (k1:(aa s g).k < (aa s g).order.length) (i0:0≤aE (aa s g).order (aa s g).k) (i1:aE (aa s g).order (aa s g).k < (aa s g).ax.length)
  (hc:g < s.cache.length) (hp:oN s) (j1:aE (aa s g).ax (aE (aa s g).order (aa s g).k) < s.aB.length) :
  Pure prog 167 [.agg (aD s),.c (nI g)] (.agg (aD (kI s g))):=by
 have I1:=oO k0 k1;have I2:=oO i0 i1;have kb:=hb.od g;have wb:=hb.sg g;have aj:kI s g=kI s g:=rfl
 conv at aj=>rhs;unfold kI;simp only
 generalize aE (aa s g).order (aa s g).k=i at *;have DG:0≤aE (aa s g).ax i→Pure prog 217 [.agg (aD s),.c (nI g),.c (nI (aE (aa s g).ax i))] (.agg (aD (Sx.cy s g (aE (aa s g).ax i)))):=fun h=>No s g _ hc hp h j1 hb.1.2.2
 have e1:([] ++ List.map (fun n=>[nI n]) (aa s g).ax).set i.toNat [nI (-1)]=((aa s g).ax.set i.toNat (-1)).map (fun n=>[nI n]):=by simp
 have wl:i < (([] ++ List.map (fun n=>[nI n]) (aa s g).ax).length:Int):=by simp;omega
 have wn:i.toNat < ([] ++ List.map (fun n=>[nI n]) (aa s g).ax).length:=by simp;omega
 have cV:((aa s g).k + 1 == ((aa s g).order.length:Int))=decide ((aa s g).k + 1=(aa s g).order.length):=rfl;refine av.intro func167 rfl rfl rfl (fun ok e=>?_);have key:∀ s1:ah,s1.gs=s.gs→∃ (g1:g < s1.gs.length) (b1:s1.gs.length≤100000) (eg:aa s1 g=aa s g),True:=fun s1 h=>⟨by rw [h];exact hg,by rw [h];exact hb.1.1,uh h g,trivial⟩
 by_cases uD:0≤aE (aa s g).ax i
 ·rw [if_pos uD] at aj;have Yd:(decide (aE (aa s g).ax i ≥ 0))=true:=decide_eq_true uD;have D0:=DG uD;obtain ⟨g1,b1,eg,-⟩:=key (Sx.cy s g (aE (aa s g).ax i)) (Ar _ _ _);generalize Sx.cy s g (aE (aa s g).ax i)=s1 at *
  by_cases hl:(aa s g).k + 1=(aa s g).order.length
  ·rw [if_pos hl] at aj;rw [decide_eq_true hl] at cV;rw [aj];have D2:=cS s1 g { aa s g with ax:=[] } g1 b1;have kx:(aa (ai s1 g { aa s g with ax:=[] }) g)={ aa s g with ax:=[] }:=by unfold aa ai;simp [g1]
   have D3:=qU (ai s1 g { aa s g with ax:=[] }) g 34 (by rw [cz];exact g1) (by rw [cz];exact b1) (by rw [kx];exact k0) (by rw [kx];simp only;omega);have D4:=zq (Sx.next (ai s1 g { aa s g with ax:=[] }) g 34) g (by rw [De,cz];exact g1) (by rw [De,cz];exact b1)
   repeat (first | refine ay ?_ | intro _)
   refine J.draw (by kernel_rfl) rfl ?_;refine JW.base (some 8) ?_;refine tk 0 ?_;refine tk 1 ?_;refine tk 2 ?_;refine tk 3 ?_;refine tk 4 ?_;refine JD.take 5 rfl rfl (by kernel_rfl) rfl (qb rfl) (Qt.dc rfl rfl i0 I2) rfl ?_;refine tk 6 ?_;refine c9 7 (D0) ?_;refine jt 8 rfl rfl (Ld.bh rfl rfl rfl (by exact rfl) (by exact rfl)) (fun _=>?_);refine cu ?_
   repeat (first | (refine K.bi ?_;refine JO.ld (Ld.cB (qb rfl) rfl rfl .read (by (simp;omega))) rfl (fun _=>?_)) | refine ay ?_ | intro _)
   repeat (first | (refine K.store ?_;refine JO.ld (Ld.gz rfl rfl rfl (by exact rfl) (by exact wn)) rfl (fun _=>?_)) | (refine K.indexAddr ?_;refine jq rfl rfl rfl (Qt.aV rfl rfl (by omega) (by omega)) ?_))
   refine JO.nil ?_;refine J.nF 0 1 22 rfl rfl rfl ?_
   repeat (first | refine mM (D2) ?_ | refine gn ?_)
   exact aC func167
  ·rw [if_neg hl] at aj;rw [decide_eq_false hl] at cV;rw [aj];have D2:=cS s1 g { aa s g with ax:=(aa s g).ax.set i.toNat (-1) } g1 b1;have kx:(aa (ai s1 g { aa s g with ax:=(aa s g).ax.set i.toNat (-1) }) g)={ aa s g with ax:=(aa s g).ax.set i.toNat (-1) }:=by unfold aa ai;simp [g1]
   have D3:=qU (ai s1 g { aa s g with ax:=(aa s g).ax.set i.toNat (-1) }) g 34 (by rw [cz];exact g1) (by rw [cz];exact b1) (by rw [kx];exact k0) (by rw [kx];simp only;omega)
   repeat (first | refine ay ?_ | intro _)
   refine J.draw (by kernel_rfl) rfl ?_;refine JW.base (some 8) ?_;refine tk 0 ?_;refine tk 1 ?_;refine tk 2 ?_;refine tk 3 ?_;refine tk 4 ?_;refine JD.take 5 rfl rfl (by kernel_rfl) rfl (qb rfl) (Qt.dc rfl rfl i0 I2) rfl ?_;refine tk 6 ?_;refine c9 7 (D0) ?_;refine jt 8 rfl rfl (Ld.bh rfl rfl rfl (by exact rfl) (by exact rfl)) (fun _=>?_);refine cu ?_
   repeat (first | (refine K.bi ?_;refine JO.ld (Ld.cB (qb rfl) rfl rfl .read (by (simp;omega))) rfl (fun _=>?_)) | refine ay ?_ | intro _)
   repeat (first | (refine K.store ?_;refine JO.ld (Ld.gz rfl rfl rfl (by exact rfl) (by exact wn)) rfl (fun _=>?_)) | (refine K.indexAddr ?_;refine jq rfl rfl rfl (Qt.aV rfl rfl (by omega) (by omega)) ?_))
   refine JO.nil ?_;refine J.nF 0 1 22 rfl rfl rfl ?_;rw [show (A.v (.int .i64 (-1)))=nI (-1) from rfl,e1]
   repeat (refine gn ?_)
   exact aC func167
 ·rw [if_neg uD] at aj;have Yd:(decide (aE (aa s g).ax i ≥ 0))=false:=decide_eq_false uD
  by_cases hl:(aa s g).k + 1=(aa s g).order.length
  ·rw [if_pos hl] at aj;rw [decide_eq_true hl] at cV;rw [aj];have D2:=cS s g { aa s g with ax:=[] } hg hb.1.1;have kx:(aa (ai s g { aa s g with ax:=[] }) g)={ aa s g with ax:=[] }:=by unfold aa ai;simp [hg]
   have D3:=qU (ai s g { aa s g with ax:=[] }) g 34 (by rw [cz];exact hg) (by rw [cz];exact hb.1.1) (by rw [kx];exact k0) (by rw [kx];simp only;omega);have D4:=zq (Sx.next (ai s g { aa s g with ax:=[] }) g 34) g (by rw [De,cz];exact hg) (by rw [De,cz];exact hb.1.1)
   repeat (first | (refine K.bi ?_;refine JO.ld (Ld.cB (qb rfl) rfl rfl .read (by (simp;omega))) rfl (fun _=>?_)) | refine ay ?_ | intro _)
   repeat (first | (refine K.store ?_;refine JO.ld (Ld.gz rfl rfl rfl (by exact rfl) (by exact wn)) rfl (fun _=>?_)) | (refine K.indexAddr ?_;refine jq rfl rfl rfl (Qt.aV rfl rfl (by omega) (by omega)) ?_))
   refine JO.nil ?_;refine J.nF 0 1 22 rfl rfl rfl ?_
   repeat (first | refine mM (D2) ?_ | refine gn ?_)
   exact aC func167
  ·rw [if_neg hl] at aj;rw [decide_eq_false hl] at cV;rw [aj];have D2:=cS s g { aa s g with ax:=(aa s g).ax.set i.toNat (-1) } hg hb.1.1;have kx:(aa (ai s g { aa s g with ax:=(aa s g).ax.set i.toNat (-1) }) g)={ aa s g with ax:=(aa s g).ax.set i.toNat (-1) }:=by unfold aa ai;simp [hg]
   have D3:=qU (ai s g { aa s g with ax:=(aa s g).ax.set i.toNat (-1) }) g 34 (by rw [cz];exact hg) (by rw [cz];exact hb.1.1) (by rw [kx];exact k0) (by rw [kx];simp only;omega)
   repeat (first | (refine K.bi ?_;refine JO.ld (Ld.cB (qb rfl) rfl rfl .read (by (simp;omega))) rfl (fun _=>?_)) | refine ay ?_ | intro _)
   repeat (first | (refine K.store ?_;refine JO.ld (Ld.gz rfl rfl rfl (by exact rfl) (by exact wn)) rfl (fun _=>?_)) | (refine K.indexAddr ?_;refine jq rfl rfl rfl (Qt.aV rfl rfl (by omega) (by omega)) ?_))
   refine JO.nil ?_;refine J.nF 0 1 22 rfl rfl rfl ?_;rw [show (A.v (.int .i64 (-1)))=nI (-1) from rfl,e1]
   repeat (refine gn ?_)
   exact aC func167
end Fl
open Go.RowKit
namespace Fl
open Sx Go.Proofs.Tryz
set_option maxRecDepth 100000
structure kX (s:ah) (g:Nat):Prop where
 co:xE s g
 fit:Fit s
 lk:(aa s g).place=24∨(aa s g).place=31→0≤(aa s g).k∧(aa s g).k < (aa s g).aF.length∧(aa s g).aF.length≤100000∧aL s (aE (aa s g).aF (aa s g).k)=true
 ha:(aa s g).place=25∨(aa s g).place=27∨(aa s g).place=28∨(aa s g).place=29→AB s g (ag s g)
 Ye:(aa s g).place=26→dL s (aa s g).hold∧0≤(aa s g).k∧(aa s g).k < (aa s g).order.length
 Yf:(aa s g).place=27→dL s (aa s g).hold
 Yg:(aa s g).place=28→oN s∧g < s.cache.length∧((aQ s g).2.2=true→0≤(aQ s g).2.1∧(aQ s g).2.1 < s.aB.length)
 sg:(aa s g).place=28∨(aa s g).place=29→(aa s g).ax.length=(ag s g).cases.length
 fr:(aa s g).place=30∨(aa s g).place=33→1≤(aa s g).k∧(aa s g).k≤(aa s g).aF.length∧(aa s g).aF.length≤100000∧aL s (aE (aa s g).aF ((aa s g).k - 1))=true
 uj:(aa s g).place=14→0≤(aa s g).param∧(aa s g).param < s.aB.length
 Yh:(aa s g).place=32→0≤(aa s g).k∧(aa s g).k < (aa s g).order.length∧0≤aE (aa s g).order (aa s g).k∧aE (aa s g).order (aa s g).k < (aa s g).ax.length∧0≤aE (aa s g).ax (aE (aa s g).order (aa s g).k)∧aE (aa s g).ax (aE (aa s g).order (aa s g).k) < s.aB.length
 Yi:(aa s g).place=34→0≤(aa s g).k∧(aa s g).k < (aa s g).order.length∧0≤aE (aa s g).order (aa s g).k∧aE (aa s g).order (aa s g).k < (aa s g).ax.length∧g < s.cache.length∧oN s∧aE (aa s g).ax (aE (aa s g).order (aa s g).k) < s.aB.length
theorem NK {α:Type} (f:Gr→α) {s:ah} {g:Nat} {ba on:Int} (e:∀ (x:Gr) (a b c:Int),f { x with bE:=a,wi:=b,dJ:=c }=f x) (e2:∀ (x:Gr) (p:Int),f { x with place:=p }=f x) (e3:∀ (x:Gr) (a b:Int),f { x with hold:=a,t:=b }=f x) (e4:∀ (x:Gr) (b:Bool),f { x with aU:=b }=f x) (h:Nat):f (aa (cU s g ba on) h)=f (aa s h):=by
 unfold cU;simp only
 split
 ·have:=qV f (s:=aT s (aa s g).hold) (o:=g) (g:=h) (x:={ aa s g with hold:=-1,place:=ba }) (by rw [uh (gf _ _)];exact (e2 { aa s g with hold:=-1,t:=(aa s g).t } ba).trans (e3 (aa s g) (-1) (aa s g).t));rw [this,uh (gf _ _)]
 ·rw [GZ f (fun x=>e2 x _),NF f e];have h1:∀ h,f (aa (ai s g { aa s g with t:=s.step }) h)=f (aa s h):=fun h=>qV f (e3 (aa s g) (aa s g).hold s.step)
  have h2:=qV f (s:=ai s g { aa s g with t:=s.step }) (o:=(su s (aa s g).hold).g.toNat) (g:=h) (x:={ aa s (su s (aa s g).hold).g.toNat with aU:=true }) (by rw [h1];exact e4 _ _);rw [h2,h1]
theorem NL (s:ah) (g:Nat) (ba on:Int):(cU s g ba on).gs.length=s.gs.length:=by
 unfold cU;simp only
 split
 ·rw [cz,gf]
 ·rw [xF,xG,cz,cz]
theorem Df (s:ah) (g:Nat):(dy s g).1.gs.length=s.gs.length:=by
 unfold dy;simp only;rw [cz,Xq]
theorem Yj (s:ah) (g:Nat) (h:kX s g) (hk:(ag s g).kind=9) (e0:(aa s g).place=24) :
  Pure prog 91 [.agg (aD s),.c (nI g)] (.aZ [.agg (aD (bL s g).1),.c (bI (bL s g).2)]):=by
 have hg:=h.co.lt;have hf:Few s:=h.fit.toAnd;have hb:=hf.1;have C0:=dH s g hg h.co.dm;have K9:((ag s g).kind != 9)=false:=by rw [hk];rfl
 have bu:¬ ((ag s g).kind≠9):=by omega
 have aj:bL s g=bL s g:=rfl
 conv at aj=>rhs;unfold bL;simp only;rw [if_neg bu]
 have P:∀ c,((aa s g).place == c)=((24:Int) == c):=fun c=>by rw [e0]
 refine av.intro func91 rfl rfl rfl (fun ok e=>?_);rw [if_pos e0] at aj;obtain ⟨k0,k1,kb,hm⟩:=h.lk (by omega);have D1:=ND s g 25 hg hf k0 k1 kb hm;rw [aj]
 repeat (first | refine aK (P _) ?_ | refine ay ?_ | intro _)
 exact aC func91
theorem Yk (s:ah) (g:Nat) (h:kX s g) (hk:(ag s g).kind=9) (e0:(aa s g).place=31) :
  Pure prog 91 [.agg (aD s),.c (nI g)] (.aZ [.agg (aD (bL s g).1),.c (bI (bL s g).2)]):=by
 have hg:=h.co.lt;have hf:Few s:=h.fit.toAnd;have hb:=hf.1;have C0:=dH s g hg h.co.dm;have K9:((ag s g).kind != 9)=false:=by rw [hk];rfl
 have bu:¬ ((ag s g).kind≠9):=by omega
 have aj:bL s g=bL s g:=rfl
 conv at aj=>rhs;unfold bL;simp only;rw [if_neg bu]
 have P:∀ c,((aa s g).place == c)=((31:Int) == c):=fun c=>by rw [e0]
 refine av.intro func91 rfl rfl rfl (fun ok e=>?_);rw [az,az,az,az,az,az,az,az] at aj;rw [if_pos e0] at aj;obtain ⟨k0,k1,kb,hm⟩:=h.lk (by omega);have D1:=ND s g 32 hg hf k0 k1 kb hm;rw [aj]
 repeat (first | refine aK (P _) ?_ | refine ay ?_ | intro _)
 exact aC func91
theorem Yl (s:ah) (g:Nat) (h:kX s g) (hk:(ag s g).kind=9) (e0:(aa s g).place=25) :
  Pure prog 91 [.agg (aD s),.c (nI g)] (.aZ [.agg (aD (bL s g).1),.c (bI (bL s g).2)]):=by
 have hg:=h.co.lt;have hf:Few s:=h.fit.toAnd;have hb:=hf.1;have C0:=dH s g hg h.co.dm;have K9:((ag s g).kind != 9)=false:=by rw [hk];rfl
 have bu:¬ ((ag s g).kind≠9):=by omega
 have aj:bL s g=bL s g:=rfl
 conv at aj=>rhs;unfold bL;simp only;rw [if_neg bu]
 have P:∀ c,((aa s g).place == c)=((25:Int) == c):=fun c=>by rw [e0]
 refine av.intro func91 rfl rfl rfl (fun ok e=>?_);rw [az] at aj;rw [if_pos e0] at aj;have D1:=X5 s g (ag s g) (h.ha (by omega));rw [aj]
 repeat (first | refine aK (P _) ?_ | refine ay ?_ | intro _)
 exact aC func91
theorem Ym (s:ah) (g:Nat) (h:kX s g) (hk:(ag s g).kind=9) (e0:(aa s g).place=26) :
  Pure prog 91 [.agg (aD s),.c (nI g)] (.aZ [.agg (aD (bL s g).1),.c (bI (bL s g).2)]):=by
 have hg:=h.co.lt;have hf:Few s:=h.fit.toAnd;have hb:=hf.1;have C0:=dH s g hg h.co.dm;have K9:((ag s g).kind != 9)=false:=by rw [hk];rfl
 have bu:¬ ((ag s g).kind≠9):=by omega
 have aj:bL s g=bL s g:=rfl
 conv at aj=>rhs;unfold bL;simp only;rw [if_neg bu]
 have P:∀ c,((aa s g).place == c)=((26:Int) == c):=fun c=>by rw [e0]
 refine av.intro func91 rfl rfl rfl (fun ok e=>?_);rw [az,az] at aj;rw [if_pos e0] at aj;obtain ⟨hi,k0,k1⟩:=h.Ye e0;have D1:=GP s g 25 27 hg hi h.fit;have D2:=GY (cU s g 25 27) g (by rw [NL];exact hg) (by rw [NL];exact hb) (fun _=>by rw [NK (f:=Gr.k) (fun _ _ _ _=>rfl) (fun _ _=>rfl) (fun _ _ _=>rfl) (fun _ _=>rfl),NK (f:=Gr.order) (fun _ _ _ _=>rfl) (fun _ _=>rfl) (fun _ _ _=>rfl) (fun _ _=>rfl)];exact ⟨k0,k1⟩);rw [aj]
 repeat (first | refine aK (P _) ?_ | refine ay ?_ | intro _)
 exact aC func91
theorem Yn (s:ah) (g:Nat) (h:kX s g) (hk:(ag s g).kind=9) (e0:(aa s g).place=27) :
  Pure prog 91 [.agg (aD s),.c (nI g)] (.aZ [.agg (aD (bL s g).1),.c (bI (bL s g).2)]):=by
 have hg:=h.co.lt;have hf:Few s:=h.fit.toAnd;have hb:=hf.1;have C0:=dH s g hg h.co.dm;have K9:((ag s g).kind != 9)=false:=by rw [hk];rfl
 have bu:¬ ((ag s g).kind≠9):=by omega
 have aj:bL s g=bL s g:=rfl
 conv at aj=>rhs;unfold bL;simp only;rw [if_neg bu]
 have P:∀ c,((aa s g).place == c)=((27:Int) == c):=fun c=>by rw [e0]
 refine av.intro func91 rfl rfl rfl (fun ok e=>?_);rw [az,az,az] at aj;rw [if_pos e0] at aj;have D1:=X6 s g (ag s g) (h.ha (by omega)) (h.Yf e0);rw [aj]
 repeat (first | refine aK (P _) ?_ | refine ay ?_ | intro _)
 exact aC func91
theorem Yo (s:ah) (g:Nat) (h:kX s g) (hk:(ag s g).kind=9) (e0:(aa s g).place=28) :
  Pure prog 91 [.agg (aD s),.c (nI g)] (.aZ [.agg (aD (bL s g).1),.c (bI (bL s g).2)]):=by
 have hg:=h.co.lt;have hf:Few s:=h.fit.toAnd;have hb:=hf.1;have C0:=dH s g hg h.co.dm;have K9:((ag s g).kind != 9)=false:=by rw [hk];rfl
 have bu:¬ ((ag s g).kind≠9):=by omega
 have aj:bL s g=bL s g:=rfl
 conv at aj=>rhs;unfold bL;simp only;rw [if_neg bu]
 have P:∀ c,((aa s g).place == c)=((28:Int) == c):=fun c=>by rw [e0]
 refine av.intro func91 rfl rfl rfl (fun ok e=>?_);rw [az,az,az,az] at aj;rw [if_pos e0] at aj;obtain ⟨p1,p2,p3⟩:=h.Yg e0;have D1:=X7 s g (ag s g) (h.ha (by omega)) p1 p2 p3 (h.sg (by omega));rw [aj]
 repeat (first | refine aK (P _) ?_ | refine ay ?_ | intro _)
 exact aC func91
theorem Yp (s:ah) (g:Nat) (h:kX s g) (hk:(ag s g).kind=9) (e0:(aa s g).place=29) :
  Pure prog 91 [.agg (aD s),.c (nI g)] (.aZ [.agg (aD (bL s g).1),.c (bI (bL s g).2)]):=by
 have hg:=h.co.lt;have hf:Few s:=h.fit.toAnd;have hb:=hf.1;have C0:=dH s g hg h.co.dm;have K9:((ag s g).kind != 9)=false:=by rw [hk];rfl
 have bu:¬ ((ag s g).kind≠9):=by omega
 have aj:bL s g=bL s g:=rfl
 conv at aj=>rhs;unfold bL;simp only;rw [if_neg bu]
 have P:∀ c,((aa s g).place == c)=((29:Int) == c):=fun c=>by rw [e0]
 refine av.intro func91 rfl rfl rfl (fun ok e=>?_);rw [az,az,az,az,az] at aj;rw [if_pos e0] at aj;have D1:=X8 s g (ag s g) (h.ha (by omega)) (h.sg (by omega));rw [aj]
 repeat (first | refine aK (P _) ?_ | refine ay ?_ | intro _)
 exact aC func91
theorem Yq (s:ah) (g:Nat) (h:kX s g) (hk:(ag s g).kind=9) (e0:(aa s g).place=14) :
  Pure prog 91 [.agg (aD s),.c (nI g)] (.aZ [.agg (aD (bL s g).1),.c (bI (bL s g).2)]):=by
 have hg:=h.co.lt;have hf:Few s:=h.fit.toAnd;have hb:=hf.1;have C0:=dH s g hg h.co.dm;have K9:((ag s g).kind != 9)=false:=by rw [hk];rfl
 have bu:¬ ((ag s g).kind≠9):=by omega
 have aj:bL s g=bL s g:=rfl
 conv at aj=>rhs;unfold bL;simp only;rw [if_neg bu]
 have P:∀ c,((aa s g).place == c)=((14:Int) == c):=fun c=>by rw [e0]
 refine av.intro func91 rfl rfl rfl (fun ok e=>?_);rw [az,az,az,az,az,az,az] at aj;rw [if_pos e0] at aj;obtain ⟨p1,p2⟩:=h.uj e0;have D1:=Ya s g hg hb p1 p2;rw [aj]
 repeat (first | refine aK (P _) ?_ | refine ay ?_ | intro _)
 exact aC func91
theorem Yr (s:ah) (g:Nat) (h:kX s g) (hk:(ag s g).kind=9) (e0:(aa s g).place=32) :
  Pure prog 91 [.agg (aD s),.c (nI g)] (.aZ [.agg (aD (bL s g).1),.c (bI (bL s g).2)]):=by
 have hg:=h.co.lt;have hf:Few s:=h.fit.toAnd;have hb:=hf.1;have C0:=dH s g hg h.co.dm;have K9:((ag s g).kind != 9)=false:=by rw [hk];rfl
 have bu:¬ ((ag s g).kind≠9):=by omega
 have aj:bL s g=bL s g:=rfl
 conv at aj=>rhs;unfold bL;simp only;rw [if_neg bu]
 have P:∀ c,((aa s g).place == c)=((32:Int) == c):=fun c=>by rw [e0]
 refine av.intro func91 rfl rfl rfl (fun ok e=>?_);rw [az,az,az,az,az,az,az,az,az] at aj;rw [if_pos e0] at aj;obtain ⟨k0,k1,i0,i1,j0,j1⟩:=h.Yh e0;have D1:=Yb s g hg h.fit k0 k1 i0 i1 j0 j1;rw [aj]
 repeat (first | refine aK (P _) ?_ | refine ay ?_ | intro _)
 exact aC func91
theorem Ys (s:ah) (g:Nat) (h:kX s g) (hk:(ag s g).kind=9) (e0:(aa s g).place=34) :
  Pure prog 91 [.agg (aD s),.c (nI g)] (.aZ [.agg (aD (bL s g).1),.c (bI (bL s g).2)]):=by
 have hg:=h.co.lt;have hf:Few s:=h.fit.toAnd;have hb:=hf.1;have C0:=dH s g hg h.co.dm;have K9:((ag s g).kind != 9)=false:=by rw [hk];rfl
 have bu:¬ ((ag s g).kind≠9):=by omega
 have aj:bL s g=bL s g:=rfl
 conv at aj=>rhs;unfold bL;simp only;rw [if_neg bu]
 have P:∀ c,((aa s g).place == c)=((34:Int) == c):=fun c=>by rw [e0]
 refine av.intro func91 rfl rfl rfl (fun ok e=>?_);rw [az,az,az,az,az,az,az,az,az,az,az] at aj;rw [if_pos e0] at aj;obtain ⟨k0,k1,i0,i1,hc,hp,j1⟩:=h.Yi e0;have D1:=Yc s g hg h.fit k0 k1 i0 i1 hc hp j1;rw [aj]
 repeat (first | refine aK (P _) ?_ | refine ay ?_ | intro _)
 exact aC func91
theorem Yt (s:ah) (g:Nat) (h:kX s g) (hk:(ag s g).kind=9) (e0:(aa s g).place=33) :
  Pure prog 91 [.agg (aD s),.c (nI g)] (.aZ [.agg (aD (bL s g).1),.c (bI (bL s g).2)]):=by
 have hg:=h.co.lt;have hf:Few s:=h.fit.toAnd;have hb:=hf.1;have C0:=dH s g hg h.co.dm;have K9:((ag s g).kind != 9)=false:=by rw [hk];rfl
 have bu:¬ ((ag s g).kind≠9):=by omega
 have aj:bL s g=bL s g:=rfl
 conv at aj=>rhs;unfold bL;simp only;rw [if_neg bu]
 have P:∀ c,((aa s g).place == c)=((33:Int) == c):=fun c=>by rw [e0]
 refine av.intro func91 rfl rfl rfl (fun ok e=>?_);rw [az,az,az,az,az,az,az,az,az,az] at aj;rw [if_pos e0] at aj;obtain ⟨k0,k1,kb,hm⟩:=h.fr (by omega);have D1:=NJ s g hg hf k0 k1 kb hm;have g1:g < (dy s g).1.gs.length:=by rw [Df];exact hg
 have b1:(dy s g).1.gs.length≤100000:=by rw [Df];exact hb
 cases cF:(dy s g).2 with
 | true =>
  rw [if_pos cF] at aj;rw [cF] at D1;rw [aj];generalize (dy s g).1=s1 at *
  repeat (first | refine aK (P _) ?_ | refine ay ?_ | intro _)
  exact aC func91
 | false =>
  rw [if_neg (by rw [cF];simp)] at aj;rw [cF] at D1;rw [aj];generalize (dy s g).1=s1 at *
  repeat (first | refine aK (P _) ?_ | refine aR (fU s1 g 34 g1 b1) ?_ | refine ay ?_ | intro _)
  exact aC func91
theorem Yu (s:ah) (g:Nat) (h:kX s g) (hk:(ag s g).kind=9) (e0:(aa s g).place=30) :
  Pure prog 91 [.agg (aD s),.c (nI g)] (.aZ [.agg (aD (bL s g).1),.c (bI (bL s g).2)]):=by
 have hg:=h.co.lt;have hf:Few s:=h.fit.toAnd;have hb:=hf.1;have C0:=dH s g hg h.co.dm;have K9:((ag s g).kind != 9)=false:=by rw [hk];rfl
 have bu:¬ ((ag s g).kind≠9):=by omega
 have aj:bL s g=bL s g:=rfl
 conv at aj=>rhs;unfold bL;simp only;rw [if_neg bu]
 have P:∀ c,((aa s g).place == c)=((30:Int) == c):=fun c=>by rw [e0]
 refine av.intro func91 rfl rfl rfl (fun ok e=>?_);rw [az,az,az,az,az,az] at aj;rw [if_pos e0] at aj;obtain ⟨k0,k1,kb,hm⟩:=h.fr (by omega);have D1:=NJ s g hg hf k0 k1 kb hm;have g1:g < (dy s g).1.gs.length:=by rw [Df];exact hg
 have b1:(dy s g).1.gs.length≤100000:=by rw [Df];exact hb
 cases cF:(dy s g).2 with
 | true =>
  rw [if_pos cF] at aj;rw [cF] at D1;rw [aj];generalize (dy s g).1=s1 at *
  repeat (first | refine aK (P _) ?_ | refine ay ?_ | intro _)
  exact aC func91
 | false =>
  rw [if_neg (by rw [cF];simp)] at aj;rw [cF] at D1
  by_cases hc:(aa s g).res.code=0
  ·rw [if_pos hc] at aj;rw [aj];generalize (dy s g).1=s1 at *;have Yv:((aa s g).res.code == 0)=true:=by simpa using hc
   repeat (first | refine aK (P _) ?_ | refine aR (fU s1 g 13 g1 b1) ?_ | refine ay ?_ | intro _)
   exact aC func91
  ·rw [if_neg hc] at aj;have Yv:((aa s g).res.code == 0)=false:=by simpa using hc
   have CS:=X9 (aa s g).ax (Nat.le_trans (h.fit.sg g) (by omega))
   cases hs:oh (aa s g).ax with
   | true =>
    rw [if_pos hs] at aj;rw [hs] at CS;rw [aj];generalize (dy s g).1=s1 at *
    repeat (first | refine aK (P _) ?_ | refine aR (fU s1 g 34 g1 b1) ?_ | refine ay ?_ | intro _)
    exact aC func91
   | false =>
    rw [if_neg (by rw [hs];simp)] at aj;rw [hs] at CS;rw [aj];generalize (dy s g).1=s1 at *
    repeat (first | refine aK (P _) ?_ | refine aR (zq s1 g g1 b1) ?_ | refine ay ?_ | intro _)
    exact aC func91
theorem Yw (s:ah) (g:Nat) (h:kX s g) (hk:(ag s g).kind=9) (e0:(aa s g).place=13) :
  Pure prog 91 [.agg (aD s),.c (nI g)] (.aZ [.agg (aD (bL s g).1),.c (bI (bL s g).2)]):=by
 have hg:=h.co.lt;have hf:Few s:=h.fit.toAnd;have hb:=hf.1;have C0:=dH s g hg h.co.dm;have K9:((ag s g).kind != 9)=false:=by rw [hk];rfl
 have bu:¬ ((ag s g).kind≠9):=by omega
 have aj:bL s g=bL s g:=rfl
 conv at aj=>rhs;unfold bL;simp only;rw [if_neg bu]
 have P:∀ c,((aa s g).place == c)=((13:Int) == c):=fun c=>by rw [e0]
 refine av.intro func91 rfl rfl rfl (fun ok e=>?_);rw [az,az,az,az,az,az,az,az,az,az,az,az] at aj;rw [if_pos (by omega)] at aj;have D1:=fV s g h.co;rw [aj]
 repeat (first | refine aK (P _) ?_ | refine ay ?_ | intro _)
 exact aC func91
theorem Yx (s:ah) (g:Nat) (h:kX s g) (hk:(ag s g).kind=9) (e0:(aa s g).place=17) :
  Pure prog 91 [.agg (aD s),.c (nI g)] (.aZ [.agg (aD (bL s g).1),.c (bI (bL s g).2)]):=by
 have hg:=h.co.lt;have hf:Few s:=h.fit.toAnd;have hb:=hf.1;have C0:=dH s g hg h.co.dm;have K9:((ag s g).kind != 9)=false:=by rw [hk];rfl
 have bu:¬ ((ag s g).kind≠9):=by omega
 have aj:bL s g=bL s g:=rfl
 conv at aj=>rhs;unfold bL;simp only;rw [if_neg bu]
 have P:∀ c,((aa s g).place == c)=((17:Int) == c):=fun c=>by rw [e0]
 refine av.intro func91 rfl rfl rfl (fun ok e=>?_);rw [az,az,az,az,az,az,az,az,az,az,az,az] at aj;rw [if_pos (by omega)] at aj;have D1:=fV s g h.co;rw [aj]
 repeat (first | refine aK (P _) ?_ | refine ay ?_ | intro _)
 exact aC func91
theorem Yy (s:ah) (g:Nat) (h:kX s g) (hk:(ag s g).kind=9) (e0:¬ ((aa s g).place=24∨(aa s g).place=25∨(aa s g).place=26∨(aa s g).place=27∨(aa s g).place=28∨(aa s g).place=29∨(aa s g).place=30∨(aa s g).place=14∨(aa s g).place=31∨(aa s g).place=32∨(aa s g).place=33∨(aa s g).place=34∨(aa s g).place=13∨(aa s g).place=17)) :
  Pure prog 91 [.agg (aD s),.c (nI g)] (.aZ [.agg (aD (bL s g).1),.c (bI (bL s g).2)]):=by
 have hg:=h.co.lt;have hf:Few s:=h.fit.toAnd;have hb:=hf.1;have C0:=dH s g hg h.co.dm;have K9:((ag s g).kind != 9)=false:=by rw [hk];rfl
 have bu:¬ ((ag s g).kind≠9):=by omega
 have aj:bL s g=bL s g:=rfl
 conv at aj=>rhs;unfold bL;simp only;rw [if_neg bu]
 refine av.intro func91 rfl rfl rfl (fun ok e=>?_);rw [az,az,az,az,az,az,az,az,az,az,az,az,az] at aj;have P24:((aa s g).place == 24)=false:=by simp;omega
 have P25:((aa s g).place == 25)=false:=by simp;omega
 have P26:((aa s g).place == 26)=false:=by simp;omega
 have P27:((aa s g).place == 27)=false:=by simp;omega
 have P28:((aa s g).place == 28)=false:=by simp;omega
 have P29:((aa s g).place == 29)=false:=by simp;omega
 have P30:((aa s g).place == 30)=false:=by simp;omega
 have Nw:((aa s g).place == 14)=false:=by simp;omega
 have P31:((aa s g).place == 31)=false:=by simp;omega
 have P32:((aa s g).place == 32)=false:=by simp;omega
 have P33:((aa s g).place == 33)=false:=by simp;omega
 have P34:((aa s g).place == 34)=false:=by simp;omega
 have P13:((aa s g).place == 13)=false:=by simp;omega
 have P17:((aa s g).place == 17)=false:=by simp;omega
 rw [aj]
 repeat (first | refine ay ?_ | intro _)
 exact aC func91
theorem Yz (s:ah) (g:Nat) (h:kX s g) :
  Pure prog 91 [.agg (aD s),.c (nI g)] (.aZ [.agg (aD (bL s g).1),.c (bI (bL s g).2)]):=by
 by_cases hk:(ag s g).kind=9
 case neg =>
  have hg:=h.co.lt;have C0:=dH s g hg h.co.dm;refine av.intro func91 rfl rfl rfl (fun ok e=>?_);have K9:((ag s g).kind != 9)=true:=by simp;omega
  have er:bL s g=(s,false):=by unfold bL;simp only;rw [if_pos (by omega)]
  rw [er]
  repeat (first | refine ay ?_ | intro _)
  exact aC func91
 case pos =>
  by_cases zW:(aa s g).place=24
  ·exact Yj s g h hk zW
  by_cases zX:(aa s g).place=25
  ·exact Yl s g h hk zX
  by_cases zY:(aa s g).place=26
  ·exact Ym s g h hk zY
  by_cases zZ:(aa s g).place=27
  ·exact Yn s g h hk zZ
  by_cases Aa:(aa s g).place=28
  ·exact Yo s g h hk Aa
  by_cases Ab:(aa s g).place=29
  ·exact Yp s g h hk Ab
  by_cases Ac:(aa s g).place=30
  ·exact Yu s g h hk Ac
  by_cases jV:(aa s g).place=14
  ·exact Yq s g h hk jV
  by_cases xy:(aa s g).place=31
  ·exact Yk s g h hk xy
  by_cases Ad:(aa s g).place=32
  ·exact Yr s g h hk Ad
  by_cases Ae:(aa s g).place=33
  ·exact Yt s g h hk Ae
  by_cases Af:(aa s g).place=34
  ·exact Ys s g h hk Af
  by_cases sH:(aa s g).place=13
  ·exact Yw s g h hk sH
  by_cases pS:(aa s g).place=17
  ·exact Yx s g h hk pS
  exact Yy s g h hk (by omega)
end Fl
end Go.Proofs.YtdjhhbpedllnhaaGreat
