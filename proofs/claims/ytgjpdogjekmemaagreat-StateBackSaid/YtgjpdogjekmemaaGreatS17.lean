/-
  What the laws need, part S17.
  Conditions: none.
-/
import Derived.Test.YtgjpdogjekmemaaGreatS16
set_option linter.unusedVariables false
set_option linter.unusedSimpArgs false
set_option linter.unnecessarySimpa false
set_option maxHeartbeats 2000000
namespace Go.Proofs.YtgjpdogjekmemaaGreat
open Go.RowKit
namespace Fl
open Sx Go.Proofs.Tryz
set_option maxRecDepth 100000
theorem xz (s:ah) (g:Nat) (p:Int):(Sx.next s g p).gs.length=s.gs.length:=by
 unfold Sx.next;simp only;split <;> rw [bQ]
theorem N4 (s:ah) (g:Nat) (hg:g < s.gs.length) (hb:Fit s) (k0:0≤(aa s g).k) (k1:(aa s g).k < (aa s g).order.length) (i0:0≤aB (aa s g).order (aa s g).k) (i1:aB (aa s g).order (aa s g).k < (aa s g).au.length)
  (hc:g < s.cache.length) (hp:lQ s) (j1:aB (aa s g).au (aB (aa s g).order (aa s g).k) < s.aD.length) :
  Pure prog 133 [.agg (az s),.c (nI g)] (.agg (az (je s g))):=by
 have I1:=lR k0 k1;have I2:=lR i0 i1;have kb:=hb.od g;have wb:=hb.sg g;have aj:je s g=je s g:=rfl
 conv at aj=>rhs;unfold je;simp only
 generalize aB (aa s g).order (aa s g).k=i at *;have DG:0≤aB (aa s g).au i→Pure prog 148 [.agg (az s),.c (nI g),.c (nI (aB (aa s g).au i))] (.agg (az (Sx.cR s g (aB (aa s g).au i)))):=fun h=>E3 s g _ hc hp h j1 hb.1.2.2
 have e1:([] ++ List.map (fun n=>[nI n]) (aa s g).au).set i.toNat [nI (-1)]=((aa s g).au.set i.toNat (-1)).map (fun n=>[nI n]):=by simp
 have wl:i < (([] ++ List.map (fun n=>[nI n]) (aa s g).au).length:Int):=by simp;omega
 have wn:i.toNat < ([] ++ List.map (fun n=>[nI n]) (aa s g).au).length:=by simp;omega
 have xA:((aa s g).k + 1 == ((aa s g).order.length:Int))=decide ((aa s g).k + 1=(aa s g).order.length):=rfl;refine aq.intro func133 rfl rfl rfl (fun ok e=>?_);have key:∀ s1:ah,s1.gs=s.gs→∃ (g1:g < s1.gs.length) (b1:s1.gs.length≤100000) (eg:aa s1 g=aa s g),True:=fun s1 h=>⟨by rw [h];exact hg,by rw [h];exact hb.1.1,pY h g,trivial⟩
 by_cases qa:0≤aB (aa s g).au i
 ·rw [if_pos qa] at aj;have N5:(decide (aB (aa s g).au i ≥ 0))=true:=decide_eq_true qa;have D0:=DG qa;obtain ⟨g1,b1,eg,-⟩:=key (Sx.cR s g (aB (aa s g).au i)) (vn _ _ _);generalize Sx.cR s g (aB (aa s g).au i)=s1 at *
  by_cases hl:(aa s g).k + 1=(aa s g).order.length
  ·rw [if_pos hl] at aj;rw [decide_eq_true hl] at xA;rw [aj];have D2:=cA s1 g { aa s g with au:=[] } g1 b1;have kx:(aa (ai s1 g { aa s g with au:=[] }) g)={ aa s g with au:=[] }:=by unfold aa ai;simp [g1]
   have D3:=nA (ai s1 g { aa s g with au:=[] }) g 34 (by rw [bQ];exact g1) (by rw [bQ];exact b1) (by rw [kx];exact k0) (by rw [kx];simp only;omega);have D4:=u7 (Sx.next (ai s1 g { aa s g with au:=[] }) g 34) g (by rw [xz,bQ];exact g1) (by rw [xz,bQ];exact b1)
   repeat (first | refine av ?_ | intro _)
   refine J.draw (by kernel_rfl) rfl ?_;refine JW.base (some 8) ?_;refine tk 0 ?_;refine tk 1 ?_;refine tk 2 ?_;refine tk 3 ?_;refine tk 4 ?_;refine JD.take 5 rfl rfl (by kernel_rfl) rfl (qb rfl) (Qt.cE rfl rfl i0 I2) rfl ?_;refine tk 6 ?_;refine cI 7 (D0) ?_;refine jt 8 rfl rfl (Ld.aT rfl rfl rfl (by exact rfl) (by exact rfl)) (fun _=>?_);refine bz ?_
   repeat (first | (refine K.bi ?_;refine JO.ld (Ld.bH (qb rfl) rfl rfl .read (by (simp;omega))) rfl (fun _=>?_)) | refine av ?_ | intro _)
   repeat (first | (refine K.store ?_;refine JO.ld (Ld.dV rfl rfl rfl (by exact rfl) (by exact wn)) rfl (fun _=>?_)) | (refine K.indexAddr ?_;refine jq rfl rfl rfl (Qt.cB rfl rfl (by omega) (by omega)) ?_))
   refine JO.nil ?_;refine J.jR 0 1 22 rfl rfl rfl ?_
   repeat (first | refine lp (D2) ?_ | refine gn ?_)
   exact aA func133
  ·rw [if_neg hl] at aj;rw [decide_eq_false hl] at xA;rw [aj];have D2:=cA s1 g { aa s g with au:=(aa s g).au.set i.toNat (-1) } g1 b1;have kx:(aa (ai s1 g { aa s g with au:=(aa s g).au.set i.toNat (-1) }) g)={ aa s g with au:=(aa s g).au.set i.toNat (-1) }:=by unfold aa ai;simp [g1]
   have D3:=nA (ai s1 g { aa s g with au:=(aa s g).au.set i.toNat (-1) }) g 34 (by rw [bQ];exact g1) (by rw [bQ];exact b1) (by rw [kx];exact k0) (by rw [kx];simp only;omega)
   repeat (first | refine av ?_ | intro _)
   refine J.draw (by kernel_rfl) rfl ?_;refine JW.base (some 8) ?_;refine tk 0 ?_;refine tk 1 ?_;refine tk 2 ?_;refine tk 3 ?_;refine tk 4 ?_;refine JD.take 5 rfl rfl (by kernel_rfl) rfl (qb rfl) (Qt.cE rfl rfl i0 I2) rfl ?_;refine tk 6 ?_;refine cI 7 (D0) ?_;refine jt 8 rfl rfl (Ld.aT rfl rfl rfl (by exact rfl) (by exact rfl)) (fun _=>?_);refine bz ?_
   repeat (first | (refine K.bi ?_;refine JO.ld (Ld.bH (qb rfl) rfl rfl .read (by (simp;omega))) rfl (fun _=>?_)) | refine av ?_ | intro _)
   repeat (first | (refine K.store ?_;refine JO.ld (Ld.dV rfl rfl rfl (by exact rfl) (by exact wn)) rfl (fun _=>?_)) | (refine K.indexAddr ?_;refine jq rfl rfl rfl (Qt.cB rfl rfl (by omega) (by omega)) ?_))
   refine JO.nil ?_;refine J.jR 0 1 22 rfl rfl rfl ?_;rw [show (A.v (.int .i64 (-1)))=nI (-1) from rfl,e1]
   repeat (refine gn ?_)
   exact aA func133
 ·rw [if_neg qa] at aj;have N5:(decide (aB (aa s g).au i ≥ 0))=false:=decide_eq_false qa
  by_cases hl:(aa s g).k + 1=(aa s g).order.length
  ·rw [if_pos hl] at aj;rw [decide_eq_true hl] at xA;rw [aj];have D2:=cA s g { aa s g with au:=[] } hg hb.1.1;have kx:(aa (ai s g { aa s g with au:=[] }) g)={ aa s g with au:=[] }:=by unfold aa ai;simp [hg]
   have D3:=nA (ai s g { aa s g with au:=[] }) g 34 (by rw [bQ];exact hg) (by rw [bQ];exact hb.1.1) (by rw [kx];exact k0) (by rw [kx];simp only;omega);have D4:=u7 (Sx.next (ai s g { aa s g with au:=[] }) g 34) g (by rw [xz,bQ];exact hg) (by rw [xz,bQ];exact hb.1.1)
   repeat (first | (refine K.bi ?_;refine JO.ld (Ld.bH (qb rfl) rfl rfl .read (by (simp;omega))) rfl (fun _=>?_)) | refine av ?_ | intro _)
   repeat (first | (refine K.store ?_;refine JO.ld (Ld.dV rfl rfl rfl (by exact rfl) (by exact wn)) rfl (fun _=>?_)) | (refine K.indexAddr ?_;refine jq rfl rfl rfl (Qt.cB rfl rfl (by omega) (by omega)) ?_))
   refine JO.nil ?_;refine J.jR 0 1 22 rfl rfl rfl ?_
   repeat (first | refine lp (D2) ?_ | refine gn ?_)
   exact aA func133
  ·rw [if_neg hl] at aj;rw [decide_eq_false hl] at xA;rw [aj];have D2:=cA s g { aa s g with au:=(aa s g).au.set i.toNat (-1) } hg hb.1.1;have kx:(aa (ai s g { aa s g with au:=(aa s g).au.set i.toNat (-1) }) g)={ aa s g with au:=(aa s g).au.set i.toNat (-1) }:=by unfold aa ai;simp [hg]
   have D3:=nA (ai s g { aa s g with au:=(aa s g).au.set i.toNat (-1) }) g 34 (by rw [bQ];exact hg) (by rw [bQ];exact hb.1.1) (by rw [kx];exact k0) (by rw [kx];simp only;omega)
   repeat (first | (refine K.bi ?_;refine JO.ld (Ld.bH (qb rfl) rfl rfl .read (by (simp;omega))) rfl (fun _=>?_)) | refine av ?_ | intro _)
   repeat (first | (refine K.store ?_;refine JO.ld (Ld.dV rfl rfl rfl (by exact rfl) (by exact wn)) rfl (fun _=>?_)) | (refine K.indexAddr ?_;refine jq rfl rfl rfl (Qt.cB rfl rfl (by omega) (by omega)) ?_))
   refine JO.nil ?_;refine J.jR 0 1 22 rfl rfl rfl ?_;rw [show (A.v (.int .i64 (-1)))=nI (-1) from rfl,e1]
   repeat (refine gn ?_)
   exact aA func133
end Fl
open Go.RowKit
namespace Fl
open Sx Go.Proofs.Tryz
set_option maxRecDepth 100000
structure jo (s:ah) (g:Nat):Prop where
 co:sJ s g
 fit:Fit s
 lk:(aa s g).place=24∨(aa s g).place=31→0≤(aa s g).k∧(aa s g).k < (aa s g).aC.length∧(aa s g).aC.length≤100000∧aM s (aB (aa s g).aC (aa s g).k)=true
 ha:(aa s g).place=25∨(aa s g).place=27∨(aa s g).place=28∨(aa s g).place=29→vv s g (ag s g)
 N6:(aa s g).place=26→cV s (aa s g).hold∧0≤(aa s g).k∧(aa s g).k < (aa s g).order.length
 N7:(aa s g).place=27→cV s (aa s g).hold
 N8:(aa s g).place=28→lQ s∧g < s.cache.length∧((bw s g).2.2=true→0≤(bw s g).2.1∧(bw s g).2.1 < s.aD.length)
 sg:(aa s g).place=28∨(aa s g).place=29→(aa s g).au.length=(ag s g).cases.length
 fr:(aa s g).place=30∨(aa s g).place=33→1≤(aa s g).k∧(aa s g).k≤(aa s g).aC.length∧(aa s g).aC.length≤100000∧aM s (aB (aa s g).aC ((aa s g).k - 1))=true
 vq:(aa s g).place=14→0≤(aa s g).param∧(aa s g).param < s.aD.length
 N9:(aa s g).place=32→0≤(aa s g).k∧(aa s g).k < (aa s g).order.length∧0≤aB (aa s g).order (aa s g).k∧aB (aa s g).order (aa s g).k < (aa s g).au.length∧0≤aB (aa s g).au (aB (aa s g).order (aa s g).k)∧aB (aa s g).au (aB (aa s g).order (aa s g).k) < s.aD.length
 Oa:(aa s g).place=34→0≤(aa s g).k∧(aa s g).k < (aa s g).order.length∧0≤aB (aa s g).order (aa s g).k∧aB (aa s g).order (aa s g).k < (aa s g).au.length∧g < s.cache.length∧lQ s∧aB (aa s g).au (aB (aa s g).order (aa s g).k) < s.aD.length
theorem FE {α:Type} (f:Gr→α) {s:ah} {g:Nat} {ba on:Int} (e:∀ (x:Gr) (a b c:Int),f { x with cz:=a,wi:=b,dc:=c }=f x) (e2:∀ (x:Gr) (p:Int),f { x with place:=p }=f x) (e3:∀ (x:Gr) (a b:Int),f { x with hold:=a,t:=b }=f x) (e4:∀ (x:Gr) (b:Bool),f { x with bp:=b }=f x) (h:Nat):f (aa (cX s g ba on) h)=f (aa s h):=by
 unfold cX;simp only
 split
 ·have:=nB f (s:=bE s (aa s g).hold) (o:=g) (g:=h) (x:={ aa s g with hold:=-1,place:=ba }) (by rw [pY (fC _ _)];exact (e2 { aa s g with hold:=-1,t:=(aa s g).t } ba).trans (e3 (aa s g) (-1) (aa s g).t));rw [this,pY (fC _ _)]
 ·rw [AD f (fun x=>e2 x _),Fz f e];have h1:∀ h,f (aa (ai s g { aa s g with t:=s.step }) h)=f (aa s h):=fun h=>nB f (e3 (aa s g) (aa s g).hold s.step)
  have h2:=nB f (s:=ai s g { aa s g with t:=s.step }) (o:=(su s (aa s g).hold).g.toNat) (g:=h) (x:={ aa s (su s (aa s g).hold).g.toNat with bp:=true }) (by rw [h1];exact e4 _ _);rw [h2,h1]
theorem FF (s:ah) (g:Nat) (ba on:Int):(cX s g ba on).gs.length=s.gs.length:=by
 unfold cX;simp only
 split
 ·rw [bQ,fC]
 ·rw [sK,sL,bQ,bQ]
theorem xC (s:ah) (g:Nat):(cK s g).1.gs.length=s.gs.length:=by
 unfold cK;simp only;rw [bQ,M9]
theorem Ob (s:ah) (g:Nat) (h:jo s g) (hk:(ag s g).kind=9) (e0:(aa s g).place=24) :
  Pure prog 87 [.agg (az s),.c (nI g)] (.aY [.agg (az (bk s g).1),.c (bI (bk s g).2)]):=by
 have hg:=h.co.lt;have hf:Few s:=h.fit.toAnd;have hb:=hf.1;have C0:=cU s g hg h.co.cL;have K9:((ag s g).kind != 9)=false:=by rw [hk];rfl
 have aV:¬ ((ag s g).kind≠9):=by omega
 have aj:bk s g=bk s g:=rfl
 conv at aj=>rhs;unfold bk;simp only;rw [if_neg aV]
 have P:∀ c,((aa s g).place == c)=((24:Int) == c):=fun c=>by rw [e0]
 refine aq.intro func87 rfl rfl rfl (fun ok e=>?_);rw [if_pos e0] at aj;obtain ⟨k0,k1,kb,hm⟩:=h.lk (by omega);have D1:=Fy s g 25 hg hf k0 k1 kb hm;rw [aj]
 repeat (first | refine aJ (P _) ?_ | refine av ?_ | intro _)
 exact aA func87
theorem Oc (s:ah) (g:Nat) (h:jo s g) (hk:(ag s g).kind=9) (e0:(aa s g).place=31) :
  Pure prog 87 [.agg (az s),.c (nI g)] (.aY [.agg (az (bk s g).1),.c (bI (bk s g).2)]):=by
 have hg:=h.co.lt;have hf:Few s:=h.fit.toAnd;have hb:=hf.1;have C0:=cU s g hg h.co.cL;have K9:((ag s g).kind != 9)=false:=by rw [hk];rfl
 have aV:¬ ((ag s g).kind≠9):=by omega
 have aj:bk s g=bk s g:=rfl
 conv at aj=>rhs;unfold bk;simp only;rw [if_neg aV]
 have P:∀ c,((aa s g).place == c)=((31:Int) == c):=fun c=>by rw [e0]
 refine aq.intro func87 rfl rfl rfl (fun ok e=>?_);rw [ay,ay,ay,ay,ay,ay,ay,ay] at aj;rw [if_pos e0] at aj;obtain ⟨k0,k1,kb,hm⟩:=h.lk (by omega);have D1:=Fy s g 32 hg hf k0 k1 kb hm;rw [aj]
 repeat (first | refine aJ (P _) ?_ | refine av ?_ | intro _)
 exact aA func87
theorem Od (s:ah) (g:Nat) (h:jo s g) (hk:(ag s g).kind=9) (e0:(aa s g).place=25) :
  Pure prog 87 [.agg (az s),.c (nI g)] (.aY [.agg (az (bk s g).1),.c (bI (bk s g).2)]):=by
 have hg:=h.co.lt;have hf:Few s:=h.fit.toAnd;have hb:=hf.1;have C0:=cU s g hg h.co.cL;have K9:((ag s g).kind != 9)=false:=by rw [hk];rfl
 have aV:¬ ((ag s g).kind≠9):=by omega
 have aj:bk s g=bk s g:=rfl
 conv at aj=>rhs;unfold bk;simp only;rw [if_neg aV]
 have P:∀ c,((aa s g).place == c)=((25:Int) == c):=fun c=>by rw [e0]
 refine aq.intro func87 rfl rfl rfl (fun ok e=>?_);rw [ay] at aj;rw [if_pos e0] at aj;have D1:=NX s g (ag s g) (h.ha (by omega));rw [aj]
 repeat (first | refine aJ (P _) ?_ | refine av ?_ | intro _)
 exact aA func87
theorem Oe (s:ah) (g:Nat) (h:jo s g) (hk:(ag s g).kind=9) (e0:(aa s g).place=26) :
  Pure prog 87 [.agg (az s),.c (nI g)] (.aY [.agg (az (bk s g).1),.c (bI (bk s g).2)]):=by
 have hg:=h.co.lt;have hf:Few s:=h.fit.toAnd;have hb:=hf.1;have C0:=cU s g hg h.co.cL;have K9:((ag s g).kind != 9)=false:=by rw [hk];rfl
 have aV:¬ ((ag s g).kind≠9):=by omega
 have aj:bk s g=bk s g:=rfl
 conv at aj=>rhs;unfold bk;simp only;rw [if_neg aV]
 have P:∀ c,((aa s g).place == c)=((26:Int) == c):=fun c=>by rw [e0]
 refine aq.intro func87 rfl rfl rfl (fun ok e=>?_);rw [ay,ay] at aj;rw [if_pos e0] at aj;obtain ⟨hi,k0,k1⟩:=h.N6 e0;have D1:=Av s g 25 27 hg hi h.fit;have D2:=AB (cX s g 25 27) g (by rw [FF];exact hg) (by rw [FF];exact hb) (fun _=>by rw [FE (f:=Gr.k) (fun _ _ _ _=>rfl) (fun _ _=>rfl) (fun _ _ _=>rfl) (fun _ _=>rfl),FE (f:=Gr.order) (fun _ _ _ _=>rfl) (fun _ _=>rfl) (fun _ _ _=>rfl) (fun _ _=>rfl)];exact ⟨k0,k1⟩);rw [aj]
 repeat (first | refine aJ (P _) ?_ | refine av ?_ | intro _)
 exact aA func87
theorem Of (s:ah) (g:Nat) (h:jo s g) (hk:(ag s g).kind=9) (e0:(aa s g).place=27) :
  Pure prog 87 [.agg (az s),.c (nI g)] (.aY [.agg (az (bk s g).1),.c (bI (bk s g).2)]):=by
 have hg:=h.co.lt;have hf:Few s:=h.fit.toAnd;have hb:=hf.1;have C0:=cU s g hg h.co.cL;have K9:((ag s g).kind != 9)=false:=by rw [hk];rfl
 have aV:¬ ((ag s g).kind≠9):=by omega
 have aj:bk s g=bk s g:=rfl
 conv at aj=>rhs;unfold bk;simp only;rw [if_neg aV]
 have P:∀ c,((aa s g).place == c)=((27:Int) == c):=fun c=>by rw [e0]
 refine aq.intro func87 rfl rfl rfl (fun ok e=>?_);rw [ay,ay,ay] at aj;rw [if_pos e0] at aj;have D1:=NY s g (ag s g) (h.ha (by omega)) (h.N7 e0);rw [aj]
 repeat (first | refine aJ (P _) ?_ | refine av ?_ | intro _)
 exact aA func87
theorem Og (s:ah) (g:Nat) (h:jo s g) (hk:(ag s g).kind=9) (e0:(aa s g).place=28) :
  Pure prog 87 [.agg (az s),.c (nI g)] (.aY [.agg (az (bk s g).1),.c (bI (bk s g).2)]):=by
 have hg:=h.co.lt;have hf:Few s:=h.fit.toAnd;have hb:=hf.1;have C0:=cU s g hg h.co.cL;have K9:((ag s g).kind != 9)=false:=by rw [hk];rfl
 have aV:¬ ((ag s g).kind≠9):=by omega
 have aj:bk s g=bk s g:=rfl
 conv at aj=>rhs;unfold bk;simp only;rw [if_neg aV]
 have P:∀ c,((aa s g).place == c)=((28:Int) == c):=fun c=>by rw [e0]
 refine aq.intro func87 rfl rfl rfl (fun ok e=>?_);rw [ay,ay,ay,ay] at aj;rw [if_pos e0] at aj;obtain ⟨p1,p2,p3⟩:=h.N8 e0;have D1:=NZ s g (ag s g) (h.ha (by omega)) p1 p2 p3 (h.sg (by omega));rw [aj]
 repeat (first | refine aJ (P _) ?_ | refine av ?_ | intro _)
 exact aA func87
theorem Oh (s:ah) (g:Nat) (h:jo s g) (hk:(ag s g).kind=9) (e0:(aa s g).place=29) :
  Pure prog 87 [.agg (az s),.c (nI g)] (.aY [.agg (az (bk s g).1),.c (bI (bk s g).2)]):=by
 have hg:=h.co.lt;have hf:Few s:=h.fit.toAnd;have hb:=hf.1;have C0:=cU s g hg h.co.cL;have K9:((ag s g).kind != 9)=false:=by rw [hk];rfl
 have aV:¬ ((ag s g).kind≠9):=by omega
 have aj:bk s g=bk s g:=rfl
 conv at aj=>rhs;unfold bk;simp only;rw [if_neg aV]
 have P:∀ c,((aa s g).place == c)=((29:Int) == c):=fun c=>by rw [e0]
 refine aq.intro func87 rfl rfl rfl (fun ok e=>?_);rw [ay,ay,ay,ay,ay] at aj;rw [if_pos e0] at aj;have D1:=N0 s g (ag s g) (h.ha (by omega)) (h.sg (by omega));rw [aj]
 repeat (first | refine aJ (P _) ?_ | refine av ?_ | intro _)
 exact aA func87
theorem Oi (s:ah) (g:Nat) (h:jo s g) (hk:(ag s g).kind=9) (e0:(aa s g).place=14) :
  Pure prog 87 [.agg (az s),.c (nI g)] (.aY [.agg (az (bk s g).1),.c (bI (bk s g).2)]):=by
 have hg:=h.co.lt;have hf:Few s:=h.fit.toAnd;have hb:=hf.1;have C0:=cU s g hg h.co.cL;have K9:((ag s g).kind != 9)=false:=by rw [hk];rfl
 have aV:¬ ((ag s g).kind≠9):=by omega
 have aj:bk s g=bk s g:=rfl
 conv at aj=>rhs;unfold bk;simp only;rw [if_neg aV]
 have P:∀ c,((aa s g).place == c)=((14:Int) == c):=fun c=>by rw [e0]
 refine aq.intro func87 rfl rfl rfl (fun ok e=>?_);rw [ay,ay,ay,ay,ay,ay,ay] at aj;rw [if_pos e0] at aj;obtain ⟨p1,p2⟩:=h.vq e0;have D1:=N2 s g hg hb p1 p2;rw [aj]
 repeat (first | refine aJ (P _) ?_ | refine av ?_ | intro _)
 exact aA func87
theorem Oj (s:ah) (g:Nat) (h:jo s g) (hk:(ag s g).kind=9) (e0:(aa s g).place=32) :
  Pure prog 87 [.agg (az s),.c (nI g)] (.aY [.agg (az (bk s g).1),.c (bI (bk s g).2)]):=by
 have hg:=h.co.lt;have hf:Few s:=h.fit.toAnd;have hb:=hf.1;have C0:=cU s g hg h.co.cL;have K9:((ag s g).kind != 9)=false:=by rw [hk];rfl
 have aV:¬ ((ag s g).kind≠9):=by omega
 have aj:bk s g=bk s g:=rfl
 conv at aj=>rhs;unfold bk;simp only;rw [if_neg aV]
 have P:∀ c,((aa s g).place == c)=((32:Int) == c):=fun c=>by rw [e0]
 refine aq.intro func87 rfl rfl rfl (fun ok e=>?_);rw [ay,ay,ay,ay,ay,ay,ay,ay,ay] at aj;rw [if_pos e0] at aj;obtain ⟨k0,k1,i0,i1,j0,j1⟩:=h.N9 e0;have D1:=N3 s g hg h.fit k0 k1 i0 i1 j0 j1;rw [aj]
 repeat (first | refine aJ (P _) ?_ | refine av ?_ | intro _)
 exact aA func87
theorem Ok (s:ah) (g:Nat) (h:jo s g) (hk:(ag s g).kind=9) (e0:(aa s g).place=34) :
  Pure prog 87 [.agg (az s),.c (nI g)] (.aY [.agg (az (bk s g).1),.c (bI (bk s g).2)]):=by
 have hg:=h.co.lt;have hf:Few s:=h.fit.toAnd;have hb:=hf.1;have C0:=cU s g hg h.co.cL;have K9:((ag s g).kind != 9)=false:=by rw [hk];rfl
 have aV:¬ ((ag s g).kind≠9):=by omega
 have aj:bk s g=bk s g:=rfl
 conv at aj=>rhs;unfold bk;simp only;rw [if_neg aV]
 have P:∀ c,((aa s g).place == c)=((34:Int) == c):=fun c=>by rw [e0]
 refine aq.intro func87 rfl rfl rfl (fun ok e=>?_);rw [ay,ay,ay,ay,ay,ay,ay,ay,ay,ay,ay] at aj;rw [if_pos e0] at aj;obtain ⟨k0,k1,i0,i1,hc,hp,j1⟩:=h.Oa e0;have D1:=N4 s g hg h.fit k0 k1 i0 i1 hc hp j1;rw [aj]
 repeat (first | refine aJ (P _) ?_ | refine av ?_ | intro _)
 exact aA func87
theorem Ol (s:ah) (g:Nat) (h:jo s g) (hk:(ag s g).kind=9) (e0:(aa s g).place=33) :
  Pure prog 87 [.agg (az s),.c (nI g)] (.aY [.agg (az (bk s g).1),.c (bI (bk s g).2)]):=by
 have hg:=h.co.lt;have hf:Few s:=h.fit.toAnd;have hb:=hf.1;have C0:=cU s g hg h.co.cL;have K9:((ag s g).kind != 9)=false:=by rw [hk];rfl
 have aV:¬ ((ag s g).kind≠9):=by omega
 have aj:bk s g=bk s g:=rfl
 conv at aj=>rhs;unfold bk;simp only;rw [if_neg aV]
 have P:∀ c,((aa s g).place == c)=((33:Int) == c):=fun c=>by rw [e0]
 refine aq.intro func87 rfl rfl rfl (fun ok e=>?_);rw [ay,ay,ay,ay,ay,ay,ay,ay,ay,ay] at aj;rw [if_pos e0] at aj;obtain ⟨k0,k1,kb,hm⟩:=h.fr (by omega);have D1:=FD s g hg hf k0 k1 kb hm;have g1:g < (cK s g).1.gs.length:=by rw [xC];exact hg
 have b1:(cK s g).1.gs.length≤100000:=by rw [xC];exact hb
 cases cu:(cK s g).2 with
 | true =>
  rw [if_pos cu] at aj;rw [cu] at D1;rw [aj];generalize (cK s g).1=s1 at *
  repeat (first | refine aJ (P _) ?_ | refine av ?_ | intro _)
  exact aA func87
 | false =>
  rw [if_neg (by rw [cu];simp)] at aj;rw [cu] at D1;rw [aj];generalize (cK s g).1=s1 at *
  repeat (first | refine aJ (P _) ?_ | refine aI (ei s1 g 34 g1 b1) ?_ | refine av ?_ | intro _)
  exact aA func87
theorem Om (s:ah) (g:Nat) (h:jo s g) (hk:(ag s g).kind=9) (e0:(aa s g).place=30) :
  Pure prog 87 [.agg (az s),.c (nI g)] (.aY [.agg (az (bk s g).1),.c (bI (bk s g).2)]):=by
 have hg:=h.co.lt;have hf:Few s:=h.fit.toAnd;have hb:=hf.1;have C0:=cU s g hg h.co.cL;have K9:((ag s g).kind != 9)=false:=by rw [hk];rfl
 have aV:¬ ((ag s g).kind≠9):=by omega
 have aj:bk s g=bk s g:=rfl
 conv at aj=>rhs;unfold bk;simp only;rw [if_neg aV]
 have P:∀ c,((aa s g).place == c)=((30:Int) == c):=fun c=>by rw [e0]
 refine aq.intro func87 rfl rfl rfl (fun ok e=>?_);rw [ay,ay,ay,ay,ay,ay] at aj;rw [if_pos e0] at aj;obtain ⟨k0,k1,kb,hm⟩:=h.fr (by omega);have D1:=FD s g hg hf k0 k1 kb hm;have g1:g < (cK s g).1.gs.length:=by rw [xC];exact hg
 have b1:(cK s g).1.gs.length≤100000:=by rw [xC];exact hb
 cases cu:(cK s g).2 with
 | true =>
  rw [if_pos cu] at aj;rw [cu] at D1;rw [aj];generalize (cK s g).1=s1 at *
  repeat (first | refine aJ (P _) ?_ | refine av ?_ | intro _)
  exact aA func87
 | false =>
  rw [if_neg (by rw [cu];simp)] at aj;rw [cu] at D1
  by_cases hc:(aa s g).res.code=0
  ·rw [if_pos hc] at aj;rw [aj];generalize (cK s g).1=s1 at *;have On:((aa s g).res.code == 0)=true:=by simpa using hc
   repeat (first | refine aJ (P _) ?_ | refine aI (ei s1 g 13 g1 b1) ?_ | refine av ?_ | intro _)
   exact aA func87
  ·rw [if_neg hc] at aj;have On:((aa s g).res.code == 0)=false:=by simpa using hc
   have CS:=N1 (aa s g).au (Nat.le_trans (h.fit.sg g) (by omega))
   cases hs:lf (aa s g).au with
   | true =>
    rw [if_pos hs] at aj;rw [hs] at CS;rw [aj];generalize (cK s g).1=s1 at *
    repeat (first | refine aJ (P _) ?_ | refine aI (ei s1 g 34 g1 b1) ?_ | refine av ?_ | intro _)
    exact aA func87
   | false =>
    rw [if_neg (by rw [hs];simp)] at aj;rw [hs] at CS;rw [aj];generalize (cK s g).1=s1 at *
    repeat (first | refine aJ (P _) ?_ | refine aI (u7 s1 g g1 b1) ?_ | refine av ?_ | intro _)
    exact aA func87
theorem Oo (s:ah) (g:Nat) (h:jo s g) (hk:(ag s g).kind=9) (e0:(aa s g).place=13) :
  Pure prog 87 [.agg (az s),.c (nI g)] (.aY [.agg (az (bk s g).1),.c (bI (bk s g).2)]):=by
 have hg:=h.co.lt;have hf:Few s:=h.fit.toAnd;have hb:=hf.1;have C0:=cU s g hg h.co.cL;have K9:((ag s g).kind != 9)=false:=by rw [hk];rfl
 have aV:¬ ((ag s g).kind≠9):=by omega
 have aj:bk s g=bk s g:=rfl
 conv at aj=>rhs;unfold bk;simp only;rw [if_neg aV]
 have P:∀ c,((aa s g).place == c)=((13:Int) == c):=fun c=>by rw [e0]
 refine aq.intro func87 rfl rfl rfl (fun ok e=>?_);rw [ay,ay,ay,ay,ay,ay,ay,ay,ay,ay,ay,ay] at aj;rw [if_pos (by omega)] at aj;have D1:=ep s g h.co;rw [aj]
 repeat (first | refine aJ (P _) ?_ | refine av ?_ | intro _)
 exact aA func87
theorem Oq (s:ah) (g:Nat) (h:jo s g) (hk:(ag s g).kind=9) (e0:(aa s g).place=17) :
  Pure prog 87 [.agg (az s),.c (nI g)] (.aY [.agg (az (bk s g).1),.c (bI (bk s g).2)]):=by
 have hg:=h.co.lt;have hf:Few s:=h.fit.toAnd;have hb:=hf.1;have C0:=cU s g hg h.co.cL;have K9:((ag s g).kind != 9)=false:=by rw [hk];rfl
 have aV:¬ ((ag s g).kind≠9):=by omega
 have aj:bk s g=bk s g:=rfl
 conv at aj=>rhs;unfold bk;simp only;rw [if_neg aV]
 have P:∀ c,((aa s g).place == c)=((17:Int) == c):=fun c=>by rw [e0]
 refine aq.intro func87 rfl rfl rfl (fun ok e=>?_);rw [ay,ay,ay,ay,ay,ay,ay,ay,ay,ay,ay,ay] at aj;rw [if_pos (by omega)] at aj;have D1:=ep s g h.co;rw [aj]
 repeat (first | refine aJ (P _) ?_ | refine av ?_ | intro _)
 exact aA func87
theorem Ot (s:ah) (g:Nat) (h:jo s g) (hk:(ag s g).kind=9) (e0:¬ ((aa s g).place=24∨(aa s g).place=25∨(aa s g).place=26∨(aa s g).place=27∨(aa s g).place=28∨(aa s g).place=29∨(aa s g).place=30∨(aa s g).place=14∨(aa s g).place=31∨(aa s g).place=32∨(aa s g).place=33∨(aa s g).place=34∨(aa s g).place=13∨(aa s g).place=17)) :
  Pure prog 87 [.agg (az s),.c (nI g)] (.aY [.agg (az (bk s g).1),.c (bI (bk s g).2)]):=by
 have hg:=h.co.lt;have hf:Few s:=h.fit.toAnd;have hb:=hf.1;have C0:=cU s g hg h.co.cL;have K9:((ag s g).kind != 9)=false:=by rw [hk];rfl
 have aV:¬ ((ag s g).kind≠9):=by omega
 have aj:bk s g=bk s g:=rfl
 conv at aj=>rhs;unfold bk;simp only;rw [if_neg aV]
 refine aq.intro func87 rfl rfl rfl (fun ok e=>?_);rw [ay,ay,ay,ay,ay,ay,ay,ay,ay,ay,ay,ay,ay] at aj;have Q7:((aa s g).place == 24)=false:=by simp;omega
 have Q8:((aa s g).place == 25)=false:=by simp;omega
 have Q9:((aa s g).place == 26)=false:=by simp;omega
 have Ra:((aa s g).place == 27)=false:=by simp;omega
 have Rb:((aa s g).place == 28)=false:=by simp;omega
 have Rc:((aa s g).place == 29)=false:=by simp;omega
 have Rd:((aa s g).place == 30)=false:=by simp;omega
 have Fo:((aa s g).place == 14)=false:=by simp;omega
 have Re:((aa s g).place == 31)=false:=by simp;omega
 have Rf:((aa s g).place == 32)=false:=by simp;omega
 have Rh:((aa s g).place == 33)=false:=by simp;omega
 have Ri:((aa s g).place == 34)=false:=by simp;omega
 have Rj:((aa s g).place == 13)=false:=by simp;omega
 have Rk:((aa s g).place == 17)=false:=by simp;omega
 rw [aj]
 repeat (first | refine av ?_ | intro _)
 exact aA func87
theorem Ou (s:ah) (g:Nat) (h:jo s g) :
  Pure prog 87 [.agg (az s),.c (nI g)] (.aY [.agg (az (bk s g).1),.c (bI (bk s g).2)]):=by
 by_cases hk:(ag s g).kind=9
 case neg =>
  have hg:=h.co.lt;have C0:=cU s g hg h.co.cL;refine aq.intro func87 rfl rfl rfl (fun ok e=>?_);have K9:((ag s g).kind != 9)=true:=by simp;omega
  have er:bk s g=(s,false):=by unfold bk;simp only;rw [if_pos (by omega)]
  rw [er]
  repeat (first | refine av ?_ | intro _)
  exact aA func87
 case pos =>
  by_cases uM:(aa s g).place=24
  ·exact Ob s g h hk uM
  by_cases uO:(aa s g).place=25
  ·exact Od s g h hk uO
  by_cases uP:(aa s g).place=26
  ·exact Oe s g h hk uP
  by_cases uQ:(aa s g).place=27
  ·exact Of s g h hk uQ
  by_cases uR:(aa s g).place=28
  ·exact Og s g h hk uR
  by_cases uS:(aa s g).place=29
  ·exact Oh s g h hk uS
  by_cases uT:(aa s g).place=30
  ·exact Om s g h hk uT
  by_cases iC:(aa s g).place=14
  ·exact Oi s g h hk iC
  by_cases sC:(aa s g).place=31
  ·exact Oc s g h hk sC
  by_cases uU:(aa s g).place=32
  ·exact Oj s g h hk uU
  by_cases uV:(aa s g).place=33
  ·exact Ol s g h hk uV
  by_cases uW:(aa s g).place=34
  ·exact Ok s g h hk uW
  by_cases qH:(aa s g).place=13
  ·exact Oo s g h hk qH
  by_cases pK:(aa s g).place=17
  ·exact Oq s g h hk pK
  exact Ot s g h hk (by omega)
end Fl
end Go.Proofs.YtgjpdogjekmemaaGreat
