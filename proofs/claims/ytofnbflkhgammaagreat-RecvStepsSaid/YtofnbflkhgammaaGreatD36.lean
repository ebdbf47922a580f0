/-
  What the laws need, part D36.
  Conditions: none.
-/
import Derived.Test.YtofnbflkhgammaaGreatD35
set_option linter.unusedVariables false
set_option linter.unusedSimpArgs false
set_option linter.unnecessarySimpa false
set_option maxHeartbeats 2000000
namespace Go.Proofs.YtofnbflkhgammaaGreat
open Go.RowKit
namespace Fl
open Sx Go.Proofs.Tryz
set_option maxRecDepth 100000
structure kN (s:ah) (g:Nat):Prop where
 co:xH s g
 fit:Fit s
 lk:(aa s g).place=24∨(aa s g).place=31→0≤(aa s g).k∧(aa s g).k < (aa s g).aF.length∧(aa s g).aF.length≤100000∧aN s (aD (aa s g).aF (aa s g).k)=true
 ha:(aa s g).place=25∨(aa s g).place=27∨(aa s g).place=28∨(aa s g).place=29→AF s g (ag s g)
 Yl:(aa s g).place=26→dz s (aa s g).hold∧0≤(aa s g).k∧(aa s g).k < (aa s g).order.length
 Ym:(aa s g).place=27→dz s (aa s g).hold
 Yn:(aa s g).place=28→oN s∧g < s.cache.length∧((aS s g).2.2=true→0≤(aS s g).2.1∧(aS s g).2.1 < s.aC.length)
 sg:(aa s g).place=28∨(aa s g).place=29→(aa s g).ay.length=(ag s g).cases.length
 fr:(aa s g).place=30∨(aa s g).place=33→1≤(aa s g).k∧(aa s g).k≤(aa s g).aF.length∧(aa s g).aF.length≤100000∧aN s (aD (aa s g).aF ((aa s g).k - 1))=true
 qX:(aa s g).place=14→0≤(aa s g).param∧(aa s g).param < s.aC.length
 Yo:(aa s g).place=32→0≤(aa s g).k∧(aa s g).k < (aa s g).order.length∧0≤aD (aa s g).order (aa s g).k∧aD (aa s g).order (aa s g).k < (aa s g).ay.length∧0≤aD (aa s g).ay (aD (aa s g).order (aa s g).k)∧aD (aa s g).ay (aD (aa s g).order (aa s g).k) < s.aC.length
 Yp:(aa s g).place=34→0≤(aa s g).k∧(aa s g).k < (aa s g).order.length∧0≤aD (aa s g).order (aa s g).k∧aD (aa s g).order (aa s g).k < (aa s g).ay.length∧g < s.cache.length∧oN s∧aD (aa s g).ay (aD (aa s g).order (aa s g).k) < s.aC.length
theorem Og {α:Type} (f:Gr→α) {s:ah} {g:Nat} {ba on:Int} (e:∀ (x:Gr) (a b c:Int),f { x with bQ:=a,wi:=b,dL:=c }=f x) (e2:∀ (x:Gr) (p:Int),f { x with place:=p }=f x) (e3:∀ (x:Gr) (a b:Int),f { x with hold:=a,t:=b }=f x) (e4:∀ (x:Gr) (b:Bool),f { x with bz:=b }=f x) (h:Nat):f (aa (cQ s g ba on) h)=f (aa s h):=by
 unfold cQ;simp only
 split
 ·have:=qZ f (s:=bq s (aa s g).hold) (o:=g) (g:=h) (x:={ aa s g with hold:=-1,place:=ba }) (by rw [uh (fX _ _)];exact (e2 { aa s g with hold:=-1,t:=(aa s g).t } ba).trans (e3 (aa s g) (-1) (aa s g).t));rw [this,uh (fX _ _)]
 ·rw [Hf f (fun x=>e2 x _),Ob f e];have h1:∀ h,f (aa (ai s g { aa s g with t:=s.step }) h)=f (aa s h):=fun h=>qZ f (e3 (aa s g) (aa s g).hold s.step)
  have h2:=qZ f (s:=ai s g { aa s g with t:=s.step }) (o:=(su s (aa s g).hold).g.toNat) (g:=h) (x:={ aa s (su s (aa s g).hold).g.toNat with bz:=true }) (by rw [h1];exact e4 _ _);rw [h2,h1]
theorem Oh (s:ah) (g:Nat) (ba on:Int):(cQ s g ba on).gs.length=s.gs.length:=by
 unfold cQ;simp only
 split
 ·rw [cr,fX]
 ·rw [xI,xJ,cr,cr]
theorem Db (s:ah) (g:Nat):(dc s g).1.gs.length=s.gs.length:=by
 unfold dc;simp only;rw [cr,Xv]
theorem Yq (s:ah) (g:Nat) (h:kN s g) (hk:(ag s g).kind=9) (e0:(aa s g).place=24) :
  Pure prog 179 [.agg (az s),.c (nI g)] (.aZ [.agg (az (bL s g).1),.c (bI (bL s g).2)]):=by
 have hg:=h.co.lt;have hf:Few s:=h.fit.toAnd;have hb:=hf.1;have C0:=dA s g hg h.co.dh;have K9:((ag s g).kind != 9)=false:=by rw [hk];rfl
 have br:¬ ((ag s g).kind≠9):=by omega
 have aj:bL s g=bL s g:=rfl
 conv at aj=>rhs;unfold bL;simp only;rw [if_neg br]
 have P:∀ c,((aa s g).place == c)=((24:Int) == c):=fun c=>by rw [e0]
 refine ax.intro func179 rfl rfl rfl (fun ok e=>?_);rw [if_pos e0] at aj;obtain ⟨k0,k1,kb,hm⟩:=h.lk (by omega);have D1:=Oa s g 25 hg hf k0 k1 kb hm;rw [aj]
 repeat (first | refine aL (P _) ?_ | refine av ?_ | intro _)
 exact aA func179
theorem Yr (s:ah) (g:Nat) (h:kN s g) (hk:(ag s g).kind=9) (e0:(aa s g).place=31) :
  Pure prog 179 [.agg (az s),.c (nI g)] (.aZ [.agg (az (bL s g).1),.c (bI (bL s g).2)]):=by
 have hg:=h.co.lt;have hf:Few s:=h.fit.toAnd;have hb:=hf.1;have C0:=dA s g hg h.co.dh;have K9:((ag s g).kind != 9)=false:=by rw [hk];rfl
 have br:¬ ((ag s g).kind≠9):=by omega
 have aj:bL s g=bL s g:=rfl
 conv at aj=>rhs;unfold bL;simp only;rw [if_neg br]
 have P:∀ c,((aa s g).place == c)=((31:Int) == c):=fun c=>by rw [e0]
 refine ax.intro func179 rfl rfl rfl (fun ok e=>?_);rw [aB,aB,aB,aB,aB,aB,aB,aB] at aj;rw [if_pos e0] at aj;obtain ⟨k0,k1,kb,hm⟩:=h.lk (by omega);have D1:=Oa s g 32 hg hf k0 k1 kb hm;rw [aj]
 repeat (first | refine aL (P _) ?_ | refine av ?_ | intro _)
 exact aA func179
theorem Ys (s:ah) (g:Nat) (h:kN s g) (hk:(ag s g).kind=9) (e0:(aa s g).place=25) :
  Pure prog 179 [.agg (az s),.c (nI g)] (.aZ [.agg (az (bL s g).1),.c (bI (bL s g).2)]):=by
 have hg:=h.co.lt;have hf:Few s:=h.fit.toAnd;have hb:=hf.1;have C0:=dA s g hg h.co.dh;have K9:((ag s g).kind != 9)=false:=by rw [hk];rfl
 have br:¬ ((ag s g).kind≠9):=by omega
 have aj:bL s g=bL s g:=rfl
 conv at aj=>rhs;unfold bL;simp only;rw [if_neg br]
 have P:∀ c,((aa s g).place == c)=((25:Int) == c):=fun c=>by rw [e0]
 refine ax.intro func179 rfl rfl rfl (fun ok e=>?_);rw [aB] at aj;rw [if_pos e0] at aj;have D1:=Yc s g (ag s g) (h.ha (by omega));rw [aj]
 repeat (first | refine aL (P _) ?_ | refine av ?_ | intro _)
 exact aA func179
theorem Yt (s:ah) (g:Nat) (h:kN s g) (hk:(ag s g).kind=9) (e0:(aa s g).place=26) :
  Pure prog 179 [.agg (az s),.c (nI g)] (.aZ [.agg (az (bL s g).1),.c (bI (bL s g).2)]):=by
 have hg:=h.co.lt;have hf:Few s:=h.fit.toAnd;have hb:=hf.1;have C0:=dA s g hg h.co.dh;have K9:((ag s g).kind != 9)=false:=by rw [hk];rfl
 have br:¬ ((ag s g).kind≠9):=by omega
 have aj:bL s g=bL s g:=rfl
 conv at aj=>rhs;unfold bL;simp only;rw [if_neg br]
 have P:∀ c,((aa s g).place == c)=((26:Int) == c):=fun c=>by rw [e0]
 refine ax.intro func179 rfl rfl rfl (fun ok e=>?_);rw [aB,aB] at aj;rw [if_pos e0] at aj;obtain ⟨hi,k0,k1⟩:=h.Yl e0;have D1:=GZ s g 25 27 hg hi h.fit;have D2:=He (cQ s g 25 27) g (by rw [Oh];exact hg) (by rw [Oh];exact hb) (fun _=>by rw [Og (f:=Gr.k) (fun _ _ _ _=>rfl) (fun _ _=>rfl) (fun _ _ _=>rfl) (fun _ _=>rfl),Og (f:=Gr.order) (fun _ _ _ _=>rfl) (fun _ _=>rfl) (fun _ _ _=>rfl) (fun _ _=>rfl)];exact ⟨k0,k1⟩);rw [aj]
 repeat (first | refine aL (P _) ?_ | refine av ?_ | intro _)
 exact aA func179
theorem Yu (s:ah) (g:Nat) (h:kN s g) (hk:(ag s g).kind=9) (e0:(aa s g).place=27) :
  Pure prog 179 [.agg (az s),.c (nI g)] (.aZ [.agg (az (bL s g).1),.c (bI (bL s g).2)]):=by
 have hg:=h.co.lt;have hf:Few s:=h.fit.toAnd;have hb:=hf.1;have C0:=dA s g hg h.co.dh;have K9:((ag s g).kind != 9)=false:=by rw [hk];rfl
 have br:¬ ((ag s g).kind≠9):=by omega
 have aj:bL s g=bL s g:=rfl
 conv at aj=>rhs;unfold bL;simp only;rw [if_neg br]
 have P:∀ c,((aa s g).place == c)=((27:Int) == c):=fun c=>by rw [e0]
 refine ax.intro func179 rfl rfl rfl (fun ok e=>?_);rw [aB,aB,aB] at aj;rw [if_pos e0] at aj;have D1:=Yd s g (ag s g) (h.ha (by omega)) (h.Ym e0);rw [aj]
 repeat (first | refine aL (P _) ?_ | refine av ?_ | intro _)
 exact aA func179
theorem Yv (s:ah) (g:Nat) (h:kN s g) (hk:(ag s g).kind=9) (e0:(aa s g).place=28) :
  Pure prog 179 [.agg (az s),.c (nI g)] (.aZ [.agg (az (bL s g).1),.c (bI (bL s g).2)]):=by
 have hg:=h.co.lt;have hf:Few s:=h.fit.toAnd;have hb:=hf.1;have C0:=dA s g hg h.co.dh;have K9:((ag s g).kind != 9)=false:=by rw [hk];rfl
 have br:¬ ((ag s g).kind≠9):=by omega
 have aj:bL s g=bL s g:=rfl
 conv at aj=>rhs;unfold bL;simp only;rw [if_neg br]
 have P:∀ c,((aa s g).place == c)=((28:Int) == c):=fun c=>by rw [e0]
 refine ax.intro func179 rfl rfl rfl (fun ok e=>?_);rw [aB,aB,aB,aB] at aj;rw [if_pos e0] at aj;obtain ⟨p1,p2,p3⟩:=h.Yn e0;have D1:=Ye s g (ag s g) (h.ha (by omega)) p1 p2 p3 (h.sg (by omega));rw [aj]
 repeat (first | refine aL (P _) ?_ | refine av ?_ | intro _)
 exact aA func179
theorem Yw (s:ah) (g:Nat) (h:kN s g) (hk:(ag s g).kind=9) (e0:(aa s g).place=29) :
  Pure prog 179 [.agg (az s),.c (nI g)] (.aZ [.agg (az (bL s g).1),.c (bI (bL s g).2)]):=by
 have hg:=h.co.lt;have hf:Few s:=h.fit.toAnd;have hb:=hf.1;have C0:=dA s g hg h.co.dh;have K9:((ag s g).kind != 9)=false:=by rw [hk];rfl
 have br:¬ ((ag s g).kind≠9):=by omega
 have aj:bL s g=bL s g:=rfl
 conv at aj=>rhs;unfold bL;simp only;rw [if_neg br]
 have P:∀ c,((aa s g).place == c)=((29:Int) == c):=fun c=>by rw [e0]
 refine ax.intro func179 rfl rfl rfl (fun ok e=>?_);rw [aB,aB,aB,aB,aB] at aj;rw [if_pos e0] at aj;have D1:=Yf s g (ag s g) (h.ha (by omega)) (h.sg (by omega));rw [aj]
 repeat (first | refine aL (P _) ?_ | refine av ?_ | intro _)
 exact aA func179
theorem Yx (s:ah) (g:Nat) (h:kN s g) (hk:(ag s g).kind=9) (e0:(aa s g).place=14) :
  Pure prog 179 [.agg (az s),.c (nI g)] (.aZ [.agg (az (bL s g).1),.c (bI (bL s g).2)]):=by
 have hg:=h.co.lt;have hf:Few s:=h.fit.toAnd;have hb:=hf.1;have C0:=dA s g hg h.co.dh;have K9:((ag s g).kind != 9)=false:=by rw [hk];rfl
 have br:¬ ((ag s g).kind≠9):=by omega
 have aj:bL s g=bL s g:=rfl
 conv at aj=>rhs;unfold bL;simp only;rw [if_neg br]
 have P:∀ c,((aa s g).place == c)=((14:Int) == c):=fun c=>by rw [e0]
 refine ax.intro func179 rfl rfl rfl (fun ok e=>?_);rw [aB,aB,aB,aB,aB,aB,aB] at aj;rw [if_pos e0] at aj;obtain ⟨p1,p2⟩:=h.qX e0;have D1:=Yh s g hg hb p1 p2;rw [aj]
 repeat (first | refine aL (P _) ?_ | refine av ?_ | intro _)
 exact aA func179
theorem Yy (s:ah) (g:Nat) (h:kN s g) (hk:(ag s g).kind=9) (e0:(aa s g).place=32) :
  Pure prog 179 [.agg (az s),.c (nI g)] (.aZ [.agg (az (bL s g).1),.c (bI (bL s g).2)]):=by
 have hg:=h.co.lt;have hf:Few s:=h.fit.toAnd;have hb:=hf.1;have C0:=dA s g hg h.co.dh;have K9:((ag s g).kind != 9)=false:=by rw [hk];rfl
 have br:¬ ((ag s g).kind≠9):=by omega
 have aj:bL s g=bL s g:=rfl
 conv at aj=>rhs;unfold bL;simp only;rw [if_neg br]
 have P:∀ c,((aa s g).place == c)=((32:Int) == c):=fun c=>by rw [e0]
 refine ax.intro func179 rfl rfl rfl (fun ok e=>?_);rw [aB,aB,aB,aB,aB,aB,aB,aB,aB] at aj;rw [if_pos e0] at aj;obtain ⟨k0,k1,i0,i1,j0,j1⟩:=h.Yo e0;have D1:=Yi s g hg h.fit k0 k1 i0 i1 j0 j1;rw [aj]
 repeat (first | refine aL (P _) ?_ | refine av ?_ | intro _)
 exact aA func179
theorem Yz (s:ah) (g:Nat) (h:kN s g) (hk:(ag s g).kind=9) (e0:(aa s g).place=34) :
  Pure prog 179 [.agg (az s),.c (nI g)] (.aZ [.agg (az (bL s g).1),.c (bI (bL s g).2)]):=by
 have hg:=h.co.lt;have hf:Few s:=h.fit.toAnd;have hb:=hf.1;have C0:=dA s g hg h.co.dh;have K9:((ag s g).kind != 9)=false:=by rw [hk];rfl
 have br:¬ ((ag s g).kind≠9):=by omega
 have aj:bL s g=bL s g:=rfl
 conv at aj=>rhs;unfold bL;simp only;rw [if_neg br]
 have P:∀ c,((aa s g).place == c)=((34:Int) == c):=fun c=>by rw [e0]
 refine ax.intro func179 rfl rfl rfl (fun ok e=>?_);rw [aB,aB,aB,aB,aB,aB,aB,aB,aB,aB,aB] at aj;rw [if_pos e0] at aj;obtain ⟨k0,k1,i0,i1,hc,hp,j1⟩:=h.Yp e0;have D1:=Yj s g hg h.fit k0 k1 i0 i1 hc hp j1;rw [aj]
 repeat (first | refine aL (P _) ?_ | refine av ?_ | intro _)
 exact aA func179
theorem YA (s:ah) (g:Nat) (h:kN s g) (hk:(ag s g).kind=9) (e0:(aa s g).place=33) :
  Pure prog 179 [.agg (az s),.c (nI g)] (.aZ [.agg (az (bL s g).1),.c (bI (bL s g).2)]):=by
 have hg:=h.co.lt;have hf:Few s:=h.fit.toAnd;have hb:=hf.1;have C0:=dA s g hg h.co.dh;have K9:((ag s g).kind != 9)=false:=by rw [hk];rfl
 have br:¬ ((ag s g).kind≠9):=by omega
 have aj:bL s g=bL s g:=rfl
 conv at aj=>rhs;unfold bL;simp only;rw [if_neg br]
 have P:∀ c,((aa s g).place == c)=((33:Int) == c):=fun c=>by rw [e0]
 refine ax.intro func179 rfl rfl rfl (fun ok e=>?_);rw [aB,aB,aB,aB,aB,aB,aB,aB,aB,aB] at aj;rw [if_pos e0] at aj;obtain ⟨k0,k1,kb,hm⟩:=h.fr (by omega);have D1:=Of s g hg hf k0 k1 kb hm;have g1:g < (dc s g).1.gs.length:=by rw [Db];exact hg
 have b1:(dc s g).1.gs.length≤100000:=by rw [Db];exact hb
 cases cB:(dc s g).2 with
 | true =>
  rw [if_pos cB] at aj;rw [cB] at D1;rw [aj];generalize (dc s g).1=s1 at *
  repeat (first | refine aL (P _) ?_ | refine av ?_ | intro _)
  exact aA func179
 | false =>
  rw [if_neg (by rw [cB];simp)] at aj;rw [cB] at D1;rw [aj];generalize (dc s g).1=s1 at *
  repeat (first | refine aL (P _) ?_ | refine aO (fM s1 g 34 g1 b1) ?_ | refine av ?_ | intro _)
  exact aA func179
theorem YB (s:ah) (g:Nat) (h:kN s g) (hk:(ag s g).kind=9) (e0:(aa s g).place=30) :
  Pure prog 179 [.agg (az s),.c (nI g)] (.aZ [.agg (az (bL s g).1),.c (bI (bL s g).2)]):=by
 have hg:=h.co.lt;have hf:Few s:=h.fit.toAnd;have hb:=hf.1;have C0:=dA s g hg h.co.dh;have K9:((ag s g).kind != 9)=false:=by rw [hk];rfl
 have br:¬ ((ag s g).kind≠9):=by omega
 have aj:bL s g=bL s g:=rfl
 conv at aj=>rhs;unfold bL;simp only;rw [if_neg br]
 have P:∀ c,((aa s g).place == c)=((30:Int) == c):=fun c=>by rw [e0]
 refine ax.intro func179 rfl rfl rfl (fun ok e=>?_);rw [aB,aB,aB,aB,aB,aB] at aj;rw [if_pos e0] at aj;obtain ⟨k0,k1,kb,hm⟩:=h.fr (by omega);have D1:=Of s g hg hf k0 k1 kb hm;have g1:g < (dc s g).1.gs.length:=by rw [Db];exact hg
 have b1:(dc s g).1.gs.length≤100000:=by rw [Db];exact hb
 cases cB:(dc s g).2 with
 | true =>
  rw [if_pos cB] at aj;rw [cB] at D1;rw [aj];generalize (dc s g).1=s1 at *
  repeat (first | refine aL (P _) ?_ | refine av ?_ | intro _)
  exact aA func179
 | false =>
  rw [if_neg (by rw [cB];simp)] at aj;rw [cB] at D1
  by_cases hc:(aa s g).res.code=0
  ·rw [if_pos hc] at aj;rw [aj];generalize (dc s g).1=s1 at *;have YC:((aa s g).res.code == 0)=true:=by simpa using hc
   repeat (first | refine aL (P _) ?_ | refine aO (fM s1 g 13 g1 b1) ?_ | refine av ?_ | intro _)
   exact aA func179
  ·rw [if_neg hc] at aj;have YC:((aa s g).res.code == 0)=false:=by simpa using hc
   have CS:=Yg (aa s g).ay (Nat.le_trans (h.fit.sg g) (by omega))
   cases hs:nZ (aa s g).ay with
   | true =>
    rw [if_pos hs] at aj;rw [hs] at CS;rw [aj];generalize (dc s g).1=s1 at *
    repeat (first | refine aL (P _) ?_ | refine aO (fM s1 g 34 g1 b1) ?_ | refine av ?_ | intro _)
    exact aA func179
   | false =>
    rw [if_neg (by rw [hs];simp)] at aj;rw [hs] at CS;rw [aj];generalize (dc s g).1=s1 at *
    repeat (first | refine aL (P _) ?_ | refine aO (zA s1 g g1 b1) ?_ | refine av ?_ | intro _)
    exact aA func179
theorem YD (s:ah) (g:Nat) (h:kN s g) (hk:(ag s g).kind=9) (e0:(aa s g).place=13) :
  Pure prog 179 [.agg (az s),.c (nI g)] (.aZ [.agg (az (bL s g).1),.c (bI (bL s g).2)]):=by
 have hg:=h.co.lt;have hf:Few s:=h.fit.toAnd;have hb:=hf.1;have C0:=dA s g hg h.co.dh;have K9:((ag s g).kind != 9)=false:=by rw [hk];rfl
 have br:¬ ((ag s g).kind≠9):=by omega
 have aj:bL s g=bL s g:=rfl
 conv at aj=>rhs;unfold bL;simp only;rw [if_neg br]
 have P:∀ c,((aa s g).place == c)=((13:Int) == c):=fun c=>by rw [e0]
 refine ax.intro func179 rfl rfl rfl (fun ok e=>?_);rw [aB,aB,aB,aB,aB,aB,aB,aB,aB,aB,aB,aB] at aj;rw [if_pos (by omega)] at aj;have D1:=fN s g h.co;rw [aj]
 repeat (first | refine aL (P _) ?_ | refine av ?_ | intro _)
 exact aA func179
theorem YE (s:ah) (g:Nat) (h:kN s g) (hk:(ag s g).kind=9) (e0:(aa s g).place=17) :
  Pure prog 179 [.agg (az s),.c (nI g)] (.aZ [.agg (az (bL s g).1),.c (bI (bL s g).2)]):=by
 have hg:=h.co.lt;have hf:Few s:=h.fit.toAnd;have hb:=hf.1;have C0:=dA s g hg h.co.dh;have K9:((ag s g).kind != 9)=false:=by rw [hk];rfl
 have br:¬ ((ag s g).kind≠9):=by omega
 have aj:bL s g=bL s g:=rfl
 conv at aj=>rhs;unfold bL;simp only;rw [if_neg br]
 have P:∀ c,((aa s g).place == c)=((17:Int) == c):=fun c=>by rw [e0]
 refine ax.intro func179 rfl rfl rfl (fun ok e=>?_);rw [aB,aB,aB,aB,aB,aB,aB,aB,aB,aB,aB,aB] at aj;rw [if_pos (by omega)] at aj;have D1:=fN s g h.co;rw [aj]
 repeat (first | refine aL (P _) ?_ | refine av ?_ | intro _)
 exact aA func179
theorem YF (s:ah) (g:Nat) (h:kN s g) (hk:(ag s g).kind=9) (e0:¬ ((aa s g).place=24∨(aa s g).place=25∨(aa s g).place=26∨(aa s g).place=27∨(aa s g).place=28∨(aa s g).place=29∨(aa s g).place=30∨(aa s g).place=14∨(aa s g).place=31∨(aa s g).place=32∨(aa s g).place=33∨(aa s g).place=34∨(aa s g).place=13∨(aa s g).place=17)) :
  Pure prog 179 [.agg (az s),.c (nI g)] (.aZ [.agg (az (bL s g).1),.c (bI (bL s g).2)]):=by
 have hg:=h.co.lt;have hf:Few s:=h.fit.toAnd;have hb:=hf.1;have C0:=dA s g hg h.co.dh;have K9:((ag s g).kind != 9)=false:=by rw [hk];rfl
 have br:¬ ((ag s g).kind≠9):=by omega
 have aj:bL s g=bL s g:=rfl
 conv at aj=>rhs;unfold bL;simp only;rw [if_neg br]
 refine ax.intro func179 rfl rfl rfl (fun ok e=>?_);rw [aB,aB,aB,aB,aB,aB,aB,aB,aB,aB,aB,aB,aB] at aj;have P24:((aa s g).place == 24)=false:=by simp;omega
 have P25:((aa s g).place == 25)=false:=by simp;omega
 have P26:((aa s g).place == 26)=false:=by simp;omega
 have P27:((aa s g).place == 27)=false:=by simp;omega
 have P28:((aa s g).place == 28)=false:=by simp;omega
 have P29:((aa s g).place == 29)=false:=by simp;omega
 have P30:((aa s g).place == 30)=false:=by simp;omega
 have N1:((aa s g).place == 14)=false:=by simp;omega
 have P31:((aa s g).place == 31)=false:=by simp;omega
 have P32:((aa s g).place == 32)=false:=by simp;omega
 have P33:((aa s g).place == 33)=false:=by simp;omega
 have P34:((aa s g).place == 34)=false:=by simp;omega
 have P13:((aa s g).place == 13)=false:=by simp;omega
 have P17:((aa s g).place == 17)=false:=by simp;omega
 rw [aj]
 repeat (first | refine av ?_ | intro _)
 exact aA func179
theorem YG (s:ah) (g:Nat) (h:kN s g) :
  Pure prog 179 [.agg (az s),.c (nI g)] (.aZ [.agg (az (bL s g).1),.c (bI (bL s g).2)]):=by
 by_cases hk:(ag s g).kind=9
 case neg =>
  have hg:=h.co.lt;have C0:=dA s g hg h.co.dh;refine ax.intro func179 rfl rfl rfl (fun ok e=>?_);have K9:((ag s g).kind != 9)=true:=by simp;omega
  have er:bL s g=(s,false):=by unfold bL;simp only;rw [if_pos (by omega)]
  rw [er]
  repeat (first | refine av ?_ | intro _)
  exact aA func179
 case pos =>
  by_cases Aa:(aa s g).place=24
  ·exact Yq s g h hk Aa
  by_cases Ab:(aa s g).place=25
  ·exact Ys s g h hk Ab
  by_cases Ac:(aa s g).place=26
  ·exact Yt s g h hk Ac
  by_cases Ad:(aa s g).place=27
  ·exact Yu s g h hk Ad
  by_cases Ae:(aa s g).place=28
  ·exact Yv s g h hk Ae
  by_cases Af:(aa s g).place=29
  ·exact Yw s g h hk Af
  by_cases Ag:(aa s g).place=30
  ·exact YB s g h hk Ag
  by_cases jP:(aa s g).place=14
  ·exact Yx s g h hk jP
  by_cases xC:(aa s g).place=31
  ·exact Yr s g h hk xC
  by_cases Ah:(aa s g).place=32
  ·exact Yy s g h hk Ah
  by_cases Ai:(aa s g).place=33
  ·exact YA s g h hk Ai
  by_cases Aj:(aa s g).place=34
  ·exact Yz s g h hk Aj
  by_cases sH:(aa s g).place=13
  ·exact YD s g h hk sH
  by_cases pW:(aa s g).place=17
  ·exact YE s g h hk pW
  exact YF s g h hk (by omega)
end Fl
end Go.Proofs.YtofnbflkhgammaaGreat
