/-
  What the laws need, part A38.
  Conditions: none.
-/
import Derived.Test.YtofnbflkhgammaaGreatA37
set_option linter.unusedVariables false
set_option linter.unusedSimpArgs false
set_option linter.unnecessarySimpa false
set_option maxHeartbeats 2000000
namespace Go.Proofs.YtofnbflkhgammaaGreat
open Go.RowKit
namespace Fl
open Sx
set_option maxRecDepth 100000
structure ku (s:Sx.St) (g:Nat):Prop where
 co:wz s g
 fit:Fit s
 lk:(Sx.gr s g).place=24∨(Sx.gr s g).place=31→0≤(Sx.gr s g).k∧(Sx.gr s g).k < (Sx.gr s g).aC.length∧(Sx.gr s g).aC.length≤100000∧Sx.made s (aA (Sx.gr s g).aC (Sx.gr s g).k)=true
 ha:(Sx.gr s g).place=25∨(Sx.gr s g).place=27∨(Sx.gr s g).place=28∨(Sx.gr s g).place=29→zz s g (Sx.op s g)
 XR:(Sx.gr s g).place=26→dm s (Sx.gr s g).hold∧0≤(Sx.gr s g).k∧(Sx.gr s g).k < (Sx.gr s g).order.length
 XS:(Sx.gr s g).place=27→dm s (Sx.gr s g).hold
 XT:(Sx.gr s g).place=28→ot s∧g < s.cache.length∧((bu s g).2.2=true→0≤(bu s g).2.1∧(bu s g).2.1 < s.aB.length)
 sg:(Sx.gr s g).place=28∨(Sx.gr s g).place=29→(Sx.gr s g).ak.length=(Sx.op s g).cases.length
 fr:(Sx.gr s g).place=30∨(Sx.gr s g).place=33→1≤(Sx.gr s g).k∧(Sx.gr s g).k≤(Sx.gr s g).aC.length∧(Sx.gr s g).aC.length≤100000∧Sx.made s (aA (Sx.gr s g).aC ((Sx.gr s g).k - 1))=true
 zq:(Sx.gr s g).place=14→0≤(Sx.gr s g).param∧(Sx.gr s g).param < s.aB.length
 XU:(Sx.gr s g).place=32→0≤(Sx.gr s g).k∧(Sx.gr s g).k < (Sx.gr s g).order.length∧0≤aA (Sx.gr s g).order (Sx.gr s g).k∧aA (Sx.gr s g).order (Sx.gr s g).k < (Sx.gr s g).ak.length∧0≤aA (Sx.gr s g).ak (aA (Sx.gr s g).order (Sx.gr s g).k)∧aA (Sx.gr s g).ak (aA (Sx.gr s g).order (Sx.gr s g).k) < s.aB.length
 XV:(Sx.gr s g).place=34→0≤(Sx.gr s g).k∧(Sx.gr s g).k < (Sx.gr s g).order.length∧0≤aA (Sx.gr s g).order (Sx.gr s g).k∧aA (Sx.gr s g).order (Sx.gr s g).k < (Sx.gr s g).ak.length∧g < s.cache.length∧ot s∧aA (Sx.gr s g).ak (aA (Sx.gr s g).order (Sx.gr s g).k) < s.aB.length
theorem MX {α:Type} (f:Gr→α) {s:Sx.St} {g:Nat} {ba on:Int} (e:∀ (x:Gr) (a b c:Int),f { x with bG:=a,wi:=b,dh:=c }=f x) (e2:∀ (x:Gr) (p:Int),f { x with place:=p }=f x) (e3:∀ (x:Gr) (a b:Int),f { x with hold:=a,t:=b }=f x) (e4:∀ (x:Gr) (b:Bool),f { x with aX:=b }=f x) (h:Nat):f (Sx.gr (dy s g ba on) h)=f (Sx.gr s h):=by
 unfold dy;simp only
 split
 ·have:=qn f (s:=Sx.drop s (Sx.gr s g).hold) (o:=g) (g:=h) (x:={ Sx.gr s g with hold:=-1,place:=ba }) (by rw [tv (fL _ _)];exact (e2 { Sx.gr s g with hold:=-1,t:=(Sx.gr s g).t } ba).trans (e3 (Sx.gr s g) (-1) (Sx.gr s g).t));rw [this,tv (fL _ _)]
 ·rw [Gf f (fun x=>e2 x _),MS f e];have h1:∀ h,f (Sx.gr (Sx.aa s g { Sx.gr s g with t:=s.step }) h)=f (Sx.gr s h):=fun h=>qn f (e3 (Sx.gr s g) (Sx.gr s g).hold s.step)
  have h2:=qn f (s:=Sx.aa s g { Sx.gr s g with t:=s.step }) (o:=(su s (Sx.gr s g).hold).g.toNat) (g:=h) (x:={ Sx.gr s (su s (Sx.gr s g).hold).g.toNat with aX:=true }) (by rw [h1];exact e4 _ _);rw [h2,h1]
theorem MY (s:Sx.St) (g:Nat) (ba on:Int):(dy s g ba on).gs.length=s.gs.length:=by
 unfold dy;simp only
 split
 ·rw [bV,fL]
 ·rw [wA,wB,bV,bV]
theorem Cb (s:Sx.St) (g:Nat):(cX s g).1.gs.length=s.gs.length:=by
 unfold cX;simp only;rw [bV,W6]
theorem XW (s:Sx.St) (g:Nat) (h:ku s g) (hk:(Sx.op s g).kind=9) (e0:(Sx.gr s g).place=24) :
  Pure Tryz.prog 179 [.agg (ay s),.c (nI g)] (.aV [.agg (ay (bg s g).1),.c (bI (bg s g).2)]):=by
 have hg:=h.co.lt;have hf:Few s:=h.fit.toAnd;have hb:=hf.1;have C0:=dj s g hg h.co.cY;have K9:((Sx.op s g).kind != 9)=false:=by rw [hk];rfl
 have aS:¬ ((Sx.op s g).kind≠9):=by omega
 have ag:bg s g=bg s g:=rfl
 conv at ag=>rhs;unfold bg;simp only;rw [if_neg aS]
 have P:∀ c,((Sx.gr s g).place == c)=((24:Int) == c):=fun c=>by rw [e0]
 refine aq.intro Tryz.func179 rfl rfl rfl (fun ok e=>?_);rw [if_pos e0] at ag;obtain ⟨k0,k1,kb,hm⟩:=h.lk (by omega);have D1:=MR s g 25 hg hf k0 k1 kb hm;rw [ag]
 repeat (first | refine aM (P _) ?_ | refine au ?_ | intro _)
 exact az Tryz.func179
theorem XX (s:Sx.St) (g:Nat) (h:ku s g) (hk:(Sx.op s g).kind=9) (e0:(Sx.gr s g).place=31) :
  Pure Tryz.prog 179 [.agg (ay s),.c (nI g)] (.aV [.agg (ay (bg s g).1),.c (bI (bg s g).2)]):=by
 have hg:=h.co.lt;have hf:Few s:=h.fit.toAnd;have hb:=hf.1;have C0:=dj s g hg h.co.cY;have K9:((Sx.op s g).kind != 9)=false:=by rw [hk];rfl
 have aS:¬ ((Sx.op s g).kind≠9):=by omega
 have ag:bg s g=bg s g:=rfl
 conv at ag=>rhs;unfold bg;simp only;rw [if_neg aS]
 have P:∀ c,((Sx.gr s g).place == c)=((31:Int) == c):=fun c=>by rw [e0]
 refine aq.intro Tryz.func179 rfl rfl rfl (fun ok e=>?_);rw [ax,ax,ax,ax,ax,ax,ax,ax] at ag;rw [if_pos e0] at ag;obtain ⟨k0,k1,kb,hm⟩:=h.lk (by omega);have D1:=MR s g 32 hg hf k0 k1 kb hm;rw [ag]
 repeat (first | refine aM (P _) ?_ | refine au ?_ | intro _)
 exact az Tryz.func179
theorem XY (s:Sx.St) (g:Nat) (h:ku s g) (hk:(Sx.op s g).kind=9) (e0:(Sx.gr s g).place=25) :
  Pure Tryz.prog 179 [.agg (ay s),.c (nI g)] (.aV [.agg (ay (bg s g).1),.c (bI (bg s g).2)]):=by
 have hg:=h.co.lt;have hf:Few s:=h.fit.toAnd;have hb:=hf.1;have C0:=dj s g hg h.co.cY;have K9:((Sx.op s g).kind != 9)=false:=by rw [hk];rfl
 have aS:¬ ((Sx.op s g).kind≠9):=by omega
 have ag:bg s g=bg s g:=rfl
 conv at ag=>rhs;unfold bg;simp only;rw [if_neg aS]
 have P:∀ c,((Sx.gr s g).place == c)=((25:Int) == c):=fun c=>by rw [e0]
 refine aq.intro Tryz.func179 rfl rfl rfl (fun ok e=>?_);rw [ax] at ag;rw [if_pos e0] at ag;have D1:=XI s g (Sx.op s g) (h.ha (by omega));rw [ag]
 repeat (first | refine aM (P _) ?_ | refine au ?_ | intro _)
 exact az Tryz.func179
theorem XZ (s:Sx.St) (g:Nat) (h:ku s g) (hk:(Sx.op s g).kind=9) (e0:(Sx.gr s g).place=26) :
  Pure Tryz.prog 179 [.agg (ay s),.c (nI g)] (.aV [.agg (ay (bg s g).1),.c (bI (bg s g).2)]):=by
 have hg:=h.co.lt;have hf:Few s:=h.fit.toAnd;have hb:=hf.1;have C0:=dj s g hg h.co.cY;have K9:((Sx.op s g).kind != 9)=false:=by rw [hk];rfl
 have aS:¬ ((Sx.op s g).kind≠9):=by omega
 have ag:bg s g=bg s g:=rfl
 conv at ag=>rhs;unfold bg;simp only;rw [if_neg aS]
 have P:∀ c,((Sx.gr s g).place == c)=((26:Int) == c):=fun c=>by rw [e0]
 refine aq.intro Tryz.func179 rfl rfl rfl (fun ok e=>?_);rw [ax,ax] at ag;rw [if_pos e0] at ag;obtain ⟨hi,k0,k1⟩:=h.XR e0;have D1:=F6 s g 25 27 hg hi h.fit;have D2:=Ge (dy s g 25 27) g (by rw [MY];exact hg) (by rw [MY];exact hb) (fun _=>by rw [MX (f:=Gr.k) (fun _ _ _ _=>rfl) (fun _ _=>rfl) (fun _ _ _=>rfl) (fun _ _=>rfl),MX (f:=Gr.order) (fun _ _ _ _=>rfl) (fun _ _=>rfl) (fun _ _ _=>rfl) (fun _ _=>rfl)];exact ⟨k0,k1⟩);rw [ag]
 repeat (first | refine aM (P _) ?_ | refine au ?_ | intro _)
 exact az Tryz.func179
theorem X0 (s:Sx.St) (g:Nat) (h:ku s g) (hk:(Sx.op s g).kind=9) (e0:(Sx.gr s g).place=27) :
  Pure Tryz.prog 179 [.agg (ay s),.c (nI g)] (.aV [.agg (ay (bg s g).1),.c (bI (bg s g).2)]):=by
 have hg:=h.co.lt;have hf:Few s:=h.fit.toAnd;have hb:=hf.1;have C0:=dj s g hg h.co.cY;have K9:((Sx.op s g).kind != 9)=false:=by rw [hk];rfl
 have aS:¬ ((Sx.op s g).kind≠9):=by omega
 have ag:bg s g=bg s g:=rfl
 conv at ag=>rhs;unfold bg;simp only;rw [if_neg aS]
 have P:∀ c,((Sx.gr s g).place == c)=((27:Int) == c):=fun c=>by rw [e0]
 refine aq.intro Tryz.func179 rfl rfl rfl (fun ok e=>?_);rw [ax,ax,ax] at ag;rw [if_pos e0] at ag;have D1:=XJ s g (Sx.op s g) (h.ha (by omega)) (h.XS e0);rw [ag]
 repeat (first | refine aM (P _) ?_ | refine au ?_ | intro _)
 exact az Tryz.func179
theorem X3 (s:Sx.St) (g:Nat) (h:ku s g) (hk:(Sx.op s g).kind=9) (e0:(Sx.gr s g).place=28) :
  Pure Tryz.prog 179 [.agg (ay s),.c (nI g)] (.aV [.agg (ay (bg s g).1),.c (bI (bg s g).2)]):=by
 have hg:=h.co.lt;have hf:Few s:=h.fit.toAnd;have hb:=hf.1;have C0:=dj s g hg h.co.cY;have K9:((Sx.op s g).kind != 9)=false:=by rw [hk];rfl
 have aS:¬ ((Sx.op s g).kind≠9):=by omega
 have ag:bg s g=bg s g:=rfl
 conv at ag=>rhs;unfold bg;simp only;rw [if_neg aS]
 have P:∀ c,((Sx.gr s g).place == c)=((28:Int) == c):=fun c=>by rw [e0]
 refine aq.intro Tryz.func179 rfl rfl rfl (fun ok e=>?_);rw [ax,ax,ax,ax] at ag;rw [if_pos e0] at ag;obtain ⟨p1,p2,p3⟩:=h.XT e0;have D1:=XK s g (Sx.op s g) (h.ha (by omega)) p1 p2 p3 (h.sg (by omega));rw [ag]
 repeat (first | refine aM (P _) ?_ | refine au ?_ | intro _)
 exact az Tryz.func179
theorem X4 (s:Sx.St) (g:Nat) (h:ku s g) (hk:(Sx.op s g).kind=9) (e0:(Sx.gr s g).place=29) :
  Pure Tryz.prog 179 [.agg (ay s),.c (nI g)] (.aV [.agg (ay (bg s g).1),.c (bI (bg s g).2)]):=by
 have hg:=h.co.lt;have hf:Few s:=h.fit.toAnd;have hb:=hf.1;have C0:=dj s g hg h.co.cY;have K9:((Sx.op s g).kind != 9)=false:=by rw [hk];rfl
 have aS:¬ ((Sx.op s g).kind≠9):=by omega
 have ag:bg s g=bg s g:=rfl
 conv at ag=>rhs;unfold bg;simp only;rw [if_neg aS]
 have P:∀ c,((Sx.gr s g).place == c)=((29:Int) == c):=fun c=>by rw [e0]
 refine aq.intro Tryz.func179 rfl rfl rfl (fun ok e=>?_);rw [ax,ax,ax,ax,ax] at ag;rw [if_pos e0] at ag;have D1:=XL s g (Sx.op s g) (h.ha (by omega)) (h.sg (by omega));rw [ag]
 repeat (first | refine aM (P _) ?_ | refine au ?_ | intro _)
 exact az Tryz.func179
theorem X5 (s:Sx.St) (g:Nat) (h:ku s g) (hk:(Sx.op s g).kind=9) (e0:(Sx.gr s g).place=14) :
  Pure Tryz.prog 179 [.agg (ay s),.c (nI g)] (.aV [.agg (ay (bg s g).1),.c (bI (bg s g).2)]):=by
 have hg:=h.co.lt;have hf:Few s:=h.fit.toAnd;have hb:=hf.1;have C0:=dj s g hg h.co.cY;have K9:((Sx.op s g).kind != 9)=false:=by rw [hk];rfl
 have aS:¬ ((Sx.op s g).kind≠9):=by omega
 have ag:bg s g=bg s g:=rfl
 conv at ag=>rhs;unfold bg;simp only;rw [if_neg aS]
 have P:∀ c,((Sx.gr s g).place == c)=((14:Int) == c):=fun c=>by rw [e0]
 refine aq.intro Tryz.func179 rfl rfl rfl (fun ok e=>?_);rw [ax,ax,ax,ax,ax,ax,ax] at ag;rw [if_pos e0] at ag;obtain ⟨p1,p2⟩:=h.zq e0;have D1:=XN s g hg hb p1 p2;rw [ag]
 repeat (first | refine aM (P _) ?_ | refine au ?_ | intro _)
 exact az Tryz.func179
theorem X6 (s:Sx.St) (g:Nat) (h:ku s g) (hk:(Sx.op s g).kind=9) (e0:(Sx.gr s g).place=32) :
  Pure Tryz.prog 179 [.agg (ay s),.c (nI g)] (.aV [.agg (ay (bg s g).1),.c (bI (bg s g).2)]):=by
 have hg:=h.co.lt;have hf:Few s:=h.fit.toAnd;have hb:=hf.1;have C0:=dj s g hg h.co.cY;have K9:((Sx.op s g).kind != 9)=false:=by rw [hk];rfl
 have aS:¬ ((Sx.op s g).kind≠9):=by omega
 have ag:bg s g=bg s g:=rfl
 conv at ag=>rhs;unfold bg;simp only;rw [if_neg aS]
 have P:∀ c,((Sx.gr s g).place == c)=((32:Int) == c):=fun c=>by rw [e0]
 refine aq.intro Tryz.func179 rfl rfl rfl (fun ok e=>?_);rw [ax,ax,ax,ax,ax,ax,ax,ax,ax] at ag;rw [if_pos e0] at ag;obtain ⟨k0,k1,i0,i1,j0,j1⟩:=h.XU e0;have D1:=XO s g hg h.fit k0 k1 i0 i1 j0 j1;rw [ag]
 repeat (first | refine aM (P _) ?_ | refine au ?_ | intro _)
 exact az Tryz.func179
theorem X7 (s:Sx.St) (g:Nat) (h:ku s g) (hk:(Sx.op s g).kind=9) (e0:(Sx.gr s g).place=34) :
  Pure Tryz.prog 179 [.agg (ay s),.c (nI g)] (.aV [.agg (ay (bg s g).1),.c (bI (bg s g).2)]):=by
 have hg:=h.co.lt;have hf:Few s:=h.fit.toAnd;have hb:=hf.1;have C0:=dj s g hg h.co.cY;have K9:((Sx.op s g).kind != 9)=false:=by rw [hk];rfl
 have aS:¬ ((Sx.op s g).kind≠9):=by omega
 have ag:bg s g=bg s g:=rfl
 conv at ag=>rhs;unfold bg;simp only;rw [if_neg aS]
 have P:∀ c,((Sx.gr s g).place == c)=((34:Int) == c):=fun c=>by rw [e0]
 refine aq.intro Tryz.func179 rfl rfl rfl (fun ok e=>?_);rw [ax,ax,ax,ax,ax,ax,ax,ax,ax,ax,ax] at ag;rw [if_pos e0] at ag;obtain ⟨k0,k1,i0,i1,hc,hp,j1⟩:=h.XV e0;have D1:=XP s g hg h.fit k0 k1 i0 i1 hc hp j1;rw [ag]
 repeat (first | refine aM (P _) ?_ | refine au ?_ | intro _)
 exact az Tryz.func179
theorem X8 (s:Sx.St) (g:Nat) (h:ku s g) (hk:(Sx.op s g).kind=9) (e0:(Sx.gr s g).place=33) :
  Pure Tryz.prog 179 [.agg (ay s),.c (nI g)] (.aV [.agg (ay (bg s g).1),.c (bI (bg s g).2)]):=by
 have hg:=h.co.lt;have hf:Few s:=h.fit.toAnd;have hb:=hf.1;have C0:=dj s g hg h.co.cY;have K9:((Sx.op s g).kind != 9)=false:=by rw [hk];rfl
 have aS:¬ ((Sx.op s g).kind≠9):=by omega
 have ag:bg s g=bg s g:=rfl
 conv at ag=>rhs;unfold bg;simp only;rw [if_neg aS]
 have P:∀ c,((Sx.gr s g).place == c)=((33:Int) == c):=fun c=>by rw [e0]
 refine aq.intro Tryz.func179 rfl rfl rfl (fun ok e=>?_);rw [ax,ax,ax,ax,ax,ax,ax,ax,ax,ax] at ag;rw [if_pos e0] at ag;obtain ⟨k0,k1,kb,hm⟩:=h.fr (by omega);have D1:=MW s g hg hf k0 k1 kb hm;have g1:g < (cX s g).1.gs.length:=by rw [Cb];exact hg
 have b1:(cX s g).1.gs.length≤100000:=by rw [Cb];exact hb
 cases cz:(cX s g).2 with
 | true =>
  rw [if_pos cz] at ag;rw [cz] at D1;rw [ag];generalize (cX s g).1=s1 at *
  repeat (first | refine aM (P _) ?_ | refine au ?_ | intro _)
  exact az Tryz.func179
 | false =>
  rw [if_neg (by rw [cz];simp)] at ag;rw [cz] at D1;rw [ag];generalize (cX s g).1=s1 at *
  repeat (first | refine aM (P _) ?_ | refine aJ (fG s1 g 34 g1 b1) ?_ | refine au ?_ | intro _)
  exact az Tryz.func179
theorem X9 (s:Sx.St) (g:Nat) (h:ku s g) (hk:(Sx.op s g).kind=9) (e0:(Sx.gr s g).place=30) :
  Pure Tryz.prog 179 [.agg (ay s),.c (nI g)] (.aV [.agg (ay (bg s g).1),.c (bI (bg s g).2)]):=by
 have hg:=h.co.lt;have hf:Few s:=h.fit.toAnd;have hb:=hf.1;have C0:=dj s g hg h.co.cY;have K9:((Sx.op s g).kind != 9)=false:=by rw [hk];rfl
 have aS:¬ ((Sx.op s g).kind≠9):=by omega
 have ag:bg s g=bg s g:=rfl
 conv at ag=>rhs;unfold bg;simp only;rw [if_neg aS]
 have P:∀ c,((Sx.gr s g).place == c)=((30:Int) == c):=fun c=>by rw [e0]
 refine aq.intro Tryz.func179 rfl rfl rfl (fun ok e=>?_);rw [ax,ax,ax,ax,ax,ax] at ag;rw [if_pos e0] at ag;obtain ⟨k0,k1,kb,hm⟩:=h.fr (by omega);have D1:=MW s g hg hf k0 k1 kb hm;have g1:g < (cX s g).1.gs.length:=by rw [Cb];exact hg
 have b1:(cX s g).1.gs.length≤100000:=by rw [Cb];exact hb
 cases cz:(cX s g).2 with
 | true =>
  rw [if_pos cz] at ag;rw [cz] at D1;rw [ag];generalize (cX s g).1=s1 at *
  repeat (first | refine aM (P _) ?_ | refine au ?_ | intro _)
  exact az Tryz.func179
 | false =>
  rw [if_neg (by rw [cz];simp)] at ag;rw [cz] at D1
  by_cases hc:(Sx.gr s g).res.code=0
  ·rw [if_pos hc] at ag;rw [ag];generalize (cX s g).1=s1 at *;have Ya:((Sx.gr s g).res.code == 0)=true:=by simpa using hc
   repeat (first | refine aM (P _) ?_ | refine aJ (fG s1 g 13 g1 b1) ?_ | refine au ?_ | intro _)
   exact az Tryz.func179
  ·rw [if_neg hc] at ag;have Ya:((Sx.gr s g).res.code == 0)=false:=by simpa using hc
   have CS:=XM (Sx.gr s g).ak (Nat.le_trans (h.fit.sg g) (by omega))
   cases hs:nv (Sx.gr s g).ak with
   | true =>
    rw [if_pos hs] at ag;rw [hs] at CS;rw [ag];generalize (cX s g).1=s1 at *
    repeat (first | refine aM (P _) ?_ | refine aJ (fG s1 g 34 g1 b1) ?_ | refine au ?_ | intro _)
    exact az Tryz.func179
   | false =>
    rw [if_neg (by rw [hs];simp)] at ag;rw [hs] at CS;rw [ag];generalize (cX s g).1=s1 at *
    repeat (first | refine aM (P _) ?_ | refine aJ (y9 s1 g g1 b1) ?_ | refine au ?_ | intro _)
    exact az Tryz.func179
theorem Yb (s:Sx.St) (g:Nat) (h:ku s g) (hk:(Sx.op s g).kind=9) (e0:(Sx.gr s g).place=13) :
  Pure Tryz.prog 179 [.agg (ay s),.c (nI g)] (.aV [.agg (ay (bg s g).1),.c (bI (bg s g).2)]):=by
 have hg:=h.co.lt;have hf:Few s:=h.fit.toAnd;have hb:=hf.1;have C0:=dj s g hg h.co.cY;have K9:((Sx.op s g).kind != 9)=false:=by rw [hk];rfl
 have aS:¬ ((Sx.op s g).kind≠9):=by omega
 have ag:bg s g=bg s g:=rfl
 conv at ag=>rhs;unfold bg;simp only;rw [if_neg aS]
 have P:∀ c,((Sx.gr s g).place == c)=((13:Int) == c):=fun c=>by rw [e0]
 refine aq.intro Tryz.func179 rfl rfl rfl (fun ok e=>?_);rw [ax,ax,ax,ax,ax,ax,ax,ax,ax,ax,ax,ax] at ag;rw [if_pos (by omega)] at ag;have D1:=fy s g h.co;rw [ag]
 repeat (first | refine aM (P _) ?_ | refine au ?_ | intro _)
 exact az Tryz.func179
theorem Yc (s:Sx.St) (g:Nat) (h:ku s g) (hk:(Sx.op s g).kind=9) (e0:(Sx.gr s g).place=17) :
  Pure Tryz.prog 179 [.agg (ay s),.c (nI g)] (.aV [.agg (ay (bg s g).1),.c (bI (bg s g).2)]):=by
 have hg:=h.co.lt;have hf:Few s:=h.fit.toAnd;have hb:=hf.1;have C0:=dj s g hg h.co.cY;have K9:((Sx.op s g).kind != 9)=false:=by rw [hk];rfl
 have aS:¬ ((Sx.op s g).kind≠9):=by omega
 have ag:bg s g=bg s g:=rfl
 conv at ag=>rhs;unfold bg;simp only;rw [if_neg aS]
 have P:∀ c,((Sx.gr s g).place == c)=((17:Int) == c):=fun c=>by rw [e0]
 refine aq.intro Tryz.func179 rfl rfl rfl (fun ok e=>?_);rw [ax,ax,ax,ax,ax,ax,ax,ax,ax,ax,ax,ax] at ag;rw [if_pos (by omega)] at ag;have D1:=fy s g h.co;rw [ag]
 repeat (first | refine aM (P _) ?_ | refine au ?_ | intro _)
 exact az Tryz.func179
theorem Yd (s:Sx.St) (g:Nat) (h:ku s g) (hk:(Sx.op s g).kind=9) (e0:¬ ((Sx.gr s g).place=24∨(Sx.gr s g).place=25∨(Sx.gr s g).place=26∨(Sx.gr s g).place=27∨(Sx.gr s g).place=28∨(Sx.gr s g).place=29∨(Sx.gr s g).place=30∨(Sx.gr s g).place=14∨(Sx.gr s g).place=31∨(Sx.gr s g).place=32∨(Sx.gr s g).place=33∨(Sx.gr s g).place=34∨(Sx.gr s g).place=13∨(Sx.gr s g).place=17)) :
  Pure Tryz.prog 179 [.agg (ay s),.c (nI g)] (.aV [.agg (ay (bg s g).1),.c (bI (bg s g).2)]):=by
 have hg:=h.co.lt;have hf:Few s:=h.fit.toAnd;have hb:=hf.1;have C0:=dj s g hg h.co.cY;have K9:((Sx.op s g).kind != 9)=false:=by rw [hk];rfl
 have aS:¬ ((Sx.op s g).kind≠9):=by omega
 have ag:bg s g=bg s g:=rfl
 conv at ag=>rhs;unfold bg;simp only;rw [if_neg aS]
 refine aq.intro Tryz.func179 rfl rfl rfl (fun ok e=>?_);rw [ax,ax,ax,ax,ax,ax,ax,ax,ax,ax,ax,ax,ax] at ag;have P24:((Sx.gr s g).place == 24)=false:=by simp;omega
 have P25:((Sx.gr s g).place == 25)=false:=by simp;omega
 have P26:((Sx.gr s g).place == 26)=false:=by simp;omega
 have P27:((Sx.gr s g).place == 27)=false:=by simp;omega
 have P28:((Sx.gr s g).place == 28)=false:=by simp;omega
 have P29:((Sx.gr s g).place == 29)=false:=by simp;omega
 have P30:((Sx.gr s g).place == 30)=false:=by simp;omega
 have MJ:((Sx.gr s g).place == 14)=false:=by simp;omega
 have P31:((Sx.gr s g).place == 31)=false:=by simp;omega
 have P32:((Sx.gr s g).place == 32)=false:=by simp;omega
 have P33:((Sx.gr s g).place == 33)=false:=by simp;omega
 have P34:((Sx.gr s g).place == 34)=false:=by simp;omega
 have P13:((Sx.gr s g).place == 13)=false:=by simp;omega
 have P17:((Sx.gr s g).place == 17)=false:=by simp;omega
 rw [ag]
 repeat (first | refine au ?_ | intro _)
 exact az Tryz.func179
theorem Ye (s:Sx.St) (g:Nat) (h:ku s g) :
  Pure Tryz.prog 179 [.agg (ay s),.c (nI g)] (.aV [.agg (ay (bg s g).1),.c (bI (bg s g).2)]):=by
 by_cases hk:(Sx.op s g).kind=9
 case neg =>
  have hg:=h.co.lt;have C0:=dj s g hg h.co.cY;refine aq.intro Tryz.func179 rfl rfl rfl (fun ok e=>?_);have K9:((Sx.op s g).kind != 9)=true:=by simp;omega
  have er:bg s g=(s,false):=by unfold bg;simp only;rw [if_pos (by omega)]
  rw [er]
  repeat (first | refine au ?_ | intro _)
  exact az Tryz.func179
 case pos =>
  by_cases yD:(Sx.gr s g).place=24
  ·exact XW s g h hk yD
  by_cases yE:(Sx.gr s g).place=25
  ·exact XY s g h hk yE
  by_cases yF:(Sx.gr s g).place=26
  ·exact XZ s g h hk yF
  by_cases yG:(Sx.gr s g).place=27
  ·exact X0 s g h hk yG
  by_cases yI:(Sx.gr s g).place=28
  ·exact X3 s g h hk yI
  by_cases yJ:(Sx.gr s g).place=29
  ·exact X4 s g h hk yJ
  by_cases yK:(Sx.gr s g).place=30
  ·exact X9 s g h hk yK
  by_cases jz:(Sx.gr s g).place=14
  ·exact X5 s g h hk jz
  by_cases vU:(Sx.gr s g).place=31
  ·exact XX s g h hk vU
  by_cases yL:(Sx.gr s g).place=32
  ·exact X6 s g h hk yL
  by_cases yM:(Sx.gr s g).place=33
  ·exact X8 s g h hk yM
  by_cases yN:(Sx.gr s g).place=34
  ·exact X7 s g h hk yN
  by_cases rD:(Sx.gr s g).place=13
  ·exact Yb s g h hk rD
  by_cases oY:(Sx.gr s g).place=17
  ·exact Yc s g h hk oY
  exact Yd s g h hk (by omega)
end Fl
end Go.Proofs.YtofnbflkhgammaaGreat
