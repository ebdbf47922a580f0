/-
  What the laws need, part D16.
  Conditions: none.
-/
import Derived.Test.YtofnbflkhgammaaGreatD15
set_option linter.unusedVariables false
set_option linter.unusedSimpArgs false
set_option linter.unnecessarySimpa false
set_option maxHeartbeats 2000000
namespace Go.Proofs.YtofnbflkhgammaaGreat
namespace Sx
variable {nc ns n:Int} {x x':Gr}
theorem gU.loc (h:gU x x') (L:Loc nc ns n x) (hd:x'.place=7∨x'.place=8∨x'.place=23→0≤x'.hold∧x'.hold < ns):Loc nc ns n x':=by
 obtain ⟨a1,a2,a3,a4,a5,a6,a7,a8,a9,ij,jr,mR,pK,pM,pN,nD,qS,qT,pO,pR,sC,pS⟩:=L;have ho:=h.aG;obtain ⟨h1,h2,h3,h4,h5,h6,h7,h8,h9,mN,lA,lB,gR,qO,nG⟩:=h;have hk:¬ (Sx.aG x).kind=9:=h7;have hn:¬ Wt x:=by
  rintro (w | w)
  ·exact mN ⟨by have:=w.2.1;omega,by have:=w.2.2;omega⟩
  ·exact h7 w.1
 have Mr:x.param=-1:=by
  by_cases e:0≤x.param
  ·exact absurd (pR e).1 hn
  ·have:=qT.1;clear a5 a7 a8 a9 ij jr mR nD pO lB gR qO nG;omega
 have tX:x.token=false:=by
  cases e:x.token
  ·rfl
  ·exact absurd (jr e).1 hn
 have VB:x'.place≠26:=by
  intro e;clear a7 a8 a9 ij mR nD pO nG qO;unfold bF at lB;rw [e] at lB;omega
 have jy:=(a5.resolve_left h9).1
 constructor <;> (try simp only [h1,h2,h3,h4,h5,h6,ho]) <;> try assumption
 ·exact .inr ⟨jy,lB⟩
 ·intro _ e1 e2 e3 e4;rcases qO with qO | qO
  ·exact absurd qO e1
  ·exact a6 h9 qO.1 qO.2 e3 e4
 ·rw [h8];simp
 ·intro e;exact absurd e gR.2.2.2
 ·rw [h8];simp
 ·rw [tX];simp
 ·intro e;rcases nG with nG | nG | nG | nG | nG
  ·exact absurd nG e
  ·exact .inl nG
  ·exact .inr (.inl nG)
  ·exact .inr (.inr (.inl nG))
  ·exact .inr (.inr (.inr (.inl nG)))
 ·exact gR.2.2.1
 ·intro e;rcases e with e | e | e | e | e
  ·exact hd (.inl e)
  ·exact hd (.inr (.inl e))
  ·exact hd (.inr (.inr e))
  ·exact absurd e VB
  ·exact absurd e gR.2.1
 ·intro _ e1 e2;exact absurd ⟨e1,e2⟩ lA
 ·intro e;exact absurd ⟨by rw [e];decide,by rw [e];decide⟩ lA
 ·intro e;rw [Mr] at e;exact absurd e (by decide)
 ·intro e;rw [Mr] at e;exact absurd e (by decide)
 ·intro e;unfold SE at e;rw [ho] at e;exact absurd e hk
theorem gU.own (h:gU x x') (i:Int):¬ Own x i∧¬ Own x' i:=by
 have ho:=h.aG;have hk:¬ (Sx.aG x).kind=9:=h.ns
 constructor
 ·rintro ⟨_,w | w⟩
  ·exact h.o1 ⟨w.2.1,w.2.2.1⟩
  ·exact h.ns w.1
 ·rintro ⟨_,w | w⟩
  ·exact h.o2 ⟨w.2.1,w.2.2.1⟩
  ·have:=w.1;unfold SE at this;rw [ho] at this;exact hk this
theorem gU.nq (h:gU x x') (i j:Int):¬ de x i j:=by
 rintro (w | w)
 ·exact h.o1 (by omega)
 ·exact h.ns w.1
theorem gU.nw (h:gU x x'):¬ Wt x:=by
 rintro (w | w)
 ·exact h.o1 (by omega)
 ·exact h.ns w.1
theorem gU.gD (h:gU x x') (e:x'.place≠8):¬ cX x':=by
 rintro (w | w)
 ·exact e w
 ·exact h.q1.2.1 w
theorem gU.hh (h:gU x x') (e:hP x.place↔hP x'.place) (ch:Int):bE x' ch↔bE x ch:=by
 have ho:=h.aG;have hk:¬ (Sx.aG x).kind=9:=h.ns;unfold bE SE;rw [ho];unfold hP at e
 constructor
 ·rintro (w | w)
  ·exact .inl ⟨w.1,w.2.1,w.2.2.1,e.2 w.2.2.2⟩
  ·exact absurd w.1 hk
 ·rintro (w | w)
  ·exact .inl ⟨w.1,w.2.1,w.2.2.1,e.1 w.2.2.2⟩
  ·exact absurd w.1 hk
theorem gU.sf (h:gU x x') (L:Loc nc ns n x) (hd:x'.place=7∨x'.place=8∨x'.place=23→0≤x'.hold∧x'.hold < ns) (e:hP x.place↔hP x'.place) (n8:x'.place≠8):Sf nc ns n x x':=by
 refine ⟨h.loc L hd,h.hh e,fun i=>⟨fun w=>absurd w (h.own i).2,fun w=>absurd w (h.own i).1⟩,fun i d w=>absurd w (h.own i).2,fun i j w=>absurd w (h.nq i j),h.gD n8,fun q=>by rw [h.an];exact id,fun w=>absurd w.1 h.nw,fun w=>absurd w.1 h.nw⟩
end Sx
namespace Sx
variable {s:ah} {g:Nat}
theorem MInv.loc (h:MInv s) (hg:g < s.gs.length):Loc s.au.length s.aC.length s.gs.length (aa s g):=by
 have:=Inv.loc h.v (g:Int) (by omega) (by omega);rw [fC] at this;exact this
theorem MInv.Ms (h:MInv s) (hg:g < s.gs.length) {x:Gr} (f:gU (aa s g) x) (e:hP (aa s g).place↔hP x.place) (nw:¬ cI x) (n8:x.place≠8):MInv (ai s g x) :=
 h.self hg (f.sf (h.loc hg) (fun q=>absurd (show cI x by unfold cI;omega) nw) e n8) f.at_ (fun w=>absurd w nw)
theorem B9 (s:ah) (c:Int) (c':Cn) (h:Nat):aa (aE s c c') h=aa s h:=rfl
theorem VC (s:ah) (c:Int) (c':Su) (h:Nat):aa (aR s c c') h=aa s h:=rfl
theorem Rest.trans {s t u:ah} (a:Rest s t) (b:Rest t u):Rest s u:=by
 refine ⟨b.gl.trans a.gl,b.cl.trans a.cl,b.sl.trans a.sl,b.sN.trans a.sN,b.cN.trans a.cN,b.ca.trans a.ca,b.md.trans a.md,b.fr.trans a.fr,b.dw.trans a.dw,b.dn.trans a.dn,b.B8.trans a.B8,fun g hg=>?_⟩;rw [b.at_ g (by rw [a.gl];exact hg),a.at_ g hg]
theorem Rest.dJ (s:ah) (c:Int) (c':Cn):Rest s (aE s c c'):=⟨rfl,by simp [Sx.aE],rfl,rfl,rfl,rfl,rfl,rfl,rfl,rfl,rfl,fun _ _=>rfl⟩
theorem MInv.chan (h:MInv s) (hg:g < s.gs.length) {x:Gr} {c:Int} {c':Cn} (c0:1≤c) (c1:c≤s.au.length) (lx:Loc s.au.length s.aC.length s.gs.length x) (hc:jM s.gs.length (cn s) g (aa s g) x c c') (ow:∀ i,Own x i↔Own (aa s g) i) (mt:∀ i d,Own x i→Match (aa s g) i d→Match x i d)
  (qx:∀ i j,de (aa s g) i j→(∀ ch:Int,1≤ch→ch≤s.au.length→i∈(up (cn s) c c' ch).recv∨i∈(up (cn s) c c' ch).send→de x i j)) (nw:¬ cI x)
  (gD:¬ cX x) (wx:∀ q∈x.an,q∈(aa s g).an) (wg:lD (aa s g)→lD x) (cg:mQ (aa s g)→mQ x∧(SR x→SR (aa s g))) (ha:x.at_=(aa s g).at_):MInv (ai (aE s c c') g x):=by
 have r:Rest s (Sx.ai (Sx.aE s c c') g x):=(Rest.dJ s c c').trans (Rest.dy _ hg ha);have e:=fC s g;refine h.rest r (V.of r (Inv.chan h.v (g:=g) (x:=x) (c:=c) (c':=c') (by omega) (by omega) lx ?_ ?_ ?_ ?_ nw gD ?_ ?_ ?_) (fun k k0=>sD hg rfl k k0) (fun ch q=>nF c0 c1 rfl ch q) (fun _ _=>rfl))
 all_goals rw [e]
 ·exact hc
 ·exact ow
 ·exact mt
 ·exact qx
 ·exact wx
 ·exact wg
 ·exact cg
theorem MInv.xo (h:MInv s) (hg:g < s.gs.length) {x:Gr} (f:gU (aa s g) x) {c:Int} {c':Cn} (c0:1≤c) (c1:c≤s.au.length) (hc:jM s.gs.length (cn s) g (aa s g) x c c') (nw:¬ cI x) (n8:x.place≠8):MInv (ai (aE s c c') g x):=by
 refine h.chan hg c0 c1 (f.loc (h.loc hg) (fun q=>absurd (show cI x by unfold cI;omega) nw)) hc (fun i=>⟨fun w=>absurd w (f.own i).2,fun w=>absurd w (f.own i).1⟩) (fun i d w=>absurd w (f.own i).2) (fun i j w=>absurd w (f.nq i j)) nw (f.gD n8) (fun q=>by rw [f.an];exact id) (fun w=>absurd w.1 f.nw) (fun w=>absurd w.1 f.nw) f.at_
theorem MInv.lZ (h:MInv s) (hg:g < s.gs.length) (e:(aa s g).place≠0∧(aa s g).place≠18∧(aa s g).place≠19) (k:2≤(ag s g).kind∧(ag s g).kind≤6):1≤(ag s g).ch∧(ag s g).ch≤s.au.length:=(h.loc hg).B2 e.1 e.2.1 e.2.2 k.1 k.2
theorem MInv.gE (h:MInv s) {c:Int} (c0:1≤c) (c1:c≤s.au.length):0≤(cn s c).cap∧(cn s c).cap≤4∧((cn s c).buf.length:Int)≤(cn s c).cap:=Inv.cap h.v c c0 c1
theorem oG {c:Int}:Sx.aN s c=true↔1≤c∧c≤s.au.length:=by unfold Sx.aN;simp
theorem MInv.s4 (h:MInv s) (hg:g < s.gs.length) (st:(aa s g).status=0) (k:2≤(ag s g).kind∧(ag s g).kind≤6) (e:(aa s g).place=4) (p:Int) (hp:(ag s g).kind=6∧p=21∨(ag s g).kind≠6∧p=5) (hl:(cn s (ag s g).ch).lock=-1):MInv (aI (aE s (ag s g).ch { cn s (ag s g).ch with lock:=g }) g p):=by
 obtain ⟨c0,c1⟩:=h.lZ hg (by omega) k;have hk:(aG (aa s g)).kind=(ag s g).kind:=rfl;have L:=h.loc hg;refine h.xo hg (x:={ aa s g with place:=p }) ⟨rfl,rfl,rfl,rfl,rfl,rfl,?_,st,?_,?_,?_,?_,?_,?_,?_⟩ c0 c1 ⟨.inr (.inl ⟨hl,rfl,fun ch=>?_⟩),h.gE c0 c1,⟨List.Sublist.refl _,List.Sublist.refl _⟩,.inl ⟨rfl,rfl⟩⟩ ?_ ?_
 ·unfold SE;omega
 ·omega
 ·omega
 ·simp only;omega
 ·unfold bF;simp only;omega
 ·refine ⟨?_,?_,?_,?_⟩ <;> simp only <;> omega
 ·simp only;omega
 ·by_cases w:(aa s g).an=[]
  ·exact .inl w
  ·have:=L.w1 w;omega
 ·have ho:aG { aa s g with place:=p }=aG (aa s g):=rfl;unfold bE SE;rw [ho,hk];simp only [e]
  constructor
  ·rintro (w | w)
   ·exact .inr w.2.2.1
   ·omega
  ·rintro (w | w)
   ·omega
   ·exact .inl ⟨k.1,k.2,w,by omega⟩
 ·unfold cI;simp only;omega
 ·simp only;omega
end Sx
namespace Sx
variable {s:ah} {g:Nat} {nc ns n:Int}
theorem VD {x y:Gr} (L:Loc nc ns n x) (k:SR x) (e:x.place=12) (st:x.status=0) (hy:y={ x with place:=13 }):Loc nc ns n y:=by
 have ho:aG y=aG x:=by subst hy;rfl
 have h1:y.ops=x.ops∧y.at_=x.at_∧y.place=13∧y.status=x.status∧y.token=x.token∧y.param=x.param∧y.aH=x.aH∧y.an=x.an∧y.ay=x.ay:=by subst hy;simp
 clear hy;obtain ⟨a1,a2,a3,a4,a5,a6,a7,a8,a9,ij,jr,mR,pK,pM,pN,nD,qS,qT,pO,pR,sC,pS⟩:=L
 constructor <;> simp only [Wt,SR,SE,e,st,Own,bF,dQ,ho,h1] at * <;> grind
theorem Own.sr {x y:Gr} {i:Int} (k:SR x) (ho:aG y=aG x) (hm:y.aH=x.aH) (p:11≤y.place∧y.place≤15) (h:Own x i):Own y i:=by
 rcases h with ⟨h0,h | h⟩
 ·exact ⟨h0,.inl ⟨by unfold SR;rw [ho];exact k,p.1,p.2,hm.trans h.2.2.2⟩⟩
 ·exact absurd h.1 k.ne
theorem Own.Ca {x y:Gr} {i:Int} (k:SR x) (ho:aG y=aG x) (hm:y.aH=x.aH) (p:11≤y.place∧y.place≤15) (q:11≤x.place∧x.place≤15):Own y i↔Own x i :=
 ⟨Own.sr (by unfold SR;rw [ho];exact k) ho.symm hm.symm q,Own.sr k ho hm p⟩
theorem MInv.VE (h:MInv s) (hg:g < s.gs.length) (st:(aa s g).status=0) (e:(aa s g).place=12) (k:2≤(ag s g).kind∧(ag s g).kind≤6):MInv (aI (free s (ag s g).ch) g 13):=by
 have L:=h.loc hg;have ks:SR (aa s g):=by
  have:=(L.pl.resolve_left (by omega)).2;have hk:(aG (aa s g)).kind=(ag s g).kind:=rfl;unfold bF at this;unfold SR;rw [e] at this;omega
 obtain ⟨c0,c1⟩:=h.lZ hg (by omega) k;have ho:aG { aa s g with place:=13 }=aG (aa s g):=rfl;have hk:(aG (aa s g)).kind=(ag s g).kind:=rfl;have hh:bE (aa s g) (ag s g).ch:=.inl ⟨k.1,k.2,rfl,by omega⟩;have jz:=ks.ne;have pl:({ aa s g with place:=13 }:Gr).place=13:=rfl;refine h.chan hg c0 c1 (x:={ aa s g with place:=13 }) (VD L ks e st rfl) ⟨.inr (.inr ⟨hh,rfl,fun ch=>?_⟩),h.gE c0 c1,⟨List.Sublist.refl _,List.Sublist.refl _⟩,.inl ⟨rfl,rfl⟩⟩ ?_ ?_ ?_ ?_ ?_ (fun q=>id) ?_ ?_ rfl
 ·unfold bE;have n1:¬ SE { aa s g with place:=13 }:=jz;simp only [ho,e,jz,n1,false_and,or_false]
  constructor
  ·intro w;omega
  ·intro w;exact absurd w.1.2.2.1 w.2
 ·intro i;exact Own.Ca ks rfl rfl (by rw [pl];decide) (by rw [e];decide)
 ·intro i d _ m;rcases m with m | m
  ·exact .inl m
  ·exact absurd m.1 jz
 ·intro i j q _ _ _ _;rcases q with q | q
  ·exact .inl ⟨q.1,by rw [pl];decide,by rw [pl];decide,q.2.2.2⟩
  ·exact absurd q.1 jz
 ·unfold cI;simp
 ·unfold cX;simp
 ·rintro ⟨w1,w2,w3,w4⟩
  exact ⟨.inl ⟨ks,by rw [pl];decide,by rw [pl];decide⟩,w2,w3,by simp⟩
 ·rintro ⟨w1,w2,w3⟩
  exact ⟨⟨.inl ⟨ks,by rw [pl];decide,by rw [pl];decide⟩,w2,fun h=>absurd h jz⟩,fun _=>ks⟩
theorem gB.xq {x:Gr} (e:x.place=13) (b:gB nc ns x) {y:Gr} (h1:aG y=aG x) (h2:y.order=x.order) (h3:y.aF=x.aF) (h4:y.k=x.k) (h5:y.ay=x.ay) (h6:y.res.code=x.res.code) (h7:y.place=14):gB nc ns y:=by
 have hc:∀ j,bV y j=bV x j:=fun j=>by unfold bV;rw [h1]
 obtain ⟨b1,b2,b3,b4,b5,b6,b7,b8,b9,zM,nE,tS,zN,zO,zP,xk,zQ,xl,xm,zR⟩:=b
 constructor <;> (try simp only [h1,h2,h3,h4,h5,h6,h7,hc]) <;> (try assumption) <;> (try simp)
 ·exact tS (by omega)
 ·exact xk (by omega)
 ·exact xl (by omega)
theorem Sf.xq {x y:Gr} (L:Loc nc ns n x) (e:x.place=13) (st:x.status=0) (h1:y.ops=x.ops) (h2:y.at_=x.at_) (h3:y.aH=x.aH) (h4:y.hold=x.hold) (h5:y.res.code=x.res.code) (h6:y.order=x.order) (h7:y.aF=x.aF) (h8:y.ay=x.ay) (h9:y.an=x.an) (mN:y.k=x.k) (lA:y.param=x.param) (lB:y.bz=x.bz) (gR:y.place=14)
  (hs:x.token=true∧y.token=false∧y.status=0∨x.token=false∧y.token=false∧y.status=1):Sf nc ns n x y:=by
 have ho:aG y=aG x:=by unfold aG;rw [h1,h2]
 have w0:Wt x:=by
  have:=(L.pl.resolve_left (by omega)).2;unfold bF at this;unfold Wt SR SE;rw [e] at this ⊢;omega
 have tU:SR y↔SR x:=by unfold SR;rw [ho]
 have jN:SE y↔SE x:=by unfold SE;rw [ho]
 have w1:Wt y:=by
  rcases w0 with w | w
  ·exact .inl ⟨tU.2 w.1,by rw [gR];decide,by rw [gR];decide⟩
  ·exact .inr ⟨jN.2 w.1,.inr (.inl gR)⟩
 have ow:∀ i,Own y i↔Own x i:=by
  intro i;unfold Own;rw [tU,jN,gR,e,h3,h8];simp
 refine ⟨?_,?_,ow,?_,?_,?_,fun q=>by rw [h9];exact id,?_,?_⟩
 ·obtain ⟨a1,a2,a3,a4,a5,a6,a7,a8,a9,ij,jr,mR,pK,pM,pN,nD,qS,qT,pO,pR,sC,pS⟩:=L
  constructor <;> (try simp only [h1,h2,h3,h4,h9,lA,lB,ho,tU,jN]) <;> (try assumption)
  ·rw [gR];rw [e] at a5;refine .inr ⟨(a5.resolve_left (by decide)).1,?_⟩;have:=(a5.resolve_left (by decide)).2;unfold bF at this ⊢;omega
  ·intro _ _ _;exact a6 (by omega) (by omega) (by omega)
  ·omega
  ·intro _;exact .inl gR
  ·rw [gR];intro h;exact absurd h (by decide)
  ·intro h;omega
  ·intro h;rcases hs with hs | hs <;> (rw [hs.2.1] at h;cases h)
  ·intro h;have:=mR h;omega
  ·rw [gR];intro h;exact absurd h (by decide)
  ·intro h;omega
  ·intro h1 h2 h3;exact qS h1 (by omega) (by omega)
  ·intro _ h;rcases hs with hs | hs
   ·exact (jr hs.1).2.1
   ·omega
  ·intro h;exact ⟨w1,(ow _).2 (pR h).2⟩
  ·intro h1 _;exact (pS h1 (by unfold dQ;omega)).xq e ho h6 h7 mN h8 h5 gR
 ·intro ch;unfold bE;rw [jN,gR,e,ho,h7,mN];simp
 ·intro i d _ m;unfold Match at m ⊢;have hc:∀ j,bV y j=bV x j:=fun j=>by unfold bV;rw [ho]
  rw [tU,jN,ho,h8,h6,hc];exact m
 ·intro i j q;unfold de at q ⊢;rw [tU,jN,gR,h3,lA,h8,h6,mN,h5];rcases q with q | q
  ·exact .inl ⟨q.1,by decide,by decide,q.2.2.2⟩
  ·exact .inr ⟨q.1,q.2.1,q.2.2.1,q.2.2.2.1,.inr (.inr (.inl rfl))⟩
 ·unfold cX;rw [gR];decide
 ·rintro ⟨v1,v2,v3,v4⟩
  refine ⟨w1,by rw [lA];exact v2,?_,?_⟩
  ·rcases hs with hs | hs <;> exact hs.2.1
  ·intro _;rcases hs with hs | hs
   ·rw [hs.1] at v3;cases v3
   ·omega
 ·rintro ⟨v1,v2,v3⟩
  exact ⟨⟨w1,by rw [lA];exact v2,fun h=>by rw [lB];exact v3 (jN.1 h)⟩,tU.1⟩
theorem MInv.xq (h:MInv s) (hg:g < s.gs.length) (st:(aa s g).status=0) (e:(aa s g).place=13):MInv (fA (aI s g 14) g):=by
 have L:=h.loc hg;have hs:fA (aI s g 14) g=ai s g (if (aa s g).token=true then { aa s g with place:=14,token:=false } else { aa s g with place:=14,status:=1 }):=by
  unfold fA aI;simp only [ja s g g _ hg,if_true,st,true_and];unfold ai;simp only [List.set_set]
 rw [hs]
 cases ht:(aa s g).token
 ·rw [if_neg (by simp)];exact h.self hg (Sf.xq L e st rfl rfl rfl rfl rfl rfl rfl rfl rfl rfl rfl rfl rfl (.inr ⟨ht,ht,rfl⟩)) rfl (fun w=>by unfold cI at w;simp at w)
 ·rw [if_pos rfl];exact h.self hg (Sf.xq L e st rfl rfl rfl rfl rfl rfl rfl rfl rfl rfl rfl rfl rfl (.inl ⟨ht,rfl,st⟩)) rfl (fun w=>by unfold cI at w;simp at w)
end Sx
namespace Sx
variable {s:ah} {g:Nat} {nc ns n:Int}
theorem VF {C:List (List Int)} {M:List Int} {f:Nat} {H:List Bool} {x:Int}:x∈M ++ C.flatten↔1≤Po.dZ ⟨C,M,f,H⟩ x:=by
 unfold Po.dZ;simp only;rw [List.mem_append,← List.count_pos_iff (a:=x) (l:=M),← List.count_pos_iff (a:=x) (l:=C.flatten)];omega
theorem nC {s:ah} {H:List Bool} {f:Nat} (hf:s.fresh=f) {x:Int}:gG s x=true↔0≤x∧x < s.fresh∧Po.dZ ⟨s.cache,s.middle,f,H⟩ x=0:=by
 unfold gG uL;simp only [Bool.and_eq_true,decide_eq_true_eq,Bool.not_eq_true',List.contains_eq_mem,decide_eq_false_iff_not];rw [VF (f:=f) (H:=H)];omega
theorem Mt (h:MInv s) (hg:g < s.gs.length):s.cache[g]?=some (s.cache.getD g []):=by
 have:g < s.cache.length:=by rw [h.ca];exact hg
 rw [List.getD_eq_getElem?_getD,List.getElem?_eq_getElem this];rfl
structure Mu (s t:ah) (g:Nat) (i:Int):Prop where
 i0:0≤i
 i1:i < s.aC.length
 nl:gG s i=false
 live:∀ j,gG t j=true↔gG s j=true∨j=i
 gs:t.gs=s.gs
 au:t.au=s.au
 aC:t.aC=s.aC
 sN:t.cV=s.cV
 cN:t.bN=s.bN
 cG:t.cG=s.cG
 drawn:t.drawn=s.drawn
 done:t.done=s.done
 step:t.step=s.step
 cl:t.cache.length=s.cache.length
 f0:0≤t.fresh
 po:∃ H,Po.Inv t.cV.toNat t.bN.toNat ⟨t.cache,t.middle,t.fresh.toNat,H⟩
theorem Cb (h:MInv s) (hg:g < s.gs.length) (ok:(aS s g).2.2=true):Mu s (aS s g).1 g (aS s g).2.1:=by
 obtain ⟨H,I⟩:=h.po;have hf:s.fresh=(s.fresh.toNat:Int):=by have:=h.f0;omega
 have hsn:=h.sn;have hc:=Mt h hg;have m1:=I.m1;unfold aS at ok ⊢
 split at ok
 ·rename_i e
  split at ok
  ·rename_i e2;rw [if_pos e,if_pos e2];have e0:=Po.JB m1 e;have nc:Po.dZ ⟨s.cache,s.middle,s.fresh.toNat,H⟩ s.fresh=0:=by
    by_cases q:1≤Po.dZ ⟨s.cache,s.middle,s.fresh.toNat,H⟩ s.fresh
    ·have:=(I.bound _ q).2;simp only at this;omega
    ·omega
   refine ⟨h.f0,by simp only;omega,?_,?_,rfl,rfl,rfl,rfl,rfl,rfl,rfl,rfl,rfl,rfl,by simp only;have:=h.f0;omega,?_⟩
   ·cases q:gG s s.fresh
    ·rfl
    ·have:=(nC (H:=H) hf).1 q;omega
   ·intro j;rw [nC (H:=H) hf,nC (s:={ s with fresh:=s.fresh + 1 }) (H:=H) (f:=s.fresh.toNat + 1) (by simp only;omega)];simp only;have e3:Po.dZ ⟨s.cache,s.middle,s.fresh.toNat + 1,H⟩ j=Po.dZ ⟨s.cache,s.middle,s.fresh.toNat,H⟩ j:=rfl;rw [e3]
    constructor
    ·intro w
     by_cases q:j=s.fresh
     ·exact .inr q
     ·exact .inl ⟨w.1,by omega,w.2.2⟩
    ·rintro (w | w)
     ·exact ⟨w.1,by omega,w.2.2⟩
     ·subst w;exact ⟨h.f0,by omega,nc⟩
   ·refine ⟨H,?_⟩;simp only;have:(s.fresh + 1).toNat=s.fresh.toNat + 1:=by have:=h.f0;omega
    rw [this];exact I.fresh (by simp only;omega)
  ·cases ok
 ·rename_i e;rw [if_neg e];obtain ⟨b0,b1⟩:0≤(Po.own s.bN.toNat (s.cache.getD g []) s.middle).getLastD 0∧Po.dZ ⟨s.cache,s.middle,s.fresh.toNat,H⟩ ((Po.own s.bN.toNat (s.cache.getD g []) s.middle).getLastD 0)=1:=by
   have pU:=Po.Ej (size:=0) (s:=⟨s.cache,s.middle,s.fresh.toNat,H⟩) (most:=s.bN.toNat) hc e ((Po.own s.bN.toNat (s.cache.getD g []) s.middle).getLastD 0);have hi:Po.ind ((Po.own s.bN.toNat (s.cache.getD g []) s.middle).getLastD 0) ((Po.own s.bN.toNat (s.cache.getD g []) s.middle).getLastD 0)=1:=by simp [Po.ind]
   simp only at pU;rw [hi] at pU;have h1:1≤Po.dZ ⟨s.cache,s.middle,s.fresh.toNat,H⟩ ((Po.own s.bN.toNat (s.cache.getD g []) s.middle).getLastD 0):=by omega
   exact ⟨(I.bound _ h1).1,by have:=I.one ((Po.own s.bN.toNat (s.cache.getD g []) s.middle).getLastD 0);omega⟩
  have pU:=fun a=>Po.Ej (size:=0) (s:=⟨s.cache,s.middle,s.fresh.toNat,H⟩) (most:=s.bN.toNat) hc e a
  have Cc:=I.qw hc e;have kE:=(I.bound _ (Nat.le_of_eq b1.symm)).2;simp only at pU kE Cc;unfold Po.qw at pU Cc;simp only at pU Cc;generalize (Po.own s.bN.toNat (s.cache.getD g []) s.middle).getLastD 0=i at *;generalize Po.own s.bN.toNat (s.cache.getD g []) s.middle=ow at *;refine ⟨b0,?_,?_,?_,rfl,rfl,rfl,rfl,rfl,rfl,rfl,rfl,rfl,by simp,h.f0,?_⟩
  ·have:=I.fl;simp only at this kE ⊢;omega
  ·cases q:gG s i
   ·rfl
   ·have:=((nC (H:=H) hf).1 q).2.2;omega
  ·intro j;have hj:=pU j;rw [nC (H:=H) hf,nC (s:={ s with cache:=s.cache.set g ow.dropLast,middle:=Po.bh s.bN.toNat (s.cache.getD g []) s.middle }) (H:=H.set i.toNat false) (f:=s.fresh.toNat) hf];simp only;unfold Po.ind at hj
   by_cases q:i=j
   ·rw [if_pos q] at hj;subst q
    constructor
    ·intro _;exact .inr rfl
    ·intro _;exact ⟨b0,by omega,by omega⟩
   ·rw [if_neg q] at hj
    constructor
    ·intro w;exact .inl ⟨w.1,w.2.1,by omega⟩
    ·rintro (w | w)
     ·exact ⟨w.1,w.2.1,by omega⟩
     ·exact absurd w.symm q
  ·exact ⟨_,Cc⟩
structure VG (s t:ah) (g:Nat) (i:Int):Prop where
 live:∀ j,gG t j=true↔gG s j=true∧j≠i
 gs:t.gs=s.gs
 au:t.au=s.au
 aC:t.aC=s.aC
 sN:t.cV=s.cV
 cN:t.bN=s.bN
 cG:t.cG=s.cG
 drawn:t.drawn=s.drawn
 done:t.done=s.done
 step:t.step=s.step
 cl:t.cache.length=s.cache.length
 f0:0≤t.fresh
 po:∃ H,Po.Inv t.cV.toNat t.bN.toNat ⟨t.cache,t.middle,t.fresh.toNat,H⟩
theorem VH (h:MInv s) (hg:g < s.gs.length) {i:Int} (hl:gG s i=true):VG s (ez s g i) g i:=by
 obtain ⟨H,I⟩:=h.po;have hf:s.fresh=(s.fresh.toNat:Int):=by have:=h.f0;omega
 have hc:=Mt h hg;have uR:=(nC (H:=H) hf).1 hl;have hL:Po.live s.fresh.toNat H i=true:=by
  have:=I.live i;simp only at this;rw [this];simp;omega
 have Gg:=I.qz hc hL;have pU:=fun a=>Po.JE (most:=s.bN.toNat) (s:=⟨s.cache,s.middle,s.fresh.toNat,H⟩) hc i a
 unfold ez;rw [if_pos hl];unfold Po.qz at Gg pU;simp only at Gg pU;refine ⟨?_,rfl,rfl,rfl,rfl,rfl,rfl,rfl,rfl,rfl,by simp,h.f0,_,Gg⟩;intro j;have hj:=pU j;rw [nC (H:=H) hf,nC (s:={ s with cache:=s.cache.set g ((s.cache.getD g []).take ((s.cache.getD g []).length - Po.eu s.bN.toNat (s.cache.getD g [])) ++ [i]),middle:=s.middle ++ (s.cache.getD g []).reverse.take (Po.eu s.bN.toNat (s.cache.getD g [])) }) (H:=H.set i.toNat true) (f:=s.fresh.toNat) hf];simp only;unfold Po.ind at hj
 by_cases q:i=j
 ·rw [if_pos q] at hj
  constructor
  ·intro w;omega
  ·intro w;exact absurd q.symm w.2
 ·rw [if_neg q] at hj
  constructor
  ·intro w;exact ⟨⟨w.1,w.2.1,by omega⟩,fun e=>q e.symm⟩
  ·intro w;exact ⟨w.1.1,w.1.2.1,by omega⟩
end Sx
namespace Sx
variable {s t:ah} {g:Nat} {nc ns n:Int}
theorem at_sum {s t:ah} {g:Nat} {x:Gr} (hg:g < s.gs.length) (e:t.gs=s.gs.set g x) (ha:x.at_=(aa s g).at_):oF t=oF s:=by
 refine Mq (by rw [e,List.length_set]) fun h _=>?_
 rw [Ge s s.gs rfl g h x hg t e]
 split
 ·rename_i c;subst c;exact ha
 ·rfl
theorem Mv {s t:ah} (e:t.au=s.au) (c:Int):cn t c=cn s c:=by unfold cn;rw [e]
theorem MInv.take (h:MInv s) (hg:g < s.gs.length) {i:Int} (T:Mu s t g i) {x:Gr} {d:Su} (lx:Loc s.au.length s.aC.length s.gs.length x) (hh:∀ ch,bE x ch↔bE (aa s g) ch)
  (ow:∀ j,Own x j↔Own (aa s g) j∨j=i) (mt:∀ j,Own (aa s g) j→Match x j (su s j)) (md:Match x i d) (dg:d.g=g) (nq:∀ j k,¬ de (aa s g) j k) (nw:¬ cI x) (gD:¬ cX x) (wk:x.an=(aa s g).an) (wt:¬ Wt (aa s g)) (ha:x.at_=(aa s g).at_) :
  MInv (ai (aR t i d) g x):=by
 have e:=fC s g;have lF:(ai (aR t i d) g x).gs=s.gs.set g x:=by simp only [ai,aR];rw [T.gs]
 have pV:(ai (aR t i d) g x).aC=s.aC.set i.toNat d:=by simp only [ai,aR];rw [T.aC]
 have vt:(ai (aR t i d) g x).au=s.au:=T.au;have hv:=Inv.take h.v (g:=g) (i:=i) (x:=x) (d:=d) (by omega) (by omega) T.i0 T.i1 (by simp [T.nl]) lx (by rw [e];exact hh) (by rw [e];exact ow) (by rw [e];exact mt) md dg (by rw [e];exact nq) nw gD (by rw [e];exact wk) (by rw [e];exact wt);obtain ⟨H,hH⟩:=T.po;refine ⟨?_,?_,?_,?_,?_,?_,?_,?_,?_,T.f0,⟨H,hH⟩,?_,?_,?_,?_,?_⟩
 ·unfold V;rw [lF,pV,vt,List.length_set,List.length_set];refine hv.tO (fun k k0 _=>sD hg lF k k0) (fun ch _ _=>Mv vt ch) (fun j j0 _=>B7 T.i0 T.i1 pV j j0) (fun j _ _=>?_);exact T.live j
 ·rw [lF,List.length_set];exact h.n1
 ·rw [lF,List.length_set];exact h.n8
 ·rw [vt];exact h.c8
 ·rw [pV,List.length_set];exact h.sn.trans T.sN.symm
 ·rw [pV,List.length_set];exact h.kJ
 ·show 1≤t.bN;rw [T.cN];exact h.c1
 ·show t.bN≤16;rw [T.cN];exact h.tV
 ·rw [lF,List.length_set];exact T.cl.trans h.ca
 ·show 0≤t.drawn;rw [T.drawn];exact h.sE
 ·show t.drawn≤t.cG.length;rw [T.drawn,T.cG];exact h.tW
 ·show ∀ x∈t.cG,_;rw [T.cG];exact h.du
 ·show t.cG.length≤1000;rw [T.cG];exact h.d5
 ·rw [at_sum hg lF ha];show (t.done.length:Int)=_;rw [T.done];exact h.dn
theorem MInv.Mw (h:MInv s) (hg:g < s.gs.length) {i:Int} (hi:Own (aa s g) i) {x:Gr} (lx:Loc s.au.length s.aC.length s.gs.length x) (hh:∀ ch,bE x ch↔bE (aa s g) ch)
  (ow:∀ j,Own x j↔Own (aa s g) j∧j≠i) (mt:∀ j d,Own x j→Match (aa s g) j d→Match x j d) (nq:∀ j k,¬ de (aa s g) j k) (nw:¬ cI x) (gD:¬ cX x) (wk:x.an=(aa s g).an) (wt:¬ Wt (aa s g)) (ha:x.at_=(aa s g).at_) :
  MInv (ai (cq s g i) g x):=by
 have e:=fC s g;have vu:=Inv.own h.v (g:Int) (by omega) (by omega) i (by rw [e];exact hi);have T:=VH h hg vu.2.2.2;have i0:=hi.1;have i1:=vu.1;unfold cq;generalize ez s g i=t at *;have lF:(ai (aR t i fj) g x).gs=s.gs.set g x:=by simp only [ai,aR];rw [T.gs]
 have pV:(ai (aR t i fj) g x).aC=s.aC.set i.toNat fj:=by simp only [ai,aR];rw [T.aC]
 have vt:(ai (aR t i fj) g x).au=s.au:=T.au;have hv:=Inv.cq h.v (g:=g) (i:=i) (x:=x) (by omega) (by omega) (by rw [e];exact hi) lx (by rw [e];exact hh) (by rw [e];exact ow) (fun j hj=>mt j _ hj (by
  have:=(Inv.own h.v (g:Int) (by omega) (by omega) j (by rw [e];exact ((ow j).1 hj).1)).2.1;rw [e] at this;exact this)) (by rw [e];exact nq) nw gD (by rw [e];exact wk) (by rw [e];exact wt)
 obtain ⟨H,hH⟩:=T.po;refine ⟨?_,?_,?_,?_,?_,?_,?_,?_,?_,T.f0,⟨H,hH⟩,?_,?_,?_,?_,?_⟩
 ·unfold V;rw [lF,pV,vt,List.length_set,List.length_set];refine hv.tO (fun k k0 _=>sD hg lF k k0) (fun ch _ _=>Mv vt ch) (fun j j0 _=>B7 i0 i1 pV j j0) (fun j _ _=>?_);exact T.live j
 ·rw [lF,List.length_set];exact h.n1
 ·rw [lF,List.length_set];exact h.n8
 ·rw [vt];exact h.c8
 ·rw [pV,List.length_set];exact h.sn.trans T.sN.symm
 ·rw [pV,List.length_set];exact h.kJ
 ·show 1≤t.bN;rw [T.cN];exact h.c1
 ·show t.bN≤16;rw [T.cN];exact h.tV
 ·rw [lF,List.length_set];exact T.cl.trans h.ca
 ·show 0≤t.drawn;rw [T.drawn];exact h.sE
 ·show t.drawn≤t.cG.length;rw [T.drawn,T.cG];exact h.tW
 ·show ∀ x∈t.cG,_;rw [T.cG];exact h.du
 ·show t.cG.length≤1000;rw [T.cG];exact h.d5
 ·rw [at_sum hg lF ha];show (t.done.length:Int)=_;rw [T.done];exact h.dn
theorem VI {x y:Gr} (L:Loc nc ns n x) (k:SR x) (e:x.place=15) (st:x.status=0) (hy:y={ x with place:=18,aH:=-1 }):Loc nc ns n y:=by
 have ho:aG y=aG x:=by subst hy;rfl
 have h1:y.ops=x.ops∧y.at_=x.at_∧y.place=18∧y.status=x.status∧y.token=x.token∧y.param=x.param∧y.aH=-1∧y.an=x.an∧y.ay=x.ay:=by subst hy;simp
 clear hy;obtain ⟨a1,a2,a3,a4,a5,a6,a7,a8,a9,ij,jr,mR,pK,pM,pN,nD,qS,qT,pO,pR,sC,pS⟩:=L
 constructor <;> simp only [Wt,SR,SE,e,st,Own,bF,dQ,ho,h1] at * <;> grind
theorem oH (s:ah) (g:Nat) (x:Gr) (p:Int) (hg:g < s.gs.length):aI (ai s g x) g p=ai s g { x with place:=p }:=by
 unfold aI;rw [ja s g g x hg,if_pos rfl];unfold ai;simp only [List.set_set]
theorem MInv.VJ (h:MInv s) (hg:g < s.gs.length) (st:(aa s g).status=0) (e:(aa s g).place=15) (k:2≤(ag s g).kind∧(ag s g).kind≤6):MInv (aI (ai (cq s g (aa s g).aH) g { aa s g with aH:=-1 }) g 18):=by
 have L:=h.loc hg;have ks:SR (aa s g):=by
  have:=(L.pl.resolve_left (by omega)).2;have hk:(aG (aa s g)).kind=(ag s g).kind:=rfl;unfold bF at this;unfold SR;rw [e] at this;omega
 have jz:=ks.ne;have hm:=L.mi ks (by omega) (by omega);have vu:Own (aa s g) (aa s g).aH:=⟨hm.1,.inl ⟨ks,by omega,by omega,rfl⟩⟩
 have gP:g < (cq s g (aa s g).aH).gs.length:=by
  unfold cq aR;simp only;unfold ez;split <;> exact hg
 rw [oH _ _ _ _ gP];have ho:aG { aa s g with place:=18,aH:=-1 }=aG (aa s g):=rfl;refine h.Mw hg vu (x:={ aa s g with place:=18,aH:=-1 }) (VI L ks e st rfl) ?_ ?_ ?_ ?_ ?_ ?_ rfl ?_ rfl
 ·intro ch;unfold bE;have n1:¬ SE { aa s g with place:=18,aH:=-1 }:=jz;simp only [ho,e,jz,n1,false_and,or_false];omega
 ·intro j;have n1:¬ SE { aa s g with place:=18,aH:=-1 }:=jz
  constructor
  ·rintro ⟨_,w | w⟩
   ·have:=w.2.2.1;simp at this
   ·exact absurd w.1 n1
  ·rintro ⟨⟨_,w | w⟩,w2⟩
   ·exact absurd w.2.2.2.symm w2
   ·exact absurd w.1 jz
 ·intro j d w;rcases w with ⟨_,w | w⟩
  ·have:=w.2.2.1;simp at this
  ·exact absurd w.1 jz
 ·rintro i j (q | q)
  ·omega
  ·exact absurd q.1 jz
 ·unfold cI;simp
 ·unfold cX;simp
 ·rintro (w | w)
  ·omega
  ·exact absurd w.1 jz
end Sx
namespace Sx
variable {s t:ah} {g:Nat} {nc ns n:Int}
theorem MInv.VK (h:MInv s) (hg:g < s.gs.length) (st:(aa s g).status=0) (e:(aa s g).place=16) (k:2≤(ag s g).kind∧(ag s g).kind≤6):MInv (an (free s (ag s g).ch) g):=by
 obtain ⟨c0,c1⟩:=h.lZ hg (by omega) k;have hk:(aG (aa s g)).kind=(ag s g).kind:=rfl;have hh:bE (aa s g) (ag s g).ch:=.inl ⟨k.1,k.2,rfl,by omega⟩;have key:∀ p:Int,(p=17∧(aa s g).an≠[]∨p=18∧(aa s g).an=[])→MInv (aI (free s (ag s g).ch) g p):=by
  intro p hp;refine h.xo hg (x:={ aa s g with place:=p }) ⟨rfl,rfl,rfl,rfl,rfl,rfl,?_,st,?_,?_,?_,?_,?_,?_,?_⟩ c0 c1 ⟨.inr (.inr ⟨hh,rfl,fun ch=>?_⟩),h.gE c0 c1,⟨List.Sublist.refl _,List.Sublist.refl _⟩,.inl ⟨rfl,rfl⟩⟩ ?_ ?_
  ·unfold SE;omega
  ·omega
  ·omega
  ·simp only;omega
  ·unfold bF;simp only;omega
  ·refine ⟨?_,?_,?_,?_⟩ <;> simp only
   ·omega
   ·omega
   ·intro q;rcases hp with hp | hp
    ·exact hp.2
    ·omega
   ·omega
  ·simp only;omega
  ·simp only;rcases hp with hp | hp
   ·exact .inr (.inr (.inl hp.1))
   ·exact .inl hp.2
  ·have ho:aG { aa s g with place:=p }=aG (aa s g):=rfl;unfold bE SE;rw [ho,hk];simp only [e]
   constructor
   ·intro w;omega
   ·rintro ⟨w | w,w2⟩
    ·exact absurd w.2.2.1 w2
    ·omega
  ·unfold cI;simp only;omega
  ·simp only;omega
 unfold an
 split
 ·rename_i q;refine key 17 (.inl ⟨rfl,fun w=>?_⟩);have:(aa (free s (ag s g).ch) g).an=(aa s g).an:=rfl;rw [this,w] at q;simp at q
 ·rename_i q;refine key 18 (.inr ⟨rfl,?_⟩);have:(aa (free s (ag s g).ch) g).an=(aa s g).an:=rfl;rw [this] at q;exact List.length_eq_zero_iff.1 (by omega)
theorem Rest.two (s:ah) {g p:Nat} {x y:Gr} (hg:g < s.gs.length) (hp:p < s.gs.length) (hx:x.at_=(aa s g).at_) (hy:y.at_=(aa s p).at_) (bO:p≠g):Rest s (Sx.ai (Sx.ai s p y) g x):=by
 refine (Rest.dy s hp hy).trans (Rest.dy _ (by simpa [Sx.ai] using hg) ?_);rw [ja s p g y hp,aB];exact hx
theorem VL {x y:Gr} {p:Int} {l:List Int} (L:Loc nc ns n x) (e:x.place=17) (st:x.status=0) (hw:x.an=p :: l) (h1:y.ops=x.ops) (h2:y.at_=x.at_) (h3:y.status=x.status) (h4:y.token=x.token) (h5:y.param=x.param) (h6:y.an=l) (hp:y.place=17∧l≠[]∨y.place=18∧l=[])
  (nP:x.param=-1) (nT:x.token=false):Loc nc ns n y:=by
 have ho:aG y=aG x:=by unfold aG;rw [h1,h2]
 have Mx:=L.w4;have Cd:=L.w3;rw [hw] at Mx Cd;have nh:=List.nodup_cons.1 Mx;have hy:y.place=17∨y.place=18:=by omega
 have lT:=(L.pl.resolve_left (by omega))
 have lC:=L.lC;have mk:=L.B2;have p0:=L.p0
 constructor
 ·rw [h1];exact L.oE
 ·rw [h1];exact L.gj
 ·rw [h2];exact L.a0
 ·rw [h1,h2];exact L.a1
 ·rw [h1,h2,ho];refine .inr ⟨lT.1,?_⟩;rcases hp with c | c
  ·rw [c.1,← e];exact lT.2
  ·rw [c.1];exact .inl rfl
 ·rw [ho];intro _ _ _;exact mk (by omega) (by omega) (by omega)
 ·rw [h3];exact lC
 ·rw [h3];omega
 ·omega
 ·rw [h3];omega
 ·rw [h4,nT];simp
 ·intro c;rw [h6] at c;rcases hp with d | d
  ·exact .inr (.inl d.1)
  ·exact absurd d.2 c
 ·intro c;rw [h6];rcases hp with d | d
  ·exact d.2
  ·omega
 ·rw [h6];exact fun p hp=>Cd p (List.mem_cons_of_mem _ hp)
 ·rw [h6];exact nh.2
 ·omega
 ·intro _ c1 c2;omega
 ·rw [h5];exact p0
 ·omega
 ·rw [h5];omega
 ·rw [h5];omega
 ·intro _ c;unfold dQ at c;omega
theorem MInv.VM (h:MInv s) (hg:g < s.gs.length) (st:(aa s g).status=0) (e:(aa s g).place=17) :
  MInv (an (ai (ready s ((aa s g).an.headD 0).toNat) g { aa s g with an:=(aa s g).an.tail }) g):=by
 have L:=h.loc hg;have eA:=fC s g;obtain ⟨p,l,hw⟩:∃ p l,(aa s g).an=p :: l:=by
  cases w:(aa s g).an with
  | nil=>exact absurd w (L.w2 e)
  | cons p l=>exact ⟨p,l,rfl⟩
 have hp:=L.w3 p (by rw [hw];simp);obtain ⟨k1,k2,k3,k4,k5⟩:=Inv.wk h.v (g:Int) (by omega) (by omega) p (by rw [eA,hw];simp);obtain ⟨q,rfl⟩:∃ q:Nat,p=q:=⟨p.toNat,by omega⟩
 have hq:q < s.gs.length:=by omega
 have zK:q≠g:=by omega
 rw [fC] at k2 k3 k4 k5;have Lq:=h.loc hq;have eN:(aa s q).status=0∨(aa s q).status=1:=by
  rcases Lq.lC with w | w | w
  ·exact .inl w
  ·exact .inr w
  ·have:=(Lq.Mj w).1;rcases k2 with k2 | k2 <;> omega
 obtain ⟨y,hy⟩:∃ y,(if (aa s q).status=1 then { aa s q with status:=0 } else if (aa s q).status=0 then { aa s q with token:=true } else aa s q)=y:=⟨_,rfl⟩
 have er:ready s q=ai s q y:=by unfold ready;rw [hy]
 have VN:((aa s g).an.headD 0).toNat=q:=by rw [hw];simp
 have VO:(aa s g).an.tail=l:=by rw [hw];rfl
 rw [VN,VO,er];obtain ⟨pl,lT,hs⟩:∃ pl:Int,(pl=17∧l≠[]∨pl=18∧l=[])∧an (ai (ai s q y) g { aa s g with an:=l }) g=ai (ai s q y) g { aa s g with an:=l,place:=pl }:=by
  have gP:g < (ai s q y).gs.length:=by simpa [ai] using hg
  by_cases c:l=[]
  ·refine ⟨18,.inr ⟨rfl,c⟩,?_⟩;unfold an;rw [ja _ g g _ gP,if_pos rfl,if_neg (by simp [c]),oH _ _ _ _ gP]
  ·refine ⟨17,.inl ⟨rfl,c⟩,?_⟩;unfold an;rw [ja _ g g _ gP,if_pos rfl,if_pos (List.length_pos_iff.2 c),oH _ _ _ _ gP]
 rw [hs];have py:Part (aa s q) y∧y.param=(aa s q).param∧y.bz=(aa s q).bz∧((aa s q).status=1∧y.status=0∧y.token=(aa s q).token∨(aa s q).status=0∧y.status=0∧y.token=true):=by
  rw [← hy];rcases eN with w | w
  ·rw [aB,if_pos w];exact ⟨⟨rfl,rfl,rfl,rfl,rfl,rfl,rfl,rfl,rfl,rfl,rfl⟩,rfl,rfl,.inr ⟨w,w,rfl⟩⟩
  ·rw [if_pos w];exact ⟨⟨rfl,rfl,rfl,rfl,rfl,rfl,rfl,rfl,rfl,rfl,rfl⟩,rfl,rfl,.inl ⟨w,rfl,rfl⟩⟩
 obtain ⟨x,hx⟩:∃ x,({ aa s g with an:=l,place:=pl }:Gr)=x:=⟨_,rfl⟩
 have x1:x.ops=(aa s g).ops∧x.at_=(aa s g).at_∧x.place=pl∧x.status=(aa s g).status∧x.token=(aa s g).token∧x.param=(aa s g).param∧x.aH=(aa s g).aH∧x.ay=(aa s g).ay:=by subst hx;simp
 have x2:x.an=l:=by subst hx;rfl
 have ho:aG x=aG (aa s g):=by subst hx;rfl
 rw [hx];have My:x.place=17∨x.place=18:=by rw [x1.2.2.1];exact lT.imp (fun w=>w.1) (fun w=>w.1)
 have Mz:∀ (z:Gr) i,z.place=17∨z.place=18→¬ Own z i:=by
  rintro z i c ⟨_,w | w⟩
  ·have:=w.2.2.1;omega
  ·have:=w.2.1;omega
 have nS:∀ i,¬ Own (aa s g) i∧¬ Own x i:=fun i=>⟨Mz _ i (.inl e),Mz _ i My⟩
 have VP:¬ Wt (aa s g):=by rintro (w | w) <;> omega
 have sF:∀ i j,¬ de (aa s g) i j:=by rintro i j (w | w) <;> omega
 have nQ:∀ ch,bE x ch↔bE (aa s g) ch:=by
  have MA:∀ (z:Gr) ch,z.place=17∨z.place=18→¬ bE z ch:=by
   rintro z ch c (w | w)
   ·have:=w.2.2.2;omega
   ·have:=w.2;omega
  exact fun ch=>⟨fun w=>absurd w (MA _ _ My),fun w=>absurd w (MA _ _ (.inl e))⟩
 have nP:(aa s g).param=-1:=by
  have:=L.p0
  by_cases c:0≤(aa s g).param
  ·exact absurd (L.p2 c).2 (nS _).1
  ·omega
 have nT:(aa s g).token=false:=by
  cases c:(aa s g).token
  ·rfl
  ·have:=(L.tk c).2.1;omega
 have lx:Loc s.au.length s.aC.length s.gs.length x:=VL L e st hw x1.1 x1.2.1 x1.2.2.2.1 x1.2.2.2.2.1 x1.2.2.2.2.2.1 x2 (by rw [x1.2.2.1];exact lT) nP nT;refine h.rest (by subst hx;exact Rest.two s hg hq rfl py.1.at_ zK) (V.of (by subst hx;exact Rest.two s hg hq rfl py.1.at_ zK) (Inv.readies h.v (g:=g) (p:=(q:Int)) (x:=x) (y:=y) (l:=l) (by omega) (by omega) lx ?_ ?_ ?_ ?_ ?_ ?_ ?_ x2 ?_ ?_ ?_ ?_ ?_) (fun k k0=>Gf hg hq rfl k k0) (fun _ _=>rfl) (fun _ _=>rfl))
 all_goals (try rw [eA]);(try rw [fC])
 ·exact nQ
 ·intro i;exact ⟨fun w=>absurd w (nS i).2,fun w=>absurd w (nS i).1⟩
 ·intro i d w;exact absurd w (nS i).2
 ·exact sF
 ·unfold cI;omega
 ·unfold cX;omega
 ·exact hw
 ·exact VP
 ·exact py.1
 ·exact py.2.1
 ·exact py.2.2.1
 ·exact py.2.2.2
theorem MInv.common (h:MInv s) (hg:g < s.gs.length) (st:(aa s g).status=0) (k:2≤(ag s g).kind∧(ag s g).kind≤6∨(aa s g).place=13∨(aa s g).place=17):MInv (common s g).1:=by
 unfold Sx.common;simp only
 by_cases e4:(aa s g).place=4
 ·rw [if_pos e4];have k:=k.resolve_right (by omega);unfold tryLock
  by_cases hl:(cn s (ag s g).ch).lock=-1
  ·simp only [if_pos hl]
   by_cases k6:(ag s g).kind=6
   ·simp only [if_pos k6,if_true];exact h.s4 hg st k e4 21 (.inl ⟨k6,rfl⟩) hl
   ·simp only [if_neg k6,if_true];exact h.s4 hg st k e4 5 (.inr ⟨k6,rfl⟩) hl
  ·simp only [if_neg hl];exact h
 rw [if_neg e4]
 by_cases sG:(aa s g).place=12
 ·rw [if_pos sG];exact h.VE hg st sG (k.resolve_right (by omega))
 rw [if_neg sG]
 by_cases sH:(aa s g).place=13
 ·rw [if_pos sH];exact h.xq hg st sH
 rw [if_neg sH]
 by_cases sJ:(aa s g).place=15
 ·rw [if_pos sJ];exact h.VJ hg st sJ (k.resolve_right (by omega))
 rw [if_neg sJ]
 by_cases sK:(aa s g).place=16
 ·rw [if_pos sK];exact h.VK hg st sK (k.resolve_right (by omega))
 rw [if_neg sK]
 by_cases pW:(aa s g).place=17
 ·rw [if_pos pW];exact h.VM hg st pW
 rw [if_neg pW];exact h
end Sx
namespace Sx
variable {s t:ah} {g:Nat} {nc ns n:Int}
theorem MB {s:ah} {c:Int} (c0:1≤c) (c1:c≤s.au.length):aE s c (cn s c)=s:=by
 unfold aE cn;have:(c - 1).toNat < s.au.length:=by omega
 rw [List.getD_eq_getElem?_getD,List.getElem?_eq_getElem this];simp
structure xu (s:ah) (g:Nat) (c i:Int) (o:Nat):Prop where
 i0:0≤i
 i1:i < s.aC.length
 ch:(su s i).ch=c
 g_:(su s i).g=o
 o1:o < s.gs.length
 own:Own (aa s o) i
 q:de (aa s o) i (su s i).cs
 mt:Match (aa s o) i (su s i)
theorem MInv.xw (h:MInv s) {c i:Int} (c0:1≤c) (c1:c≤s.au.length) (hq:i∈(cn s c).recv∨i∈(cn s c).send):∃ o,xu s g c i o:=by
 obtain ⟨t1,t2,t3,t4,t5,t6,t7,t8⟩:=Inv.B6 h.v c0 c1 hq;refine ⟨(su s i).g.toNat,t1,t2,t3,by omega,by omega,t6,t7,t8⟩
theorem MInv.Ce (h:MInv s) (hg:g < s.gs.length) {i:Int} {o:Nat} {x y:Gr} {c:Int} {c':Cn} (q:xu s g c i o) (lx:Loc s.au.length s.aC.length s.gs.length x) (hc:jM s.gs.length (cn s) g (aa s g) x c c') (ow:∀ i,Own x i↔Own (aa s g) i) (mt:∀ i d,Own x i→Match (aa s g) i d→Match x i d)
  (nq:∀ i j,¬ de (aa s g) i j) (nw:¬ cI x) (wx:∀ q∈x.an,q∈(aa s g).an) (lE:¬ Wt (aa s g))
  (hx:cX x) (xi:x.hold=i) (c0:1≤c) (c1:c≤s.au.length) (xh:bE x c) (hq:i∈(cn s c).recv∨i∈(cn s c).send) (py:Part (aa s o) y) (e1:y.param=(aa s o).param) (e2:y.token=(aa s o).token) (e3:y.status=(aa s o).status)
  (hp:(su s i).cs < 0∧i∉c'.recv∧i∉c'.send∧y.bz=(aa s o).bz∨0≤(su s i).cs∧(aa s o).bz=false∧y.bz=true∧bE (aa s g) c) (ha:x.at_=(aa s g).at_) :
  MInv (ai (ai (aE s c c') o y) g x):=by
 have bO:o≠g:=fun e=>nq _ _ (e ▸ q.q)
 have eA:=fC s g;have eO:gA s (su s i).g=aa s o:=by rw [q.g_,fC]
 have r:Rest s (ai (ai (aE s c c') o y) g x):=(Rest.dJ s c c').trans (Rest.two (Sx.aE s c c') (g:=g) (p:=o) hg q.o1 ha py.at_ bO);refine h.rest r (V.of r (Inv.Vy h.v (g:=g) (i:=i) (x:=x) (y:=y) (c:=c) (c':=c') (by omega) (by omega) lx (by rw [eA];exact hc) (by rw [eA];exact ow) (by rw [eA];exact mt) (by rw [eA];exact nq) nw (by rw [eA];exact wx) (by rw [eA];exact lE) hx xi q.ch c0 c1 xh hq (by rw [eO];exact py) (by rw [eO];exact e1) (by rw [eO];exact e2) (by rw [eO];exact e3) (by rw [eO,eA];exact hp)) (fun k k0=>?_) (fun ch w=>nF c0 c1 rfl ch w) (fun _ _=>rfl));rw [q.g_];exact Gf (s:=s) hg q.o1 rfl k k0
theorem MInv.Gh (h:MInv s) (hg:g < s.gs.length) {i:Int} {o:Nat} {x y:Gr} {c:Int} {c':Cn} {d:Su} (c0:1≤c) (c1:c≤s.au.length) (lx:Loc s.au.length s.aC.length s.gs.length x) (hc:jM s.gs.length (cn s) g (aa s g) x c c') (ow:∀ i,Own x i↔Own (aa s g) i) (mt:∀ i d,Own x i→Match (aa s g) i d→Match x i d)
  (nq:∀ i j,¬ de (aa s g) i j) (nw:¬ cI x) (gD:¬ cX x) (wx:∀ q∈x.an,q∈(aa s g).an∨q=(o:Int)) (lE:¬ Wt (aa s g))
  (sc:(su s i).ch=c) (so:(su s i).g=o) (o1:o < s.gs.length) (bO:o≠g) (F1:Wt (aa s o)) (F2:(aa s o).param=-1) (F3:Own (aa s o) i) (F4:SE (aa s o)→y.bz=true) (F5:i∉c'.recv∧i∉c'.send)
  (other:∀ k:Nat,k < s.gs.length→k≠g→cX (aa s k)→(su s (aa s k).hold).g=o→False)
  (py:Part (aa s o) y) (e1:y.param=i) (e2:y.token=(aa s o).token) (e3:y.status=(aa s o).status) (ha:x.at_=(aa s g).at_)
  (hd:d.g=(su s i).g∧d.ch=(su s i).ch∧d.cs=(su s i).cs∧d.send=(su s i).send∧d.live=(su s i).live) :
  MInv (ai (aR (ai (aE s c c') o y) i d) g x):=by
 have eA:=fC s g;have eO:gA s (su s i).g=aa s o:=by rw [so,fC]
 have i1:=(Inv.own h.v (o:Int) (by omega) (by omega) i (by rw [fC];exact F3)).1;have i0:=F3.1;have r:Rest s (ai (aR (ai (aE s c c') o y) i d) g x):=by
  have r1:=(Rest.dJ s c c').trans (Rest.two (Sx.aE s c c') (g:=g) (p:=o) hg o1 ha py.at_ bO);refine ⟨r1.gl,r1.cl,by simp [Sx.aR,Sx.ai,Sx.aE],r1.sN,r1.cN,r1.ca,r1.md,r1.fr,r1.dw,r1.dn,r1.B8,r1.at_⟩
 have v:=Inv.serve h.v (g:=g) (i:=i) (x:=x) (y:=y) (c:=c) (c':=c') (by omega) (by omega) lx (by rw [eA];exact hc) (by rw [eA];exact ow) (by rw [eA];exact mt) (by rw [eA];exact nq) nw gD (by rw [eA,so];exact wx) (by rw [eA];exact lE) sc (by omega) (by omega) (by omega) (by rw [eO];exact F1) (by rw [eO];exact F2) (by rw [eO];exact F3) (by rw [eO];exact F4) F5 (fun k k0 k1 kg cl e=>by
  refine other k.toNat (by omega) (by omega) cl (by rw [← so];exact e)) (by rw [eO];exact py) e1 (by rw [eO];exact e2) (by rw [eO];exact e3)
 have v2:=v.Vu (S':=up (su s) i d) (fun j=>by
  unfold up
  by_cases e:j=i
  ·rw [if_pos e,e];exact hd
  ·rw [if_neg e];exact ⟨rfl,rfl,rfl,rfl,rfl⟩)
 refine h.rest r (V.of r v2 (fun k k0=>?_) (fun ch w=>nF c0 c1 rfl ch w) (fun j j0=>B7 i0 i1 rfl j j0));rw [so];exact Gf (s:=s) hg o1 rfl k k0
def cu (c:Cn) (i:Int):Cn:={ c with recv:=ig c.recv i,send:=ig c.send i }
theorem drop_eq {s:ah} {i c:Int} (e:(su s i).ch=c) (c0:1≤c) (c1:c≤s.au.length):bq s i=aE s c (cu (cn s c) i):=by
 subst e;unfold bq;rw [if_pos (oG.2 ⟨c0,c1⟩)];rfl
theorem oI {l:List Int} {i:Int}:i∉ig l i:=by unfold ig;simp
theorem jA {l:List Int} {i:Int}:(ig l i).Sublist l:=by unfold ig;exact List.filter_sublist
theorem Cf {l:List Gr} {g o:Nat} {a b c:Gr} (h:o≠g):((l.set g a).set o b).set g c=(l.set o b).set g c:=by
 rw [List.set_comm _ _ (by omega:g≠o),List.set_set]
theorem MC {s:ah} {g o:Nat} {i:Int} (hg:g < s.gs.length) (so:(su s i).g=o) (bO:o≠g):pair s g i=ai (ai s o { aa s o with bQ:=(aa s g).t,wi:=g,dL:=(su s i).cs }) g { aa s g with bQ:=(aa s g).t,wi:=o }:=by
 unfold pair;simp only [so,Int.toNat_natCast]
theorem iQ {s:ah} {g h:Nat} {x:Gr} (hg:g < s.gs.length):aa (ai s g x) h=if h=g then x else aa s h:=ja s g h x hg
theorem iB {s:ah} {g:Nat} {x:Gr}:(ai s g x).gs.length=s.gs.length:=by simp [ai]
theorem MD (hg:g < s.gs.length) {i c:Int} {o:Nat} {cQ hand:Int} (so:(su s i).g=o) (bO:o≠g) (sc:(su s i).ch=c) (c0:1≤c) (c1:c≤s.au.length) (hn:¬ 0≤(su s i).cs) :
  taken s g i cQ hand=ai (ai (aE s c (cu (cn s c) i)) o { aa s o with bQ:=s.step,wi:=g,dL:=(su s i).cs }) g { aa s g with hold:=i,t:=s.step,bQ:=s.step,wi:=o,place:=hand }:=by
 unfold taken;rw [if_neg hn];have e1:bq (ai s g { aa s g with hold:=i,t:=s.step }) i=aE (ai s g { aa s g with hold:=i,t:=s.step }) c (cu (cn s c) i):=drop_eq (s:=ai s g { aa s g with hold:=i,t:=s.step }) sc c0 c1;have gP:g < (aE (ai s g { aa s g with hold:=i,t:=s.step }) c (cu (cn s c) i)).gs.length:=by show g < (ai s g _).gs.length;rw [iB];exact hg
 rw [e1,MC gP so bO];have g1:aa (aE (ai s g { aa s g with hold:=i,t:=s.step }) c (cu (cn s c) i)) g={ aa s g with hold:=i,t:=s.step }:=by rw [B9,iQ hg,if_pos rfl]
 have g2:aa (aE (ai s g { aa s g with hold:=i,t:=s.step }) c (cu (cn s c) i)) o=aa s o:=by rw [B9,iQ hg,if_neg bO]
 rw [g1,g2,oH _ _ _ _ (by rw [iB];exact gP)];unfold ai aE;simp only;rw [Cf bO];rfl
theorem ME {i:Int} {cQ hand:Int} (hg:g < s.gs.length) (hn:0≤(su s i).cs):taken s g i cQ hand=ai s g { aa s g with hold:=i,place:=cQ }:=by
 unfold taken;rw [if_pos hn,oH _ _ _ _ hg]
theorem xu.ne (h:MInv s) {c i:Int} {o:Nat} (q:xu s g c i o) (nq:∀ i j,¬ de (aa s g) i j):o≠g:=fun e=>nq _ _ (e ▸ q.q)
theorem MInv.s6 (h:MInv s) (hg:g < s.gs.length) (st:(aa s g).status=0) (k:2≤(ag s g).kind∧(ag s g).kind≤5) (e:(aa s g).place=6) {i:Int} (hq:i∈(cn s (ag s g).ch).recv∨i∈(cn s (ag s g).ch).send):MInv (taken s g i 7 8):=by
 obtain ⟨c0,c1⟩:=h.lZ hg (by omega) (by omega);have hk:(aG (aa s g)).kind=(ag s g).kind:=rfl;have L:=h.loc hg;obtain ⟨o,q⟩:=h.xw (g:=g) c0 c1 hq;have ei:(aa s g).an=[]:=by
  by_cases w:(aa s g).an=[]
  ·exact w
  ·have:=L.w1 w;omega
 have go:∀ (x:Gr) (p:Int),p=7∨p=8→x.ops=(aa s g).ops→x.at_=(aa s g).at_→x.status=(aa s g).status→x.token=(aa s g).token→x.param=(aa s g).param→x.an=(aa s g).an→x.place=p→gU (aa s g) x:=by
  intro x p hp h1 h2 h3 h4 h5 h6 h7;refine ⟨h1,h2,h3,h4,h5,h6,by unfold SE;omega,st,by omega,by omega,by omega,?_,⟨by omega,by omega,by omega,by omega⟩,by omega,.inl ei⟩;unfold bF;omega
 have hH:∀ x:Gr,aG x=aG (aa s g)→(x.place=7∨x.place=8)→bE x (ag s g).ch:=fun x ho hp=>.inl ⟨by rw [ho];omega,by rw [ho];omega,by rw [ho];rfl,by omega⟩
 by_cases hn:0≤(su s i).cs
 ·rw [ME hg hn];have G:=go { aa s g with hold:=i,place:=7 } 7 (.inl rfl) rfl rfl rfl rfl rfl rfl rfl;refine h.self hg (G.sf L (fun _=>⟨q.i0,q.i1⟩) ?_ (by simp)) rfl (fun _=>?_)
  ·rw [e];unfold hP;simp
  ·simp only;rw [q.ch];exact ⟨c0,c1,hH _ rfl (.inl rfl),hq,hn⟩
 ·have G:=go { aa s g with hold:=i,t:=s.step,bQ:=s.step,wi:=o,place:=8 } 8 (.inr rfl) rfl rfl rfl rfl rfl rfl rfl;rw [MD hg q.g_ (q.ne h (G.nq)) q.ch c0 c1 hn];refine h.Ce hg q (G.loc L (fun _=>⟨q.i0,q.i1⟩)) ⟨.inl ⟨rfl,G.hh (by rw [e];unfold hP;simp)⟩,h.gE c0 c1,⟨jA,jA⟩,.inr ?_⟩ (fun i=>⟨fun w=>absurd w (G.own i).2,fun w=>absurd w (G.own i).1⟩) (fun i d w=>absurd w (G.own i).2) G.nq (by unfold cI;simp) (fun q=>id) G.nw (.inl rfl) rfl c0 c1 (hH _ rfl (.inr rfl)) hq ⟨rfl,rfl,rfl,rfl,rfl,rfl,rfl,rfl,rfl,rfl,rfl⟩ rfl rfl rfl (.inl ⟨by omega,oI,oI,rfl⟩) rfl;exact .inl ⟨by omega,by omega,rfl,by omega⟩
end Sx
namespace Sx
variable {s t:ah} {g:Nat} {nc ns n:Int}
theorem MInv.buf (h:MInv s) {c:Int} {c':Cn} (c0:1≤c) (c1:c≤s.au.length) (e1:c'.lock=(cn s c).lock) (e2:c'.recv=(cn s c).recv) (e3:c'.send=(cn s c).send) (e4:0≤c'.cap∧c'.cap≤4∧(c'.buf.length:Int)≤c'.cap):MInv (aE s c c'):=by
 refine h.rest (Rest.dJ s c c') ?_;have I:=h.v;have key:∀ ch,1≤ch→(cn (aE s c c') ch).lock=(cn s ch).lock∧(cn (aE s c c') ch).recv=(cn s ch).recv∧(cn (aE s c c') ch).send=(cn s ch).send:=by
  intro ch a;rw [nF c0 c1 rfl ch a]
  by_cases e:ch=c
  ·subst e;rw [iA];exact ⟨e1,e2,e3⟩
  ·rw [iZ _ _ e];exact ⟨rfl,rfl,rfl⟩
 have J:Inv s.gs.length s.au.length s.aC.length (gA s) (cn (aE s c c')) (su s) (fun i=>gG s i=true):=by
  constructor
  ·exact I.loc
  ·intro ch a b;rw [(key ch a).1];exact I.j4 ch a b
  ·intro k a b ch c d;rw [(key ch c).1];exact I.iY k a b ch c d
  ·intro ch a b;rw [nF c0 c1 rfl ch a]
   by_cases e:ch=c
   ·subst e;rw [iA];exact e4
   ·rw [iZ _ _ e];exact I.cap ch a b
  ·exact I.own
  ·intro ch a b i;rw [(key ch a).2.1,(key ch a).2.2];exact I.q ch a b i
  ·intro ch a b;rw [(key ch a).2.1,(key ch a).2.2];exact I.nd ch a b
  ·intro k a b w;have:=I.cQ k a b w;rw [(key _ this.1).2.1,(key _ this.1).2.2];exact this
  ·intro k a b w;have:=I.cl k a b w;rw [(key _ this.1).2.1,(key _ this.1).2.2];exact this
  ·exact I.sB
  ·exact I.wk
  ·exact I.qR
  ·exact I.su
  ·exact I.lv
 refine V.of (Rest.dJ s c c') J (fun _ _=>rfl) (fun _ _=>rfl) (fun _ _=>rfl)
theorem MF {s:ah} {g:Nat} {back on:Int} (hp:(aa s (su s (aa s g).hold).g.toNat).bz=true):cQ s g back on=ai (bq s (aa s g).hold) g { aa s g with hold:=-1,place:=back }:=by
 unfold cQ;simp only;rw [if_pos hp]
theorem MG {s:ah} {g o:Nat} {back on:Int} (hg:g < s.gs.length) (ho:o < s.gs.length) (so:(su s (aa s g).hold).g=o) (bO:o≠g) (hp:(aa s o).bz=false) :
  cQ s g back on=ai (ai s o { aa s o with bz:=true,bQ:=s.step,wi:=g,dL:=(su s (aa s g).hold).cs }) g { aa s g with t:=s.step,bQ:=s.step,wi:=o,place:=on }:=by
 unfold cQ;simp only [so,Int.toNat_natCast];rw [if_neg (by rw [hp];simp)];have gP:g < (ai (ai s g { aa s g with t:=s.step }) o { aa s o with bz:=true }).gs.length:=by rw [iB,iB];exact hg
 have tD:o < (ai s g { aa s g with t:=s.step }).gs.length:=by rw [iB];exact ho
 have VQ:(su (ai (ai s g { aa s g with t:=s.step }) o { aa s o with bz:=true }) (aa s g).hold).g=o:=so;rw [MC gP VQ bO];have g1:aa (ai (ai s g { aa s g with t:=s.step }) o { aa s o with bz:=true }) g={ aa s g with t:=s.step }:=by rw [iQ tD,if_neg (by omega),iQ hg,if_pos rfl]
 have g2:aa (ai (ai s g { aa s g with t:=s.step }) o { aa s o with bz:=true }) o={ aa s o with bz:=true }:=by rw [iQ tD,if_pos rfl]
 rw [g1,g2,oH _ _ _ _ (by rw [iB];exact gP)];unfold ai;simp only [List.set_set];rw [Cf bO];rfl
theorem MInv.Gi (h:MInv s) (hg:g < s.gs.length) (w:cI (aa s g)):∃ o,xu s g (su s (aa s g).hold).ch (aa s g).hold o∧1≤(su s (aa s g).hold).ch∧(su s (aa s g).hold).ch≤s.au.length∧bE (aa s g) (su s (aa s g).hold).ch∧((aa s g).hold∈(cn s (su s (aa s g).hold).ch).recv∨(aa s g).hold∈(cn s (su s (aa s g).hold).ch).send)∧0≤(su s (aa s g).hold).cs:=by
 have:=Inv.cQ h.v g (by omega) (by omega);rw [fC] at this;obtain ⟨c0,c1,k1,k2,k3⟩:=this w;obtain ⟨o,q⟩:=h.xw (g:=g) c0 c1 k2;exact ⟨o,q,c0,c1,k1,k2,k3⟩
structure Gj (s:ah) (g:Nat) (i c:Int) (o:Nat):Prop where
 c0:1≤c
 c1:c≤s.au.length
 sc:(su s i).ch=c
 so:(su s i).g=o
 o1:o < s.gs.length
 ne:o≠g
 hh:bE (aa s g) c
 wt:Wt (aa s o)
 pm:(aa s o).param=-1
 own:Own (aa s o) i
 se:SE (aa s o)→(aa s o).bz=true
 sr:SR (aa s o)→i∉(cn s c).recv∧i∉(cn s c).send
theorem MInv.Gk (h:MInv s) (hg:g < s.gs.length) (w:cX (aa s g)):∃ o,Gj s g (aa s g).hold (su s (aa s g).hold).ch o∧∀ k:Nat,k < s.gs.length→k≠g→cX (aa s k)→(su s (aa s k).hold).g=o→False:=by
 have:=Inv.cl h.v g (by omega) (by omega);rw [fC] at this;obtain ⟨c0,c1,k1,k2,k3,k4,k5,k6,k7,k8,k9⟩:=this w;refine ⟨(su s (aa s g).hold).g.toNat,⟨c0,c1,rfl,by omega,by omega,by omega,k1,k5,k6,k7,k8,k9⟩,fun k a b cl e=>?_⟩;have:=Inv.sB h.v k g (by omega) (by omega) (by omega) (by omega) (by rw [fC];exact cl) (by rw [fC];exact w) (by rw [fC,fC];omega);omega
theorem zS {s:ah} {g o:Nat} {i:Int} {d:Bool} (hg:g < s.gs.length) (ho:o < s.gs.length) (so:(su s i).g=o) (bO:o≠g) :
  serve s g i d=ai (aR (ai s o { aa s o with param:=i }) i { su s i with done:=d }) g { aa s g with an:=(aa s g).an ++ [(o:Int)],hold:=-1 }:=by
 have g1:aa (aR (ai s o { aa s o with param:=i }) i { su s i with done:=d }) g=aa s g:=by rw [VC,iQ ho,if_neg (by omega)]
 have e:serve s g i d=ai (aR (ai s (su s i).g.toNat { aa s (su s i).g.toNat with param:=i }) i { su s i with done:=d }) g { aa (aR (ai s (su s i).g.toNat { aa s (su s i).g.toNat with param:=i }) i { su s i with done:=d }) g with an:=(aa (aR (ai s (su s i).g.toNat { aa s (su s i).g.toNat with param:=i }) i { su s i with done:=d }) g).an ++ [(su s i).g],hold:=-1 }:=rfl;rw [e,so,Int.toNat_natCast,g1]
end Sx
namespace Sx
variable {s t:ah} {g:Nat} {nc ns n:Int}
theorem Loc.Gl {x:Gr} (L:Loc nc ns n x) {l:List Int} (h1:x.place=16∨x.place=17∨x.place=22∨x.place=23∨x.place=34∨x.place=30∧x.res.code≠0) (h2:∀ p∈l,0≤p∧p < n) (h3:l.Nodup) (h4:l≠[]):Loc nc ns n { x with an:=l } :=
 ⟨L.oE,L.gj,L.a0,L.a1,L.pl,L.B2,L.lC,L.B3,L.B4,L.Mj,L.tk,fun _=>h1,fun _=>h4,h2,h3,L.hd,L.mi,L.p0,L.p1,L.p2,L.p3,fun a b=>by
  obtain ⟨b1,b2,b3,b4,b5,b6,b7,b8,b9,zM,nE,tS,zN,zO,zP,xk,zQ,xl,xm,zR⟩:=L.se a b;exact ⟨b1,b2,b3,b4,b5,b6,b7,b8,b9,zM,nE,tS,zN,zO,zP,xk,zQ,xl,xm,zR⟩⟩
theorem MInv.s7 (h:MInv s) (hg:g < s.gs.length) (st:(aa s g).status=0) (k:2≤(ag s g).kind∧(ag s g).kind≤5) (e:(aa s g).place=7):MInv (cQ s g 6 8):=by
 have hk:(aG (aa s g)).kind=(ag s g).kind:=rfl;have L:=h.loc hg;have ei:(aa s g).an=[]:=by
  by_cases w:(aa s g).an=[]
  ·exact w
  ·have:=L.w1 w;omega
 have hd:=L.hd (by omega);have go:∀ (x:Gr) (p:Int),p=6∨p=8→x.ops=(aa s g).ops→x.at_=(aa s g).at_→x.status=(aa s g).status→x.token=(aa s g).token→x.param=(aa s g).param→x.an=(aa s g).an→x.place=p→gU (aa s g) x:=by
  intro x p hp h1 h2 h3 h4 h5 h6 h7;refine ⟨h1,h2,h3,h4,h5,h6,by unfold SE;omega,st,by omega,by omega,by omega,?_,⟨by omega,by omega,by omega,by omega⟩,by omega,.inl ei⟩;unfold bF;omega
 obtain ⟨o,q,c0,c1,hh,hq,jC⟩:=h.Gi hg (.inl e);have bO:o≠g:=q.ne h (go { aa s g with place:=6 } 6 (.inl rfl) rfl rfl rfl rfl rfl rfl rfl).nq
 cases hp:(aa s o).bz with
 | true =>
  rw [MF (by rw [q.g_];exact hp)];rw [drop_eq rfl c0 c1];have G:=go { aa s g with hold:=-1,place:=6 } 6 (.inl rfl) rfl rfl rfl rfl rfl rfl rfl;refine h.xo hg G c0 c1 ⟨.inl ⟨rfl,G.hh (by rw [e];unfold hP;simp)⟩,h.gE c0 c1,⟨jA,jA⟩,.inr hh⟩ (by unfold cI;simp) (by simp)
 | false =>
  rw [MG hg q.o1 q.g_ bO hp];have G:=go { aa s g with t:=s.step,bQ:=s.step,wi:=o,place:=8 } 8 (.inr rfl) rfl rfl rfl rfl rfl rfl rfl;have zT:=(G.hh (by rw [e];unfold hP;simp) (su s (aa s g).hold).ch).2 hh;have:=h.Ce hg q (c':=cn s (su s (aa s g).hold).ch) (G.loc L (fun _=>hd)) ⟨.inl ⟨rfl,G.hh (by rw [e];unfold hP;simp)⟩,h.gE c0 c1,⟨List.Sublist.refl _,List.Sublist.refl _⟩,.inr hh⟩ (fun i=>⟨fun w=>absurd w (G.own i).2,fun w=>absurd w (G.own i).1⟩) (fun i d w=>absurd w (G.own i).2) G.nq (by unfold cI;simp) (fun q=>id) G.nw (.inl rfl) rfl c0 c1 zT hq (y:={ aa s o with bz:=true,bQ:=s.step,wi:=g,dL:=(su s (aa s g).hold).cs }) ⟨rfl,rfl,rfl,rfl,rfl,rfl,rfl,rfl,rfl,rfl,rfl⟩ rfl rfl rfl (.inr ⟨jC,hp,rfl,hh⟩) rfl;rw [MB c0 c1] at this;exact this
theorem MInv.s8 (h:MInv s) (hg:g < s.gs.length) (st:(aa s g).status=0) (k:2≤(ag s g).kind∧(ag s g).kind≤5) (e:(aa s g).place=8) {o:Nat} {c i:Int} (hi:(aa s g).hold=i) (q:Gj s g i c o) (other:∀ k:Nat,k < s.gs.length→k≠g→cX (aa s k)→(su s (aa s k).hold).g=o→False) (r:Md.ak) (d:Su)
  (hd:d.g=(su s i).g∧d.ch=(su s i).ch∧d.cs=(su s i).cs∧d.send=(su s i).send∧d.live=(su s i).live) :
  MInv (ai (aR (ai (aE s c (cu (cn s c) i)) o { aa s o with param:=i }) i d) g { aa s g with an:=(aa s g).an ++ [(o:Int)],hold:=-1,res:=r,place:=16 }):=by
 have hk:(aG (aa s g)).kind=(ag s g).kind:=rfl;have L:=h.loc hg;have ei:(aa s g).an=[]:=by
  by_cases w:(aa s g).an=[]
  ·exact w
  ·have:=L.w1 w;omega
 have G:gU (aa s g) { aa s g with hold:=-1,res:=r,place:=16 }:=by
  refine ⟨rfl,rfl,rfl,rfl,rfl,rfl,by unfold SE;omega,st,by omega,by omega,by simp,?_,?_,?_,.inl ei⟩
  ·show bF (aG (aa s g)).kind 16;rw [hk];unfold bF;omega
  ·refine ⟨?_,?_,?_,?_⟩ <;> simp
  ·simp only;omega
 have G1:=G.loc L (by simp);have lx:Loc s.au.length s.aC.length s.gs.length { aa s g with an:=(aa s g).an ++ [(o:Int)],hold:=-1,res:=r,place:=16 } :=
  G1.Gl (.inl rfl) (by rw [ei];have:=q.o1;simp;omega) (by rw [ei];simp) (by simp)
 have zU:∀ i,¬ Own { aa s g with an:=(aa s g).an ++ [(o:Int)],hold:=-1,res:=r,place:=16 } i:=by
  rintro i ⟨_,w | w⟩
  ·have:=w.2.2.1;simp at this
  ·have:=w.1;unfold SE at this;have ho:aG { aa s g with an:=(aa s g).an ++ [(o:Int)],hold:=-1,res:=r,place:=16 }=aG (aa s g):=rfl;rw [ho] at this;omega
 have nQ:∀ ch,bE { aa s g with an:=(aa s g).an ++ [(o:Int)],hold:=-1,res:=r,place:=16 } ch↔bE (aa s g) ch:=by
  intro ch;have:=G.hh (by rw [e];unfold hP;simp) ch;exact this
 refine h.Gh hg q.c0 q.c1 lx ⟨.inl ⟨rfl,nQ⟩,h.gE q.c0 q.c1,⟨jA,jA⟩,.inr q.hh⟩ (fun i=>⟨fun w=>absurd w (zU i),fun w=>absurd w (G.own i).1⟩) (fun i d w=>absurd w (zU i)) G.nq (by unfold cI;simp) (by unfold cX;simp) (fun q hq=>?_) G.nw q.sc q.so q.o1 q.ne q.wt q.pm q.own (fun w=>q.se w) ⟨oI,oI⟩ other ⟨rfl,rfl,rfl,rfl,rfl,rfl,rfl,rfl,rfl,rfl,rfl⟩ rfl rfl rfl rfl hd;rcases List.mem_append.1 hq with w | w
 ·exact .inl w
 ·exact .inr (List.mem_singleton.1 w)
end Sx
namespace Sx
variable {s t:ah} {g:Nat} {nc ns n:Int}
theorem MH {s:ah} {i:Int} {d:Su} (hi:0≤i) (dx:i < s.aC.length):su (aR s i d) i=d:=by
 rw [B7 hi dx rfl i hi,iA]
theorem VR {s:ah} {g o:Nat} {i c:Int} {d:Su} {x:Gr→Gr} {r:Md.ak} {p:Int} (hg:g < s.gs.length) (ho:o < s.gs.length) (so:d.g=o) (bO:o≠g) (i0:0≤i) (i1:i < s.aC.length) :
  ai (serve (aR (aE s c (cu (cn s c) i)) i d) g i true) g { aa (serve (aR (aE s c (cu (cn s c) i)) i d) g i true) g with res:=r,place:=p } =
  ai (aR (ai (aE s c (cu (cn s c) i)) o { aa s o with param:=i }) i { d with done:=true }) g { aa s g with an:=(aa s g).an ++ [(o:Int)],hold:=-1,res:=r,place:=p }:=by
 have s1:su (aR (aE s c (cu (cn s c) i)) i d) i=d:=MH i0 i1;have e:=zS (s:=aR (aE s c (cu (cn s c) i)) i d) (g:=g) (o:=o) (i:=i) (d:=true) hg ho (by rw [s1];exact so) bO;rw [e,s1];have g1:aa (aR (aE s c (cu (cn s c) i)) i d) g=aa s g:=rfl;have g2:aa (aR (aE s c (cu (cn s c) i)) i d) o=aa s o:=rfl;rw [g1,g2];have g3:∀ y z,aa (ai (aR (ai (aR (aE s c (cu (cn s c) i)) i d) o y) i { d with done:=true }) g z) g=z:=fun y z=>by
  rw [iQ (by show g < (ai _ _ _).gs.length;rw [iB];exact hg),if_pos rfl]
 rw [g3];unfold ai aR aE;simp only [List.set_set]
theorem MI {s:ah} {g o:Nat} {i c:Int} {r:Md.ak} {p:Int} (hg:g < s.gs.length) (ho:o < s.gs.length) (so:(su s i).g=o) (bO:o≠g) :
  ai (serve (aE s c (cu (cn s c) i)) g i true) g { aa (serve (aE s c (cu (cn s c) i)) g i true) g with res:=r,place:=p } =
  ai (aR (ai (aE s c (cu (cn s c) i)) o { aa s o with param:=i }) i { su s i with done:=true }) g { aa s g with an:=(aa s g).an ++ [(o:Int)],hold:=-1,res:=r,place:=p }:=by
 have e:=zS (s:=aE s c (cu (cn s c) i)) (g:=g) (o:=o) (i:=i) (d:=true) hg ho so bO;rw [e];have g1:aa (aE s c (cu (cn s c) i)) g=aa s g:=rfl;have g2:aa (aE s c (cu (cn s c) i)) o=aa s o:=rfl;have g4:su (aE s c (cu (cn s c) i)) i=su s i:=rfl;rw [g1,g2,g4];have g3:∀ y z,aa (ai (aR (ai (aE s c (cu (cn s c) i)) o y) i { su s i with done:=true }) g z) g=z:=fun y z=>by
  rw [iQ (by show g < (ai _ _ _).gs.length;rw [iB];exact hg),if_pos rfl]
 rw [g3];unfold ai aR aE;simp only [List.set_set]
theorem MJ {s:ah} {c c2 i:Int} {b:List Int} (c0:1≤c) (c1:c≤s.au.length) (d0:1≤c2) (d1:c2≤s.au.length) :
  aE (aE s c (cu (cn s c) i)) c2 { cn (aE s c (cu (cn s c) i)) c2 with buf:=b }=aE (aE s c2 { cn s c2 with buf:=b }) c (cu (cn (aE s c2 { cn s c2 with buf:=b }) c) i):=by
 have len:∀ (c:Int) (x:Cn),(aE s c x).au.length=s.au.length:=fun c x=>by simp [aE]
 have e1:cn (aE s c (cu (cn s c) i)) c2=up (cn s) c (cu (cn s c) i) c2:=nF c0 c1 rfl c2 d0;have e2:cn (aE s c2 { cn s c2 with buf:=b }) c=up (cn s) c2 { cn s c2 with buf:=b } c:=nF d0 d1 rfl c c0;rw [e1,e2]
 by_cases q:c2=c
 ·subst q;rw [iA,iA];unfold aE;simp only [List.set_set];rfl
 ·rw [iZ _ _ q,iZ _ _ (Ne.symm q)];unfold aE;simp only;rw [List.set_comm _ _ (by omega)]
theorem MK (l:List Int) (r v:Int):(iy l r v).1.length=l.length:=by
 unfold iy
 split
 ·rfl
 ·rename_i h;have:l.length≠0:=fun e=>h (.inr e)
  simp;omega
end Sx
end Go.Proofs.YtofnbflkhgammaaGreat
