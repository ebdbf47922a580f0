/-
  What the laws need, part A13.
  Conditions: none.
-/
import Derived.Test.YtofnbflkhgammaaGreatA12
set_option linter.unusedVariables false
set_option linter.unusedSimpArgs false
set_option linter.unnecessarySimpa false
set_option maxHeartbeats 2000000
namespace Go.Proofs.YtofnbflkhgammaaGreat
namespace Sx
variable {nc ns n:Int} {x x':Gr}
theorem gJ.loc (h:gJ x x') (L:Loc nc ns n x) (hd:x'.place=7∨x'.place=8∨x'.place=23→0≤x'.hold∧x'.hold < ns):Loc nc ns n x':=by
 obtain ⟨a1,a2,a3,a4,a5,a6,a7,a8,a9,iy,jH,lX,oP,oQ,oR,mN,p6,p7,oS,oT,ru,oU⟩:=L;have ho:=h.aD;obtain ⟨h1,h2,h3,h4,h5,h6,h7,h8,h9,jw,iY,iZ,fU,mQ,mR⟩:=h;have hk:¬ (Sx.aD x).kind=9:=h7;have hn:¬ Wt x:=by
  rintro (w | w)
  ·exact jw ⟨by have:=w.2.1;omega,by have:=w.2.2;omega⟩
  ·exact h7 w.1
 have JY:x.param=-1:=by
  by_cases e:0≤x.param
  ·exact absurd (oT e).1 hn
  ·have:=p7.1;clear a5 a7 a8 a9 iy jH lX mN oS iZ fU mQ mR;omega
 have sS:x.token=false:=by
  cases e:x.token
  ·rfl
  ·exact absurd (jH e).1 hn
 have SY:x'.place≠26:=by
  intro e;clear a7 a8 a9 iy lX mN oS mR mQ;unfold aZ at iZ;rw [e] at iZ;omega
 have ja:=(a5.resolve_left h9).1
 constructor <;> (try simp only [h1,h2,h3,h4,h5,h6,ho]) <;> try assumption
 ·exact .inr ⟨ja,iZ⟩
 ·intro _ e1 e2 e3 e4;rcases mQ with mQ | mQ
  ·exact absurd mQ e1
  ·exact a6 h9 mQ.1 mQ.2 e3 e4
 ·rw [h8];simp
 ·intro e;exact absurd e fU.2.2.2
 ·rw [h8];simp
 ·rw [sS];simp
 ·intro e;rcases mR with mR | mR | mR | mR | mR
  ·exact absurd mR e
  ·exact .inl mR
  ·exact .inr (.inl mR)
  ·exact .inr (.inr (.inl mR))
  ·exact .inr (.inr (.inr (.inl mR)))
 ·exact fU.2.2.1
 ·intro e;rcases e with e | e | e | e | e
  ·exact hd (.inl e)
  ·exact hd (.inr (.inl e))
  ·exact hd (.inr (.inr e))
  ·exact absurd e SY
  ·exact absurd e fU.2.1
 ·intro _ e1 e2;exact absurd ⟨e1,e2⟩ iY
 ·intro e;exact absurd ⟨by rw [e];decide,by rw [e];decide⟩ iY
 ·intro e;rw [JY] at e;exact absurd e (by decide)
 ·intro e;rw [JY] at e;exact absurd e (by decide)
 ·intro e;unfold SE at e;rw [ho] at e;exact absurd e hk
theorem gJ.own (h:gJ x x') (i:Int):¬ Own x i∧¬ Own x' i:=by
 have ho:=h.aD;have hk:¬ (Sx.aD x).kind=9:=h.ns
 constructor
 ·rintro ⟨_,w | w⟩
  ·exact h.o1 ⟨w.2.1,w.2.2.1⟩
  ·exact h.ns w.1
 ·rintro ⟨_,w | w⟩
  ·exact h.o2 ⟨w.2.1,w.2.2.1⟩
  ·have:=w.1;unfold SE at this;rw [ho] at this;exact hk this
theorem gJ.nq (h:gJ x x') (i j:Int):¬ dP x i j:=by
 rintro (w | w)
 ·exact h.o1 (by omega)
 ·exact h.ns w.1
theorem gJ.nw (h:gJ x x'):¬ Wt x:=by
 rintro (w | w)
 ·exact h.o1 (by omega)
 ·exact h.ns w.1
theorem gJ.fZ (h:gJ x x') (e:x'.place≠8):¬ cO x':=by
 rintro (w | w)
 ·exact e w
 ·exact h.q1.2.1 w
theorem gJ.hh (h:gJ x x') (e:hP x.place↔hP x'.place) (ch:Int):aY x' ch↔aY x ch:=by
 have ho:=h.aD;have hk:¬ (Sx.aD x).kind=9:=h.ns;unfold aY SE;rw [ho];unfold hP at e
 constructor
 ·rintro (w | w)
  ·exact .inl ⟨w.1,w.2.1,w.2.2.1,e.2 w.2.2.2⟩
  ·exact absurd w.1 hk
 ·rintro (w | w)
  ·exact .inl ⟨w.1,w.2.1,w.2.2.1,e.1 w.2.2.2⟩
  ·exact absurd w.1 hk
theorem gJ.sf (h:gJ x x') (L:Loc nc ns n x) (hd:x'.place=7∨x'.place=8∨x'.place=23→0≤x'.hold∧x'.hold < ns) (e:hP x.place↔hP x'.place) (n8:x'.place≠8):Sf nc ns n x x':=by
 refine ⟨h.loc L hd,h.hh e,fun i=>⟨fun w=>absurd w (h.own i).2,fun w=>absurd w (h.own i).1⟩,fun i d w=>absurd w (h.own i).2,fun i j w=>absurd w (h.nq i j),h.fZ n8,fun q=>by rw [h.ah];exact id,fun w=>absurd w.1 h.nw,fun w=>absurd w.1 h.nw⟩
end Sx
namespace Sx
variable {s:St} {g:Nat}
theorem MInv.loc (h:MInv s) (hg:g < s.gs.length):Loc s.an.length s.aB.length s.gs.length (gr s g):=by
 have:=Inv.loc h.v (g:Int) (by omega) (by omega);rw [fj] at this;exact this
theorem MInv.JZ (h:MInv s) (hg:g < s.gs.length) {x:Gr} (f:gJ (gr s g) x) (e:hP (gr s g).place↔hP x.place) (nw:¬ cu x) (n8:x.place≠8):MInv (aa s g x) :=
 h.self hg (f.sf (h.loc hg) (fun q=>absurd (show cu x by unfold cu;omega) nw) e n8) f.at_ (fun w=>absurd w nw)
theorem A0 (s:St) (c:Int) (c':Cn) (h:Nat):gr (av s c c') h=gr s h:=rfl
theorem SZ (s:St) (c:Int) (c':Su) (h:Nat):gr (aF s c c') h=gr s h:=rfl
theorem Rest.trans {s t u:St} (a:Rest s t) (b:Rest t u):Rest s u:=by
 refine ⟨b.gl.trans a.gl,b.cl.trans a.cl,b.sl.trans a.sl,b.sN.trans a.sN,b.cN.trans a.cN,b.ca.trans a.ca,b.md.trans a.md,b.fr.trans a.fr,b.dw.trans a.dw,b.dn.trans a.dn,b.AZ.trans a.AZ,fun g hg=>?_⟩;rw [b.at_ g (by rw [a.gl];exact hg),a.at_ g hg]
theorem Rest.av (s:St) (c:Int) (c':Cn):Rest s (av s c c'):=⟨rfl,by simp [Sx.av],rfl,rfl,rfl,rfl,rfl,rfl,rfl,rfl,rfl,fun _ _=>rfl⟩
theorem MInv.chan (h:MInv s) (hg:g < s.gs.length) {x:Gr} {c:Int} {c':Cn} (c0:1≤c) (c1:c≤s.an.length) (lx:Loc s.an.length s.aB.length s.gs.length x) (hc:ju s.gs.length (cn s) g (gr s g) x c c') (ow:∀ i,Own x i↔Own (gr s g) i) (mt:∀ i d,Own x i→Match (gr s g) i d→Match x i d)
  (qx:∀ i j,dP (gr s g) i j→(∀ ch:Int,1≤ch→ch≤s.an.length→i∈(up (cn s) c c' ch).recv∨i∈(up (cn s) c c' ch).send→dP x i j)) (nw:¬ cu x)
  (fZ:¬ cO x) (wx:∀ q∈x.ah,q∈(gr s g).ah) (wg:kM (gr s g)→kM x) (cg:lW (gr s g)→lW x∧(SR x→SR (gr s g))) (ha:x.at_=(gr s g).at_):MInv (aa (av s c c') g x):=by
 have r:Rest s (Sx.aa (Sx.av s c c') g x):=(Rest.av s c c').trans (Rest.aa _ hg ha);have e:=fj s g;refine h.rest r (V.of r (Inv.chan h.v (g:=g) (x:=x) (c:=c) (c':=c') (by omega) (by omega) lx ?_ ?_ ?_ ?_ nw fZ ?_ ?_ ?_) (fun k k0=>rz hg rfl k k0) (fun ch q=>mP c0 c1 rfl ch q) (fun _ _=>rfl))
 all_goals rw [e]
 ·exact hc
 ·exact ow
 ·exact mt
 ·exact qx
 ·exact wx
 ·exact wg
 ·exact cg
theorem MInv.vJ (h:MInv s) (hg:g < s.gs.length) {x:Gr} (f:gJ (gr s g) x) {c:Int} {c':Cn} (c0:1≤c) (c1:c≤s.an.length) (hc:ju s.gs.length (cn s) g (gr s g) x c c') (nw:¬ cu x) (n8:x.place≠8):MInv (aa (av s c c') g x):=by
 refine h.chan hg c0 c1 (f.loc (h.loc hg) (fun q=>absurd (show cu x by unfold cu;omega) nw)) hc (fun i=>⟨fun w=>absurd w (f.own i).2,fun w=>absurd w (f.own i).1⟩) (fun i d w=>absurd w (f.own i).2) (fun i j w=>absurd w (f.nq i j)) nw (f.fZ n8) (fun q=>by rw [f.ah];exact id) (fun w=>absurd w.1 f.nw) (fun w=>absurd w.1 f.nw) f.at_
theorem MInv.qd (h:MInv s) (hg:g < s.gs.length) (e:(gr s g).place≠0∧(gr s g).place≠18∧(gr s g).place≠19) (k:2≤(op s g).kind∧(op s g).kind≤6):1≤(op s g).ch∧(op s g).ch≤s.an.length:=(h.loc hg).AT e.1 e.2.1 e.2.2 k.1 k.2
theorem MInv.gK (h:MInv s) {c:Int} (c0:1≤c) (c1:c≤s.an.length):0≤(cn s c).cap∧(cn s c).cap≤4∧((cn s c).buf.length:Int)≤(cn s c).cap:=Inv.cap h.v c c0 c1
theorem oV {c:Int}:Sx.made s c=true↔1≤c∧c≤s.an.length:=by unfold Sx.made;simp
theorem MInv.s4 (h:MInv s) (hg:g < s.gs.length) (st:(gr s g).status=0) (k:2≤(op s g).kind∧(op s g).kind≤6) (e:(gr s g).place=4) (p:Int) (hp:(op s g).kind=6∧p=21∨(op s g).kind≠6∧p=5) (hl:(cn s (op s g).ch).lock=-1):MInv (aE (av s (op s g).ch { cn s (op s g).ch with lock:=g }) g p):=by
 obtain ⟨c0,c1⟩:=h.qd hg (by omega) k;have hk:(aD (gr s g)).kind=(op s g).kind:=rfl;have L:=h.loc hg;refine h.vJ hg (x:={ gr s g with place:=p }) ⟨rfl,rfl,rfl,rfl,rfl,rfl,?_,st,?_,?_,?_,?_,?_,?_,?_⟩ c0 c1 ⟨.inr (.inl ⟨hl,rfl,fun ch=>?_⟩),h.gK c0 c1,⟨List.Sublist.refl _,List.Sublist.refl _⟩,.inl ⟨rfl,rfl⟩⟩ ?_ ?_
 ·unfold SE;omega
 ·omega
 ·omega
 ·simp only;omega
 ·unfold aZ;simp only;omega
 ·refine ⟨?_,?_,?_,?_⟩ <;> simp only <;> omega
 ·simp only;omega
 ·by_cases w:(gr s g).ah=[]
  ·exact .inl w
  ·have:=L.w1 w;omega
 ·have ho:aD { gr s g with place:=p }=aD (gr s g):=rfl;unfold aY SE;rw [ho,hk];simp only [e]
  constructor
  ·rintro (w | w)
   ·exact .inr w.2.2.1
   ·omega
  ·rintro (w | w)
   ·omega
   ·exact .inl ⟨k.1,k.2,w,by omega⟩
 ·unfold cu;simp only;omega
 ·simp only;omega
end Sx
namespace Sx
variable {s:St} {g:Nat} {nc ns n:Int}
theorem S0 {x y:Gr} (L:Loc nc ns n x) (k:SR x) (e:x.place=12) (st:x.status=0) (hy:y={ x with place:=13 }):Loc nc ns n y:=by
 have ho:aD y=aD x:=by subst hy;rfl
 have h1:y.ops=x.ops∧y.at_=x.at_∧y.place=13∧y.status=x.status∧y.token=x.token∧y.param=x.param∧y.aK=x.aK∧y.ah=x.ah∧y.ak=x.ak:=by subst hy;simp
 clear hy;obtain ⟨a1,a2,a3,a4,a5,a6,a7,a8,a9,iy,jH,lX,oP,oQ,oR,mN,p6,p7,oS,oT,ru,oU⟩:=L
 constructor <;> simp only [Wt,SR,SE,e,st,Own,aZ,dG,ho,h1] at * <;> grind
theorem Own.sr {x y:Gr} {i:Int} (k:SR x) (ho:aD y=aD x) (hm:y.aK=x.aK) (p:11≤y.place∧y.place≤15) (h:Own x i):Own y i:=by
 rcases h with ⟨h0,h | h⟩
 ·exact ⟨h0,.inl ⟨by unfold SR;rw [ho];exact k,p.1,p.2,hm.trans h.2.2.2⟩⟩
 ·exact absurd h.1 k.ne
theorem Own.Ba {x y:Gr} {i:Int} (k:SR x) (ho:aD y=aD x) (hm:y.aK=x.aK) (p:11≤y.place∧y.place≤15) (q:11≤x.place∧x.place≤15):Own y i↔Own x i :=
 ⟨Own.sr (by unfold SR;rw [ho];exact k) ho.symm hm.symm q,Own.sr k ho hm p⟩
theorem MInv.S3 (h:MInv s) (hg:g < s.gs.length) (st:(gr s g).status=0) (e:(gr s g).place=12) (k:2≤(op s g).kind∧(op s g).kind≤6):MInv (aE (free s (op s g).ch) g 13):=by
 have L:=h.loc hg;have ks:SR (gr s g):=by
  have:=(L.pl.resolve_left (by omega)).2;have hk:(aD (gr s g)).kind=(op s g).kind:=rfl;unfold aZ at this;unfold SR;rw [e] at this;omega
 obtain ⟨c0,c1⟩:=h.qd hg (by omega) k;have ho:aD { gr s g with place:=13 }=aD (gr s g):=rfl;have hk:(aD (gr s g)).kind=(op s g).kind:=rfl;have hh:aY (gr s g) (op s g).ch:=.inl ⟨k.1,k.2,rfl,by omega⟩;have jb:=ks.ne;have pl:({ gr s g with place:=13 }:Gr).place=13:=rfl;refine h.chan hg c0 c1 (x:={ gr s g with place:=13 }) (S0 L ks e st rfl) ⟨.inr (.inr ⟨hh,rfl,fun ch=>?_⟩),h.gK c0 c1,⟨List.Sublist.refl _,List.Sublist.refl _⟩,.inl ⟨rfl,rfl⟩⟩ ?_ ?_ ?_ ?_ ?_ (fun q=>id) ?_ ?_ rfl
 ·unfold aY;have n1:¬ SE { gr s g with place:=13 }:=jb;simp only [ho,e,jb,n1,false_and,or_false]
  constructor
  ·intro w;omega
  ·intro w;exact absurd w.1.2.2.1 w.2
 ·intro i;exact Own.Ba ks rfl rfl (by rw [pl];decide) (by rw [e];decide)
 ·intro i d _ m;rcases m with m | m
  ·exact .inl m
  ·exact absurd m.1 jb
 ·intro i j q _ _ _ _;rcases q with q | q
  ·exact .inl ⟨q.1,by rw [pl];decide,by rw [pl];decide,q.2.2.2⟩
  ·exact absurd q.1 jb
 ·unfold cu;simp
 ·unfold cO;simp
 ·rintro ⟨w1,w2,w3,w4⟩
  exact ⟨.inl ⟨ks,by rw [pl];decide,by rw [pl];decide⟩,w2,w3,by simp⟩
 ·rintro ⟨w1,w2,w3⟩
  exact ⟨⟨.inl ⟨ks,by rw [pl];decide,by rw [pl];decide⟩,w2,fun h=>absurd h jb⟩,fun _=>ks⟩
theorem fY.vK {x:Gr} (e:x.place=13) (b:fY nc ns x) {y:Gr} (h1:aD y=aD x) (h2:y.order=x.order) (h3:y.aC=x.aC) (h4:y.k=x.k) (h5:y.ak=x.ak) (h6:y.res.code=x.res.code) (h7:y.place=14):fY nc ns y:=by
 have hc:∀ j,bP y j=bP x j:=fun j=>by unfold bP;rw [h1]
 obtain ⟨b1,b2,b3,b4,b5,b6,b7,b8,b9,yq,mO,sL,sM,p9,qc,vF,yt,vH,vI,yu⟩:=b
 constructor <;> (try simp only [h1,h2,h3,h4,h5,h6,h7,hc]) <;> (try assumption) <;> (try simp)
 ·exact sL (by omega)
 ·exact vF (by omega)
 ·exact vH (by omega)
theorem Sf.vK {x y:Gr} (L:Loc nc ns n x) (e:x.place=13) (st:x.status=0) (h1:y.ops=x.ops) (h2:y.at_=x.at_) (h3:y.aK=x.aK) (h4:y.hold=x.hold) (h5:y.res.code=x.res.code) (h6:y.order=x.order) (h7:y.aC=x.aC) (h8:y.ak=x.ak) (h9:y.ah=x.ah) (jw:y.k=x.k) (iY:y.param=x.param) (iZ:y.aX=x.aX) (fU:y.place=14)
  (hs:x.token=true∧y.token=false∧y.status=0∨x.token=false∧y.token=false∧y.status=1):Sf nc ns n x y:=by
 have ho:aD y=aD x:=by unfold aD;rw [h1,h2]
 have w0:Wt x:=by
  have:=(L.pl.resolve_left (by omega)).2;unfold aZ at this;unfold Wt SR SE;rw [e] at this ⊢;omega
 have sP:SR y↔SR x:=by unfold SR;rw [ho]
 have jv:SE y↔SE x:=by unfold SE;rw [ho]
 have w1:Wt y:=by
  rcases w0 with w | w
  ·exact .inl ⟨sP.2 w.1,by rw [fU];decide,by rw [fU];decide⟩
  ·exact .inr ⟨jv.2 w.1,.inr (.inl fU)⟩
 have ow:∀ i,Own y i↔Own x i:=by
  intro i;unfold Own;rw [sP,jv,fU,e,h3,h8];simp
 refine ⟨?_,?_,ow,?_,?_,?_,fun q=>by rw [h9];exact id,?_,?_⟩
 ·obtain ⟨a1,a2,a3,a4,a5,a6,a7,a8,a9,iy,jH,lX,oP,oQ,oR,mN,p6,p7,oS,oT,ru,oU⟩:=L
  constructor <;> (try simp only [h1,h2,h3,h4,h9,iY,iZ,ho,sP,jv]) <;> (try assumption)
  ·rw [fU];rw [e] at a5;refine .inr ⟨(a5.resolve_left (by decide)).1,?_⟩;have:=(a5.resolve_left (by decide)).2;unfold aZ at this ⊢;omega
  ·intro _ _ _;exact a6 (by omega) (by omega) (by omega)
  ·omega
  ·intro _;exact .inl fU
  ·rw [fU];intro h;exact absurd h (by decide)
  ·intro h;omega
  ·intro h;rcases hs with hs | hs <;> (rw [hs.2.1] at h;cases h)
  ·intro h;have:=lX h;omega
  ·rw [fU];intro h;exact absurd h (by decide)
  ·intro h;omega
  ·intro h1 h2 h3;exact p6 h1 (by omega) (by omega)
  ·intro _ h;rcases hs with hs | hs
   ·exact (jH hs.1).2.1
   ·omega
  ·intro h;exact ⟨w1,(ow _).2 (oT h).2⟩
  ·intro h1 _;exact (oU h1 (by unfold dG;omega)).vK e ho h6 h7 jw h8 h5 fU
 ·intro ch;unfold aY;rw [jv,fU,e,ho,h7,jw];simp
 ·intro i d _ m;unfold Match at m ⊢;have hc:∀ j,bP y j=bP x j:=fun j=>by unfold bP;rw [ho]
  rw [sP,jv,ho,h8,h6,hc];exact m
 ·intro i j q;unfold dP at q ⊢;rw [sP,jv,fU,h3,iY,h8,h6,jw,h5];rcases q with q | q
  ·exact .inl ⟨q.1,by decide,by decide,q.2.2.2⟩
  ·exact .inr ⟨q.1,q.2.1,q.2.2.1,q.2.2.2.1,.inr (.inr (.inl rfl))⟩
 ·unfold cO;rw [fU];decide
 ·rintro ⟨v1,v2,v3,v4⟩
  refine ⟨w1,by rw [iY];exact v2,?_,?_⟩
  ·rcases hs with hs | hs <;> exact hs.2.1
  ·intro _;rcases hs with hs | hs
   ·rw [hs.1] at v3;cases v3
   ·omega
 ·rintro ⟨v1,v2,v3⟩
  exact ⟨⟨w1,by rw [iY];exact v2,fun h=>by rw [iZ];exact v3 (jv.1 h)⟩,sP.1⟩
theorem MInv.vK (h:MInv s) (hg:g < s.gs.length) (st:(gr s g).status=0) (e:(gr s g).place=13):MInv (fh (aE s g 14) g):=by
 have L:=h.loc hg;have hs:fh (aE s g 14) g=aa s g (if (gr s g).token=true then { gr s g with place:=14,token:=false } else { gr s g with place:=14,status:=1 }):=by
  unfold fh aE;simp only [iK s g g _ hg,if_true,st,true_and];unfold aa;simp only [List.set_set]
 rw [hs]
 cases ht:(gr s g).token
 ·rw [if_neg (by simp)];exact h.self hg (Sf.vK L e st rfl rfl rfl rfl rfl rfl rfl rfl rfl rfl rfl rfl rfl (.inr ⟨ht,ht,rfl⟩)) rfl (fun w=>by unfold cu at w;simp at w)
 ·rw [if_pos rfl];exact h.self hg (Sf.vK L e st rfl rfl rfl rfl rfl rfl rfl rfl rfl rfl rfl rfl rfl (.inl ⟨ht,rfl,st⟩)) rfl (fun w=>by unfold cu at w;simp at w)
end Sx
namespace Sx
variable {s:St} {g:Nat} {nc ns n:Int}
theorem S4 {C:List (List Int)} {M:List Int} {f:Nat} {H:List Bool} {x:Int}:x∈M ++ C.flatten↔1≤Po.dN ⟨C,M,f,H⟩ x:=by
 unfold Po.dN;simp only;rw [List.mem_append,← List.count_pos_iff (a:=x) (l:=M),← List.count_pos_iff (a:=x) (l:=C.flatten)];omega
theorem mU {s:St} {H:List Bool} {f:Nat} (hf:s.fresh=f) {x:Int}:gw s x=true↔0≤x∧x < s.fresh∧Po.dN ⟨s.cache,s.middle,f,H⟩ x=0:=by
 unfold gw tU;simp only [Bool.and_eq_true,decide_eq_true_eq,Bool.not_eq_true',List.contains_eq_mem,decide_eq_false_iff_not];rw [S4 (f:=f) (H:=H)];omega
theorem J0 (h:MInv s) (hg:g < s.gs.length):s.cache[g]?=some (s.cache.getD g []):=by
 have:g < s.cache.length:=by rw [h.ca];exact hg
 rw [List.getD_eq_getElem?_getD,List.getElem?_eq_getElem this];rfl
structure J3 (s t:St) (g:Nat) (i:Int):Prop where
 i0:0≤i
 i1:i < s.aB.length
 nl:gw s i=false
 live:∀ j,gw t j=true↔gw s j=true∨j=i
 gs:t.gs=s.gs
 an:t.an=s.an
 aB:t.aB=s.aB
 sN:t.dB=s.dB
 cN:t.bN=s.bN
 cL:t.cL=s.cL
 drawn:t.drawn=s.drawn
 done:t.done=s.done
 step:t.step=s.step
 cl:t.cache.length=s.cache.length
 f0:0≤t.fresh
 po:∃ H,Po.Inv t.dB.toNat t.bN.toNat ⟨t.cache,t.middle,t.fresh.toNat,H⟩
theorem Bb (h:MInv s) (hg:g < s.gs.length) (ok:(bu s g).2.2=true):J3 s (bu s g).1 g (bu s g).2.1:=by
 obtain ⟨H,I⟩:=h.po;have hf:s.fresh=(s.fresh.toNat:Int):=by have:=h.f0;omega
 have hsn:=h.sn;have hc:=J0 h hg;have m1:=I.m1;unfold bu at ok ⊢
 split at ok
 ·rename_i e
  split at ok
  ·rename_i e2;rw [if_pos e,if_pos e2];have e0:=Po.HY m1 e;have nc:Po.dN ⟨s.cache,s.middle,s.fresh.toNat,H⟩ s.fresh=0:=by
    by_cases q:1≤Po.dN ⟨s.cache,s.middle,s.fresh.toNat,H⟩ s.fresh
    ·have:=(I.bound _ q).2;simp only at this;omega
    ·omega
   refine ⟨h.f0,by simp only;omega,?_,?_,rfl,rfl,rfl,rfl,rfl,rfl,rfl,rfl,rfl,rfl,by simp only;have:=h.f0;omega,?_⟩
   ·cases q:gw s s.fresh
    ·rfl
    ·have:=(mU (H:=H) hf).1 q;omega
   ·intro j;rw [mU (H:=H) hf,mU (s:={ s with fresh:=s.fresh + 1 }) (H:=H) (f:=s.fresh.toNat + 1) (by simp only;omega)];simp only;have e3:Po.dN ⟨s.cache,s.middle,s.fresh.toNat + 1,H⟩ j=Po.dN ⟨s.cache,s.middle,s.fresh.toNat,H⟩ j:=rfl;rw [e3]
    constructor
    ·intro w
     by_cases q:j=s.fresh
     ·exact .inr q
     ·exact .inl ⟨w.1,by omega,w.2.2⟩
    ·rintro (w | w)
     ·exact ⟨w.1,by omega,w.2.2⟩
     ·subst w;exact ⟨h.f0,by omega,nc⟩
   ·refine ⟨H,?_⟩;simp only;have:(s.fresh + 1).toNat=s.fresh.toNat + 1:=by have:=h.f0;omega
    rw [this];exact I.fresh (by simp only;omega)
  ·cases ok
 ·rename_i e;rw [if_neg e];obtain ⟨b0,b1⟩:0≤(Po.own s.bN.toNat (s.cache.getD g []) s.middle).getLastD 0∧Po.dN ⟨s.cache,s.middle,s.fresh.toNat,H⟩ ((Po.own s.bN.toNat (s.cache.getD g []) s.middle).getLastD 0)=1:=by
   have oW:=Po.DA (size:=0) (s:=⟨s.cache,s.middle,s.fresh.toNat,H⟩) (most:=s.bN.toNat) hc e ((Po.own s.bN.toNat (s.cache.getD g []) s.middle).getLastD 0);have hi:Po.ind ((Po.own s.bN.toNat (s.cache.getD g []) s.middle).getLastD 0) ((Po.own s.bN.toNat (s.cache.getD g []) s.middle).getLastD 0)=1:=by simp [Po.ind]
   simp only at oW;rw [hi] at oW;have h1:1≤Po.dN ⟨s.cache,s.middle,s.fresh.toNat,H⟩ ((Po.own s.bN.toNat (s.cache.getD g []) s.middle).getLastD 0):=by omega
   exact ⟨(I.bound _ h1).1,by have:=I.one ((Po.own s.bN.toNat (s.cache.getD g []) s.middle).getLastD 0);omega⟩
  have oW:=fun a=>Po.DA (size:=0) (s:=⟨s.cache,s.middle,s.fresh.toNat,H⟩) (most:=s.bN.toNat) hc e a
  have Be:=I.vi hc e;have kf:=(I.bound _ (Nat.le_of_eq b1.symm)).2;simp only at oW kf Be;unfold Po.vi at oW Be;simp only at oW Be;generalize (Po.own s.bN.toNat (s.cache.getD g []) s.middle).getLastD 0=i at *;generalize Po.own s.bN.toNat (s.cache.getD g []) s.middle=ow at *;refine ⟨b0,?_,?_,?_,rfl,rfl,rfl,rfl,rfl,rfl,rfl,rfl,rfl,by simp,h.f0,?_⟩
  ·have:=I.fl;simp only at this kf ⊢;omega
  ·cases q:gw s i
   ·rfl
   ·have:=((mU (H:=H) hf).1 q).2.2;omega
  ·intro j;have hj:=oW j;rw [mU (H:=H) hf,mU (s:={ s with cache:=s.cache.set g ow.dropLast,middle:=Po.aW s.bN.toNat (s.cache.getD g []) s.middle }) (H:=H.set i.toNat false) (f:=s.fresh.toNat) hf];simp only;unfold Po.ind at hj
   by_cases q:i=j
   ·rw [if_pos q] at hj;subst q
    constructor
    ·intro _;exact .inr rfl
    ·intro _;exact ⟨b0,by omega,by omega⟩
   ·rw [if_neg q] at hj
    constructor
    ·intro w;exact .inl ⟨w.1,w.2.1,by omega⟩
    ·rintro (w | w)
     ·exact ⟨w.1,w.2.1,by omega⟩
     ·exact absurd w.symm q
  ·exact ⟨_,Be⟩
structure S5 (s t:St) (g:Nat) (i:Int):Prop where
 live:∀ j,gw t j=true↔gw s j=true∧j≠i
 gs:t.gs=s.gs
 an:t.an=s.an
 aB:t.aB=s.aB
 sN:t.dB=s.dB
 cN:t.bN=s.bN
 cL:t.cL=s.cL
 drawn:t.drawn=s.drawn
 done:t.done=s.done
 step:t.step=s.step
 cl:t.cache.length=s.cache.length
 f0:0≤t.fresh
 po:∃ H,Po.Inv t.dB.toNat t.bN.toNat ⟨t.cache,t.middle,t.fresh.toNat,H⟩
theorem S8 (h:MInv s) (hg:g < s.gs.length) {i:Int} (hl:gw s i=true):S5 s (dU s g i) g i:=by
 obtain ⟨H,I⟩:=h.po;have hf:s.fresh=(s.fresh.toNat:Int):=by have:=h.f0;omega
 have hc:=J0 h hg;have uc:=(mU (H:=H) hf).1 hl;have hL:Po.live s.fresh.toNat H i=true:=by
  have:=I.live i;simp only at this;rw [this];simp;omega
 have EM:=I.pM hc hL;have oW:=fun a=>Po.H6 (most:=s.bN.toNat) (s:=⟨s.cache,s.middle,s.fresh.toNat,H⟩) hc i a
 unfold dU;rw [if_pos hl];unfold Po.pM at EM oW;simp only at EM oW;refine ⟨?_,rfl,rfl,rfl,rfl,rfl,rfl,rfl,rfl,rfl,by simp,h.f0,_,EM⟩;intro j;have hj:=oW j;rw [mU (H:=H) hf,mU (s:={ s with cache:=s.cache.set g ((s.cache.getD g []).take ((s.cache.getD g []).length - Po.dS s.bN.toNat (s.cache.getD g [])) ++ [i]),middle:=s.middle ++ (s.cache.getD g []).reverse.take (Po.dS s.bN.toNat (s.cache.getD g [])) }) (H:=H.set i.toNat true) (f:=s.fresh.toNat) hf];simp only;unfold Po.ind at hj
 by_cases q:i=j
 ·rw [if_pos q] at hj
  constructor
  ·intro w;omega
  ·intro w;exact absurd q.symm w.2
 ·rw [if_neg q] at hj
  constructor
  ·intro w;exact ⟨⟨w.1,w.2.1,by omega⟩,fun e=>q e.symm⟩
  ·intro w;exact ⟨w.1.1,w.1.2.1,by omega⟩
end Sx
namespace Sx
variable {s t:St} {g:Nat} {nc ns n:Int}
theorem at_sum {s t:St} {g:Nat} {x:Gr} (hg:g < s.gs.length) (e:t.gs=s.gs.set g x) (ha:x.at_=(gr s g).at_):nW t=nW s:=by
 refine JX (by rw [e,List.length_set]) fun h _=>?_
 rw [EK s s.gs rfl g h x hg t e]
 split
 ·rename_i c;subst c;exact ha
 ·rfl
theorem J4 {s t:St} (e:t.an=s.an) (c:Int):cn t c=cn s c:=by unfold cn;rw [e]
theorem MInv.take (h:MInv s) (hg:g < s.gs.length) {i:Int} (T:J3 s t g i) {x:Gr} {d:Su} (lx:Loc s.an.length s.aB.length s.gs.length x) (hh:∀ ch,aY x ch↔aY (gr s g) ch)
  (ow:∀ j,Own x j↔Own (gr s g) j∨j=i) (mt:∀ j,Own (gr s g) j→Match x j (su s j)) (md:Match x i d) (dg:d.g=g) (nq:∀ j k,¬ dP (gr s g) j k) (nw:¬ cu x) (fZ:¬ cO x) (wk:x.ah=(gr s g).ah) (wt:¬ Wt (gr s g)) (ha:x.at_=(gr s g).at_) :
  MInv (aa (aF t i d) g x):=by
 have e:=fj s g;have kO:(aa (aF t i d) g x).gs=s.gs.set g x:=by simp only [aa,aF];rw [T.gs]
 have oX:(aa (aF t i d) g x).aB=s.aB.set i.toNat d:=by simp only [aa,aF];rw [T.aB]
 have uw:(aa (aF t i d) g x).an=s.an:=T.an;have hv:=Inv.take h.v (g:=g) (i:=i) (x:=x) (d:=d) (by omega) (by omega) T.i0 T.i1 (by simp [T.nl]) lx (by rw [e];exact hh) (by rw [e];exact ow) (by rw [e];exact mt) md dg (by rw [e];exact nq) nw fZ (by rw [e];exact wk) (by rw [e];exact wt);obtain ⟨H,hH⟩:=T.po;refine ⟨?_,?_,?_,?_,?_,?_,?_,?_,?_,T.f0,⟨H,hH⟩,?_,?_,?_,?_,?_⟩
 ·unfold V;rw [kO,oX,uw,List.length_set,List.length_set];refine hv.sK (fun k k0 _=>rz hg kO k k0) (fun ch _ _=>J4 uw ch) (fun j j0 _=>AY T.i0 T.i1 oX j j0) (fun j _ _=>?_);exact T.live j
 ·rw [kO,List.length_set];exact h.n1
 ·rw [kO,List.length_set];exact h.n8
 ·rw [uw];exact h.c8
 ·rw [oX,List.length_set];exact h.sn.trans T.sN.symm
 ·rw [oX,List.length_set];exact h.iJ
 ·show 1≤t.bN;rw [T.cN];exact h.c1
 ·show t.bN≤16;rw [T.cN];exact h.sQ
 ·rw [kO,List.length_set];exact T.cl.trans h.ca
 ·show 0≤t.drawn;rw [T.drawn];exact h.rA
 ·show t.drawn≤t.cL.length;rw [T.drawn,T.cL];exact h.sR
 ·show ∀ x∈t.cL,_;rw [T.cL];exact h.du
 ·show t.cL.length≤1000;rw [T.cL];exact h.d5
 ·rw [at_sum hg kO ha];show (t.done.length:Int)=_;rw [T.done];exact h.dn
theorem MInv.J5 (h:MInv s) (hg:g < s.gs.length) {i:Int} (hi:Own (gr s g) i) {x:Gr} (lx:Loc s.an.length s.aB.length s.gs.length x) (hh:∀ ch,aY x ch↔aY (gr s g) ch)
  (ow:∀ j,Own x j↔Own (gr s g) j∧j≠i) (mt:∀ j d,Own x j→Match (gr s g) j d→Match x j d) (nq:∀ j k,¬ dP (gr s g) j k) (nw:¬ cu x) (fZ:¬ cO x) (wk:x.ah=(gr s g).ah) (wt:¬ Wt (gr s g)) (ha:x.at_=(gr s g).at_) :
  MInv (aa (bR s g i) g x):=by
 have e:=fj s g;have ux:=Inv.own h.v (g:Int) (by omega) (by omega) i (by rw [e];exact hi);have T:=S8 h hg ux.2.2.2;have i0:=hi.1;have i1:=ux.1;unfold bR;generalize dU s g i=t at *;have kO:(aa (aF t i eI) g x).gs=s.gs.set g x:=by simp only [aa,aF];rw [T.gs]
 have oX:(aa (aF t i eI) g x).aB=s.aB.set i.toNat eI:=by simp only [aa,aF];rw [T.aB]
 have uw:(aa (aF t i eI) g x).an=s.an:=T.an;have hv:=Inv.bR h.v (g:=g) (i:=i) (x:=x) (by omega) (by omega) (by rw [e];exact hi) lx (by rw [e];exact hh) (by rw [e];exact ow) (fun j hj=>mt j _ hj (by
  have:=(Inv.own h.v (g:Int) (by omega) (by omega) j (by rw [e];exact ((ow j).1 hj).1)).2.1;rw [e] at this;exact this)) (by rw [e];exact nq) nw fZ (by rw [e];exact wk) (by rw [e];exact wt)
 obtain ⟨H,hH⟩:=T.po;refine ⟨?_,?_,?_,?_,?_,?_,?_,?_,?_,T.f0,⟨H,hH⟩,?_,?_,?_,?_,?_⟩
 ·unfold V;rw [kO,oX,uw,List.length_set,List.length_set];refine hv.sK (fun k k0 _=>rz hg kO k k0) (fun ch _ _=>J4 uw ch) (fun j j0 _=>AY i0 i1 oX j j0) (fun j _ _=>?_);exact T.live j
 ·rw [kO,List.length_set];exact h.n1
 ·rw [kO,List.length_set];exact h.n8
 ·rw [uw];exact h.c8
 ·rw [oX,List.length_set];exact h.sn.trans T.sN.symm
 ·rw [oX,List.length_set];exact h.iJ
 ·show 1≤t.bN;rw [T.cN];exact h.c1
 ·show t.bN≤16;rw [T.cN];exact h.sQ
 ·rw [kO,List.length_set];exact T.cl.trans h.ca
 ·show 0≤t.drawn;rw [T.drawn];exact h.rA
 ·show t.drawn≤t.cL.length;rw [T.drawn,T.cL];exact h.sR
 ·show ∀ x∈t.cL,_;rw [T.cL];exact h.du
 ·show t.cL.length≤1000;rw [T.cL];exact h.d5
 ·rw [at_sum hg kO ha];show (t.done.length:Int)=_;rw [T.done];exact h.dn
theorem S9 {x y:Gr} (L:Loc nc ns n x) (k:SR x) (e:x.place=15) (st:x.status=0) (hy:y={ x with place:=18,aK:=-1 }):Loc nc ns n y:=by
 have ho:aD y=aD x:=by subst hy;rfl
 have h1:y.ops=x.ops∧y.at_=x.at_∧y.place=18∧y.status=x.status∧y.token=x.token∧y.param=x.param∧y.aK=-1∧y.ah=x.ah∧y.ak=x.ak:=by subst hy;simp
 clear hy;obtain ⟨a1,a2,a3,a4,a5,a6,a7,a8,a9,iy,jH,lX,oP,oQ,oR,mN,p6,p7,oS,oT,ru,oU⟩:=L
 constructor <;> simp only [Wt,SR,SE,e,st,Own,aZ,dG,ho,h1] at * <;> grind
theorem nX (s:St) (g:Nat) (x:Gr) (p:Int) (hg:g < s.gs.length):aE (aa s g x) g p=aa s g { x with place:=p }:=by
 unfold aE;rw [iK s g g x hg,if_pos rfl];unfold aa;simp only [List.set_set]
theorem MInv.Ta (h:MInv s) (hg:g < s.gs.length) (st:(gr s g).status=0) (e:(gr s g).place=15) (k:2≤(op s g).kind∧(op s g).kind≤6):MInv (aE (aa (bR s g (gr s g).aK) g { gr s g with aK:=-1 }) g 18):=by
 have L:=h.loc hg;have ks:SR (gr s g):=by
  have:=(L.pl.resolve_left (by omega)).2;have hk:(aD (gr s g)).kind=(op s g).kind:=rfl;unfold aZ at this;unfold SR;rw [e] at this;omega
 have jb:=ks.ne;have hm:=L.mi ks (by omega) (by omega);have ux:Own (gr s g) (gr s g).aK:=⟨hm.1,.inl ⟨ks,by omega,by omega,rfl⟩⟩
 have gI:g < (bR s g (gr s g).aK).gs.length:=by
  unfold bR aF;simp only;unfold dU;split <;> exact hg
 rw [nX _ _ _ _ gI];have ho:aD { gr s g with place:=18,aK:=-1 }=aD (gr s g):=rfl;refine h.J5 hg ux (x:={ gr s g with place:=18,aK:=-1 }) (S9 L ks e st rfl) ?_ ?_ ?_ ?_ ?_ ?_ rfl ?_ rfl
 ·intro ch;unfold aY;have n1:¬ SE { gr s g with place:=18,aK:=-1 }:=jb;simp only [ho,e,jb,n1,false_and,or_false];omega
 ·intro j;have n1:¬ SE { gr s g with place:=18,aK:=-1 }:=jb
  constructor
  ·rintro ⟨_,w | w⟩
   ·have:=w.2.2.1;simp at this
   ·exact absurd w.1 n1
  ·rintro ⟨⟨_,w | w⟩,w2⟩
   ·exact absurd w.2.2.2.symm w2
   ·exact absurd w.1 jb
 ·intro j d w;rcases w with ⟨_,w | w⟩
  ·have:=w.2.2.1;simp at this
  ·exact absurd w.1 jb
 ·rintro i j (q | q)
  ·omega
  ·exact absurd q.1 jb
 ·unfold cu;simp
 ·unfold cO;simp
 ·rintro (w | w)
  ·omega
  ·exact absurd w.1 jb
end Sx
namespace Sx
variable {s t:St} {g:Nat} {nc ns n:Int}
theorem MInv.Tb (h:MInv s) (hg:g < s.gs.length) (st:(gr s g).status=0) (e:(gr s g).place=16) (k:2≤(op s g).kind∧(op s g).kind≤6):MInv (ah (free s (op s g).ch) g):=by
 obtain ⟨c0,c1⟩:=h.qd hg (by omega) k;have hk:(aD (gr s g)).kind=(op s g).kind:=rfl;have hh:aY (gr s g) (op s g).ch:=.inl ⟨k.1,k.2,rfl,by omega⟩;have key:∀ p:Int,(p=17∧(gr s g).ah≠[]∨p=18∧(gr s g).ah=[])→MInv (aE (free s (op s g).ch) g p):=by
  intro p hp;refine h.vJ hg (x:={ gr s g with place:=p }) ⟨rfl,rfl,rfl,rfl,rfl,rfl,?_,st,?_,?_,?_,?_,?_,?_,?_⟩ c0 c1 ⟨.inr (.inr ⟨hh,rfl,fun ch=>?_⟩),h.gK c0 c1,⟨List.Sublist.refl _,List.Sublist.refl _⟩,.inl ⟨rfl,rfl⟩⟩ ?_ ?_
  ·unfold SE;omega
  ·omega
  ·omega
  ·simp only;omega
  ·unfold aZ;simp only;omega
  ·refine ⟨?_,?_,?_,?_⟩ <;> simp only
   ·omega
   ·omega
   ·intro q;rcases hp with hp | hp
    ·exact hp.2
    ·omega
   ·omega
  ·simp only;omega
  ·simp only;rcases hp with hp | hp
   ·exact .inr (.inr (.inl hp.1))
   ·exact .inl hp.2
  ·have ho:aD { gr s g with place:=p }=aD (gr s g):=rfl;unfold aY SE;rw [ho,hk];simp only [e]
   constructor
   ·intro w;omega
   ·rintro ⟨w | w,w2⟩
    ·exact absurd w.2.2.1 w2
    ·omega
  ·unfold cu;simp only;omega
  ·simp only;omega
 unfold ah
 split
 ·rename_i q;refine key 17 (.inl ⟨rfl,fun w=>?_⟩);have:(gr (free s (op s g).ch) g).ah=(gr s g).ah:=rfl;rw [this,w] at q;simp at q
 ·rename_i q;refine key 18 (.inr ⟨rfl,?_⟩);have:(gr (free s (op s g).ch) g).ah=(gr s g).ah:=rfl;rw [this] at q;exact List.length_eq_zero_iff.1 (by omega)
theorem Rest.two (s:St) {g p:Nat} {x y:Gr} (hg:g < s.gs.length) (hp:p < s.gs.length) (hx:x.at_=(gr s g).at_) (hy:y.at_=(gr s p).at_) (br:p≠g):Rest s (Sx.aa (Sx.aa s p y) g x):=by
 refine (Rest.aa s hp hy).trans (Rest.aa _ (by simpa [Sx.aa] using hg) ?_);rw [iK s p g y hp,ax];exact hx
theorem Tc {x y:Gr} {p:Int} {l:List Int} (L:Loc nc ns n x) (e:x.place=17) (st:x.status=0) (hw:x.ah=p :: l) (h1:y.ops=x.ops) (h2:y.at_=x.at_) (h3:y.status=x.status) (h4:y.token=x.token) (h5:y.param=x.param) (h6:y.ah=l) (hp:y.place=17∧l≠[]∨y.place=18∧l=[])
  (nP:x.param=-1) (nT:x.token=false):Loc nc ns n y:=by
 have ho:aD y=aD x:=by unfold aD;rw [h1,h2]
 have J6:=L.w4;have lZ:=L.w3;rw [hw] at J6 lZ;have nh:=List.nodup_cons.1 J6;have hy:y.place=17∨y.place=18:=by omega
 have lf:=(L.pl.resolve_left (by omega))
 have rm:=L.rm;have mk:=L.AT;have p0:=L.p0
 constructor
 ·rw [h1];exact L.nV
 ·rw [h1];exact L.gO
 ·rw [h2];exact L.a0
 ·rw [h1,h2];exact L.a1
 ·rw [h1,h2,ho];refine .inr ⟨lf.1,?_⟩;rcases hp with c | c
  ·rw [c.1,← e];exact lf.2
  ·rw [c.1];exact .inl rfl
 ·rw [ho];intro _ _ _;exact mk (by omega) (by omega) (by omega)
 ·rw [h3];exact rm
 ·rw [h3];omega
 ·omega
 ·rw [h3];omega
 ·rw [h4,nT];simp
 ·intro c;rw [h6] at c;rcases hp with d | d
  ·exact .inr (.inl d.1)
  ·exact absurd d.2 c
 ·intro c;rw [h6];rcases hp with d | d
  ·exact d.2
  ·omega
 ·rw [h6];exact fun p hp=>lZ p (List.mem_cons_of_mem _ hp)
 ·rw [h6];exact nh.2
 ·omega
 ·intro _ c1 c2;omega
 ·rw [h5];exact p0
 ·omega
 ·rw [h5];omega
 ·rw [h5];omega
 ·intro _ c;unfold dG at c;omega
theorem MInv.Td (h:MInv s) (hg:g < s.gs.length) (st:(gr s g).status=0) (e:(gr s g).place=17) :
  MInv (ah (aa (ready s ((gr s g).ah.headD 0).toNat) g { gr s g with ah:=(gr s g).ah.tail }) g):=by
 have L:=h.loc hg;have eA:=fj s g;obtain ⟨p,l,hw⟩:∃ p l,(gr s g).ah=p :: l:=by
  cases w:(gr s g).ah with
  | nil=>exact absurd w (L.w2 e)
  | cons p l=>exact ⟨p,l,rfl⟩
 have hp:=L.w3 p (by rw [hw];simp);obtain ⟨k1,k2,k3,k4,k5⟩:=Inv.wk h.v (g:Int) (by omega) (by omega) p (by rw [eA,hw];simp);obtain ⟨q,rfl⟩:∃ q:Nat,p=q:=⟨p.toNat,by omega⟩
 have hq:q < s.gs.length:=by omega
 have ym:q≠g:=by omega
 rw [fj] at k2 k3 k4 k5;have Lq:=h.loc hq;have eE:(gr s q).status=0∨(gr s q).status=1:=by
  rcases Lq.rm with w | w | w
  ·exact .inl w
  ·exact .inr w
  ·have:=(Lq.JN w).1;rcases k2 with k2 | k2 <;> omega
 obtain ⟨y,hy⟩:∃ y,(if (gr s q).status=1 then { gr s q with status:=0 } else if (gr s q).status=0 then { gr s q with token:=true } else gr s q)=y:=⟨_,rfl⟩
 have er:ready s q=aa s q y:=by unfold ready;rw [hy]
 have Te:((gr s g).ah.headD 0).toNat=q:=by rw [hw];simp
 have Tf:(gr s g).ah.tail=l:=by rw [hw];rfl
 rw [Te,Tf,er];obtain ⟨pl,lf,hs⟩:∃ pl:Int,(pl=17∧l≠[]∨pl=18∧l=[])∧ah (aa (aa s q y) g { gr s g with ah:=l }) g=aa (aa s q y) g { gr s g with ah:=l,place:=pl }:=by
  have gI:g < (aa s q y).gs.length:=by simpa [aa] using hg
  by_cases c:l=[]
  ·refine ⟨18,.inr ⟨rfl,c⟩,?_⟩;unfold ah;rw [iK _ g g _ gI,if_pos rfl,if_neg (by simp [c]),nX _ _ _ _ gI]
  ·refine ⟨17,.inl ⟨rfl,c⟩,?_⟩;unfold ah;rw [iK _ g g _ gI,if_pos rfl,if_pos (List.length_pos_iff.2 c),nX _ _ _ _ gI]
 rw [hs];have py:Part (gr s q) y∧y.param=(gr s q).param∧y.aX=(gr s q).aX∧((gr s q).status=1∧y.status=0∧y.token=(gr s q).token∨(gr s q).status=0∧y.status=0∧y.token=true):=by
  rw [← hy];rcases eE with w | w
  ·rw [ax,if_pos w];exact ⟨⟨rfl,rfl,rfl,rfl,rfl,rfl,rfl,rfl,rfl,rfl,rfl⟩,rfl,rfl,.inr ⟨w,w,rfl⟩⟩
  ·rw [if_pos w];exact ⟨⟨rfl,rfl,rfl,rfl,rfl,rfl,rfl,rfl,rfl,rfl,rfl⟩,rfl,rfl,.inl ⟨w,rfl,rfl⟩⟩
 obtain ⟨x,hx⟩:∃ x,({ gr s g with ah:=l,place:=pl }:Gr)=x:=⟨_,rfl⟩
 have x1:x.ops=(gr s g).ops∧x.at_=(gr s g).at_∧x.place=pl∧x.status=(gr s g).status∧x.token=(gr s g).token∧x.param=(gr s g).param∧x.aK=(gr s g).aK∧x.ak=(gr s g).ak:=by subst hx;simp
 have x2:x.ah=l:=by subst hx;rfl
 have ho:aD x=aD (gr s g):=by subst hx;rfl
 rw [hx];have J7:x.place=17∨x.place=18:=by rw [x1.2.2.1];exact lf.imp (fun w=>w.1) (fun w=>w.1)
 have J8:∀ (z:Gr) i,z.place=17∨z.place=18→¬ Own z i:=by
  rintro z i c ⟨_,w | w⟩
  ·have:=w.2.2.1;omega
  ·have:=w.2.1;omega
 have nS:∀ i,¬ Own (gr s g) i∧¬ Own x i:=fun i=>⟨J8 _ i (.inl e),J8 _ i J7⟩
 have Tg:¬ Wt (gr s g):=by rintro (w | w) <;> omega
 have rB:∀ i j,¬ dP (gr s g) i j:=by rintro i j (w | w) <;> omega
 have mh:∀ ch,aY x ch↔aY (gr s g) ch:=by
  have J9:∀ (z:Gr) ch,z.place=17∨z.place=18→¬ aY z ch:=by
   rintro z ch c (w | w)
   ·have:=w.2.2.2;omega
   ·have:=w.2;omega
  exact fun ch=>⟨fun w=>absurd w (J9 _ _ J7),fun w=>absurd w (J9 _ _ (.inl e))⟩
 have nP:(gr s g).param=-1:=by
  have:=L.p0
  by_cases c:0≤(gr s g).param
  ·exact absurd (L.p2 c).2 (nS _).1
  ·omega
 have nT:(gr s g).token=false:=by
  cases c:(gr s g).token
  ·rfl
  ·have:=(L.tk c).2.1;omega
 have lx:Loc s.an.length s.aB.length s.gs.length x:=Tc L e st hw x1.1 x1.2.1 x1.2.2.2.1 x1.2.2.2.2.1 x1.2.2.2.2.2.1 x2 (by rw [x1.2.2.1];exact lf) nP nT;refine h.rest (by subst hx;exact Rest.two s hg hq rfl py.1.at_ ym) (V.of (by subst hx;exact Rest.two s hg hq rfl py.1.at_ ym) (Inv.readies h.v (g:=g) (p:=(q:Int)) (x:=x) (y:=y) (l:=l) (by omega) (by omega) lx ?_ ?_ ?_ ?_ ?_ ?_ ?_ x2 ?_ ?_ ?_ ?_ ?_) (fun k k0=>EL hg hq rfl k k0) (fun _ _=>rfl) (fun _ _=>rfl))
 all_goals (try rw [eA]);(try rw [fj])
 ·exact mh
 ·intro i;exact ⟨fun w=>absurd w (nS i).2,fun w=>absurd w (nS i).1⟩
 ·intro i d w;exact absurd w (nS i).2
 ·exact rB
 ·unfold cu;omega
 ·unfold cO;omega
 ·exact hw
 ·exact Tg
 ·exact py.1
 ·exact py.2.1
 ·exact py.2.2.1
 ·exact py.2.2.2
theorem MInv.common (h:MInv s) (hg:g < s.gs.length) (st:(gr s g).status=0) (k:2≤(op s g).kind∧(op s g).kind≤6∨(gr s g).place=13∨(gr s g).place=17):MInv (common s g).1:=by
 unfold Sx.common;simp only
 by_cases e4:(gr s g).place=4
 ·rw [if_pos e4];have k:=k.resolve_right (by omega);unfold tryLock
  by_cases hl:(cn s (op s g).ch).lock=-1
  ·simp only [if_pos hl]
   by_cases k6:(op s g).kind=6
   ·simp only [if_pos k6,if_true];exact h.s4 hg st k e4 21 (.inl ⟨k6,rfl⟩) hl
   ·simp only [if_neg k6,if_true];exact h.s4 hg st k e4 5 (.inr ⟨k6,rfl⟩) hl
  ·simp only [if_neg hl];exact h
 rw [if_neg e4]
 by_cases rC:(gr s g).place=12
 ·rw [if_pos rC];exact h.S3 hg st rC (k.resolve_right (by omega))
 rw [if_neg rC]
 by_cases rD:(gr s g).place=13
 ·rw [if_pos rD];exact h.vK hg st rD
 rw [if_neg rD]
 by_cases rE:(gr s g).place=15
 ·rw [if_pos rE];exact h.Ta hg st rE (k.resolve_right (by omega))
 rw [if_neg rE]
 by_cases rF:(gr s g).place=16
 ·rw [if_pos rF];exact h.Tb hg st rF (k.resolve_right (by omega))
 rw [if_neg rF]
 by_cases oY:(gr s g).place=17
 ·rw [if_pos oY];exact h.Td hg st oY
 rw [if_neg oY];exact h
end Sx
namespace Sx
variable {s t:St} {g:Nat} {nc ns n:Int}
theorem Ka {s:St} {c:Int} (c0:1≤c) (c1:c≤s.an.length):av s c (cn s c)=s:=by
 unfold av cn;have:(c - 1).toNat < s.an.length:=by omega
 rw [List.getD_eq_getElem?_getD,List.getElem?_eq_getElem this];simp
structure vL (s:St) (g:Nat) (c i:Int) (o:Nat):Prop where
 i0:0≤i
 i1:i < s.aB.length
 ch:(su s i).ch=c
 g_:(su s i).g=o
 o1:o < s.gs.length
 own:Own (gr s o) i
 q:dP (gr s o) i (su s i).cs
 mt:Match (gr s o) i (su s i)
theorem MInv.vN (h:MInv s) {c i:Int} (c0:1≤c) (c1:c≤s.an.length) (hq:i∈(cn s c).recv∨i∈(cn s c).send):∃ o,vL s g c i o:=by
 obtain ⟨t1,t2,t3,t4,t5,t6,t7,t8⟩:=Inv.AX h.v c0 c1 hq;refine ⟨(su s i).g.toNat,t1,t2,t3,by omega,by omega,t6,t7,t8⟩
theorem MInv.Bf (h:MInv s) (hg:g < s.gs.length) {i:Int} {o:Nat} {x y:Gr} {c:Int} {c':Cn} (q:vL s g c i o) (lx:Loc s.an.length s.aB.length s.gs.length x) (hc:ju s.gs.length (cn s) g (gr s g) x c c') (ow:∀ i,Own x i↔Own (gr s g) i) (mt:∀ i d,Own x i→Match (gr s g) i d→Match x i d)
  (nq:∀ i j,¬ dP (gr s g) i j) (nw:¬ cu x) (wx:∀ q∈x.ah,q∈(gr s g).ah) (kN:¬ Wt (gr s g))
  (hx:cO x) (xi:x.hold=i) (c0:1≤c) (c1:c≤s.an.length) (xh:aY x c) (hq:i∈(cn s c).recv∨i∈(cn s c).send) (py:Part (gr s o) y) (e1:y.param=(gr s o).param) (e2:y.token=(gr s o).token) (e3:y.status=(gr s o).status)
  (hp:(su s i).cs < 0∧i∉c'.recv∧i∉c'.send∧y.aX=(gr s o).aX∨0≤(su s i).cs∧(gr s o).aX=false∧y.aX=true∧aY (gr s g) c) (ha:x.at_=(gr s g).at_) :
  MInv (aa (aa (av s c c') o y) g x):=by
 have br:o≠g:=fun e=>nq _ _ (e ▸ q.q)
 have eA:=fj s g;have eO:gA s (su s i).g=gr s o:=by rw [q.g_,fj]
 have r:Rest s (aa (aa (av s c c') o y) g x):=(Rest.av s c c').trans (Rest.two (Sx.av s c c') (g:=g) (p:=o) hg q.o1 ha py.at_ br);refine h.rest r (V.of r (Inv.SV h.v (g:=g) (i:=i) (x:=x) (y:=y) (c:=c) (c':=c') (by omega) (by omega) lx (by rw [eA];exact hc) (by rw [eA];exact ow) (by rw [eA];exact mt) (by rw [eA];exact nq) nw (by rw [eA];exact wx) (by rw [eA];exact kN) hx xi q.ch c0 c1 xh hq (by rw [eO];exact py) (by rw [eO];exact e1) (by rw [eO];exact e2) (by rw [eO];exact e3) (by rw [eO,eA];exact hp)) (fun k k0=>?_) (fun ch w=>mP c0 c1 rfl ch w) (fun _ _=>rfl));rw [q.g_];exact EL (s:=s) hg q.o1 rfl k k0
theorem MInv.EN (h:MInv s) (hg:g < s.gs.length) {i:Int} {o:Nat} {x y:Gr} {c:Int} {c':Cn} {d:Su} (c0:1≤c) (c1:c≤s.an.length) (lx:Loc s.an.length s.aB.length s.gs.length x) (hc:ju s.gs.length (cn s) g (gr s g) x c c') (ow:∀ i,Own x i↔Own (gr s g) i) (mt:∀ i d,Own x i→Match (gr s g) i d→Match x i d)
  (nq:∀ i j,¬ dP (gr s g) i j) (nw:¬ cu x) (fZ:¬ cO x) (wx:∀ q∈x.ah,q∈(gr s g).ah∨q=(o:Int)) (kN:¬ Wt (gr s g))
  (sc:(su s i).ch=c) (so:(su s i).g=o) (o1:o < s.gs.length) (br:o≠g) (F1:Wt (gr s o)) (F2:(gr s o).param=-1) (F3:Own (gr s o) i) (F4:SE (gr s o)→y.aX=true) (F5:i∉c'.recv∧i∉c'.send)
  (other:∀ k:Nat,k < s.gs.length→k≠g→cO (gr s k)→(su s (gr s k).hold).g=o→False)
  (py:Part (gr s o) y) (e1:y.param=i) (e2:y.token=(gr s o).token) (e3:y.status=(gr s o).status) (ha:x.at_=(gr s g).at_)
  (hd:d.g=(su s i).g∧d.ch=(su s i).ch∧d.cs=(su s i).cs∧d.send=(su s i).send∧d.live=(su s i).live) :
  MInv (aa (aF (aa (av s c c') o y) i d) g x):=by
 have eA:=fj s g;have eO:gA s (su s i).g=gr s o:=by rw [so,fj]
 have i1:=(Inv.own h.v (o:Int) (by omega) (by omega) i (by rw [fj];exact F3)).1;have i0:=F3.1;have r:Rest s (aa (aF (aa (av s c c') o y) i d) g x):=by
  have r1:=(Rest.av s c c').trans (Rest.two (Sx.av s c c') (g:=g) (p:=o) hg o1 ha py.at_ br);refine ⟨r1.gl,r1.cl,by simp [Sx.aF,Sx.aa,Sx.av],r1.sN,r1.cN,r1.ca,r1.md,r1.fr,r1.dw,r1.dn,r1.AZ,r1.at_⟩
 have v:=Inv.serve h.v (g:=g) (i:=i) (x:=x) (y:=y) (c:=c) (c':=c') (by omega) (by omega) lx (by rw [eA];exact hc) (by rw [eA];exact ow) (by rw [eA];exact mt) (by rw [eA];exact nq) nw fZ (by rw [eA,so];exact wx) (by rw [eA];exact kN) sc (by omega) (by omega) (by omega) (by rw [eO];exact F1) (by rw [eO];exact F2) (by rw [eO];exact F3) (by rw [eO];exact F4) F5 (fun k k0 k1 kg cl e=>by
  refine other k.toNat (by omega) (by omega) cl (by rw [← so];exact e)) (by rw [eO];exact py) e1 (by rw [eO];exact e2) (by rw [eO];exact e3)
 have v2:=v.SO (S':=up (su s) i d) (fun j=>by
  unfold up
  by_cases e:j=i
  ·rw [if_pos e,e];exact hd
  ·rw [if_neg e];exact ⟨rfl,rfl,rfl,rfl,rfl⟩)
 refine h.rest r (V.of r v2 (fun k k0=>?_) (fun ch w=>mP c0 c1 rfl ch w) (fun j j0=>AY i0 i1 rfl j j0));rw [so];exact EL (s:=s) hg o1 rfl k k0
def bX (c:Cn) (i:Int):Cn:={ c with recv:=gM c.recv i,send:=gM c.send i }
theorem drop_eq {s:St} {i c:Int} (e:(su s i).ch=c) (c0:1≤c) (c1:c≤s.an.length):drop s i=av s c (bX (cn s c) i):=by
 subst e;unfold drop;rw [if_pos (oV.2 ⟨c0,c1⟩)];rfl
theorem nY {l:List Int} {i:Int}:i∉gM l i:=by unfold gM;simp
theorem jd {l:List Int} {i:Int}:(gM l i).Sublist l:=by unfold gM;exact List.filter_sublist
theorem Bi {l:List Gr} {g o:Nat} {a b c:Gr} (h:o≠g):((l.set g a).set o b).set g c=(l.set o b).set g c:=by
 rw [List.set_comm _ _ (by omega:g≠o),List.set_set]
theorem Kb {s:St} {g o:Nat} {i:Int} (hg:g < s.gs.length) (so:(su s i).g=o) (br:o≠g):pair s g i=aa (aa s o { gr s o with bG:=(gr s g).t,wi:=g,dh:=(su s i).cs }) g { gr s g with bG:=(gr s g).t,wi:=o }:=by
 unfold pair;simp only [so,Int.toNat_natCast]
theorem iz {s:St} {g h:Nat} {x:Gr} (hg:g < s.gs.length):gr (aa s g x) h=if h=g then x else gr s h:=iK s g h x hg
theorem gU {s:St} {g:Nat} {x:Gr}:(aa s g x).gs.length=s.gs.length:=by simp [aa]
theorem Kc (hg:g < s.gs.length) {i c:Int} {o:Nat} {dy hand:Int} (so:(su s i).g=o) (br:o≠g) (sc:(su s i).ch=c) (c0:1≤c) (c1:c≤s.an.length) (hn:¬ 0≤(su s i).cs) :
  taken s g i dy hand=aa (aa (av s c (bX (cn s c) i)) o { gr s o with bG:=s.step,wi:=g,dh:=(su s i).cs }) g { gr s g with hold:=i,t:=s.step,bG:=s.step,wi:=o,place:=hand }:=by
 unfold taken;rw [if_neg hn];have e1:drop (aa s g { gr s g with hold:=i,t:=s.step }) i=av (aa s g { gr s g with hold:=i,t:=s.step }) c (bX (cn s c) i):=drop_eq (s:=aa s g { gr s g with hold:=i,t:=s.step }) sc c0 c1;have gI:g < (av (aa s g { gr s g with hold:=i,t:=s.step }) c (bX (cn s c) i)).gs.length:=by show g < (aa s g _).gs.length;rw [gU];exact hg
 rw [e1,Kb gI so br];have g1:gr (av (aa s g { gr s g with hold:=i,t:=s.step }) c (bX (cn s c) i)) g={ gr s g with hold:=i,t:=s.step }:=by rw [A0,iz hg,if_pos rfl]
 have g2:gr (av (aa s g { gr s g with hold:=i,t:=s.step }) c (bX (cn s c) i)) o=gr s o:=by rw [A0,iz hg,if_neg br]
 rw [g1,g2,nX _ _ _ _ (by rw [gU];exact gI)];unfold aa av;simp only;rw [Bi br];rfl
theorem Ke {i:Int} {dy hand:Int} (hg:g < s.gs.length) (hn:0≤(su s i).cs):taken s g i dy hand=aa s g { gr s g with hold:=i,place:=dy }:=by
 unfold taken;rw [if_pos hn,nX _ _ _ _ hg]
theorem vL.ne (h:MInv s) {c i:Int} {o:Nat} (q:vL s g c i o) (nq:∀ i j,¬ dP (gr s g) i j):o≠g:=fun e=>nq _ _ (e ▸ q.q)
theorem MInv.s6 (h:MInv s) (hg:g < s.gs.length) (st:(gr s g).status=0) (k:2≤(op s g).kind∧(op s g).kind≤5) (e:(gr s g).place=6) {i:Int} (hq:i∈(cn s (op s g).ch).recv∨i∈(cn s (op s g).ch).send):MInv (taken s g i 7 8):=by
 obtain ⟨c0,c1⟩:=h.qd hg (by omega) (by omega);have hk:(aD (gr s g)).kind=(op s g).kind:=rfl;have L:=h.loc hg;obtain ⟨o,q⟩:=h.vN (g:=g) c0 c1 hq;have dQ:(gr s g).ah=[]:=by
  by_cases w:(gr s g).ah=[]
  ·exact w
  ·have:=L.w1 w;omega
 have go:∀ (x:Gr) (p:Int),p=7∨p=8→x.ops=(gr s g).ops→x.at_=(gr s g).at_→x.status=(gr s g).status→x.token=(gr s g).token→x.param=(gr s g).param→x.ah=(gr s g).ah→x.place=p→gJ (gr s g) x:=by
  intro x p hp h1 h2 h3 h4 h5 h6 h7;refine ⟨h1,h2,h3,h4,h5,h6,by unfold SE;omega,st,by omega,by omega,by omega,?_,⟨by omega,by omega,by omega,by omega⟩,by omega,.inl dQ⟩;unfold aZ;omega
 have hH:∀ x:Gr,aD x=aD (gr s g)→(x.place=7∨x.place=8)→aY x (op s g).ch:=fun x ho hp=>.inl ⟨by rw [ho];omega,by rw [ho];omega,by rw [ho];rfl,by omega⟩
 by_cases hn:0≤(su s i).cs
 ·rw [Ke hg hn];have G:=go { gr s g with hold:=i,place:=7 } 7 (.inl rfl) rfl rfl rfl rfl rfl rfl rfl;refine h.self hg (G.sf L (fun _=>⟨q.i0,q.i1⟩) ?_ (by simp)) rfl (fun _=>?_)
  ·rw [e];unfold hP;simp
  ·simp only;rw [q.ch];exact ⟨c0,c1,hH _ rfl (.inl rfl),hq,hn⟩
 ·have G:=go { gr s g with hold:=i,t:=s.step,bG:=s.step,wi:=o,place:=8 } 8 (.inr rfl) rfl rfl rfl rfl rfl rfl rfl;rw [Kc hg q.g_ (q.ne h (G.nq)) q.ch c0 c1 hn];refine h.Bf hg q (G.loc L (fun _=>⟨q.i0,q.i1⟩)) ⟨.inl ⟨rfl,G.hh (by rw [e];unfold hP;simp)⟩,h.gK c0 c1,⟨jd,jd⟩,.inr ?_⟩ (fun i=>⟨fun w=>absurd w (G.own i).2,fun w=>absurd w (G.own i).1⟩) (fun i d w=>absurd w (G.own i).2) G.nq (by unfold cu;simp) (fun q=>id) G.nw (.inl rfl) rfl c0 c1 (hH _ rfl (.inr rfl)) hq ⟨rfl,rfl,rfl,rfl,rfl,rfl,rfl,rfl,rfl,rfl,rfl⟩ rfl rfl rfl (.inl ⟨by omega,nY,nY,rfl⟩) rfl;exact .inl ⟨by omega,by omega,rfl,by omega⟩
end Sx
namespace Sx
variable {s t:St} {g:Nat} {nc ns n:Int}
theorem MInv.buf (h:MInv s) {c:Int} {c':Cn} (c0:1≤c) (c1:c≤s.an.length) (e1:c'.lock=(cn s c).lock) (e2:c'.recv=(cn s c).recv) (e3:c'.send=(cn s c).send) (e4:0≤c'.cap∧c'.cap≤4∧(c'.buf.length:Int)≤c'.cap):MInv (av s c c'):=by
 refine h.rest (Rest.av s c c') ?_;have I:=h.v;have key:∀ ch,1≤ch→(cn (av s c c') ch).lock=(cn s ch).lock∧(cn (av s c c') ch).recv=(cn s ch).recv∧(cn (av s c c') ch).send=(cn s ch).send:=by
  intro ch a;rw [mP c0 c1 rfl ch a]
  by_cases e:ch=c
  ·subst e;rw [gS];exact ⟨e1,e2,e3⟩
  ·rw [iI _ _ e];exact ⟨rfl,rfl,rfl⟩
 have J:Inv s.gs.length s.an.length s.aB.length (gA s) (cn (av s c c')) (su s) (fun i=>gw s i=true):=by
  constructor
  ·exact I.loc
  ·intro ch a b;rw [(key ch a).1];exact I.jK ch a b
  ·intro k a b ch c d;rw [(key ch c).1];exact I.iX k a b ch c d
  ·intro ch a b;rw [mP c0 c1 rfl ch a]
   by_cases e:ch=c
   ·subst e;rw [gS];exact e4
   ·rw [iI _ _ e];exact I.cap ch a b
  ·exact I.own
  ·intro ch a b i;rw [(key ch a).2.1,(key ch a).2.2];exact I.q ch a b i
  ·intro ch a b;rw [(key ch a).2.1,(key ch a).2.2];exact I.nd ch a b
  ·intro k a b w;have:=I.dy k a b w;rw [(key _ this.1).2.1,(key _ this.1).2.2];exact this
  ·intro k a b w;have:=I.cl k a b w;rw [(key _ this.1).2.1,(key _ this.1).2.2];exact this
  ·exact I.rq
  ·exact I.wk
  ·exact I.pZ
  ·exact I.su
  ·exact I.lv
 refine V.of (Rest.av s c c') J (fun _ _=>rfl) (fun _ _=>rfl) (fun _ _=>rfl)
theorem Kf {s:St} {g:Nat} {back on:Int} (hp:(gr s (su s (gr s g).hold).g.toNat).aX=true):dy s g back on=aa (drop s (gr s g).hold) g { gr s g with hold:=-1,place:=back }:=by
 unfold dy;simp only;rw [if_pos hp]
theorem Kg {s:St} {g o:Nat} {back on:Int} (hg:g < s.gs.length) (ho:o < s.gs.length) (so:(su s (gr s g).hold).g=o) (br:o≠g) (hp:(gr s o).aX=false) :
  dy s g back on=aa (aa s o { gr s o with aX:=true,bG:=s.step,wi:=g,dh:=(su s (gr s g).hold).cs }) g { gr s g with t:=s.step,bG:=s.step,wi:=o,place:=on }:=by
 unfold dy;simp only [so,Int.toNat_natCast];rw [if_neg (by rw [hp];simp)];have gI:g < (aa (aa s g { gr s g with t:=s.step }) o { gr s o with aX:=true }).gs.length:=by rw [gU,gU];exact hg
 have sF:o < (aa s g { gr s g with t:=s.step }).gs.length:=by rw [gU];exact ho
 have Ti:(su (aa (aa s g { gr s g with t:=s.step }) o { gr s o with aX:=true }) (gr s g).hold).g=o:=so;rw [Kb gI Ti br];have g1:gr (aa (aa s g { gr s g with t:=s.step }) o { gr s o with aX:=true }) g={ gr s g with t:=s.step }:=by rw [iz sF,if_neg (by omega),iz hg,if_pos rfl]
 have g2:gr (aa (aa s g { gr s g with t:=s.step }) o { gr s o with aX:=true }) o={ gr s o with aX:=true }:=by rw [iz sF,if_pos rfl]
 rw [g1,g2,nX _ _ _ _ (by rw [gU];exact gI)];unfold aa;simp only [List.set_set];rw [Bi br];rfl
theorem MInv.EO (h:MInv s) (hg:g < s.gs.length) (w:cu (gr s g)):∃ o,vL s g (su s (gr s g).hold).ch (gr s g).hold o∧1≤(su s (gr s g).hold).ch∧(su s (gr s g).hold).ch≤s.an.length∧aY (gr s g) (su s (gr s g).hold).ch∧((gr s g).hold∈(cn s (su s (gr s g).hold).ch).recv∨(gr s g).hold∈(cn s (su s (gr s g).hold).ch).send)∧0≤(su s (gr s g).hold).cs:=by
 have:=Inv.dy h.v g (by omega) (by omega);rw [fj] at this;obtain ⟨c0,c1,k1,k2,k3⟩:=this w;obtain ⟨o,q⟩:=h.vN (g:=g) c0 c1 k2;exact ⟨o,q,c0,c1,k1,k2,k3⟩
structure EP (s:St) (g:Nat) (i c:Int) (o:Nat):Prop where
 c0:1≤c
 c1:c≤s.an.length
 sc:(su s i).ch=c
 so:(su s i).g=o
 o1:o < s.gs.length
 ne:o≠g
 hh:aY (gr s g) c
 wt:Wt (gr s o)
 pm:(gr s o).param=-1
 own:Own (gr s o) i
 se:SE (gr s o)→(gr s o).aX=true
 sr:SR (gr s o)→i∉(cn s c).recv∧i∉(cn s c).send
theorem MInv.ES (h:MInv s) (hg:g < s.gs.length) (w:cO (gr s g)):∃ o,EP s g (gr s g).hold (su s (gr s g).hold).ch o∧∀ k:Nat,k < s.gs.length→k≠g→cO (gr s k)→(su s (gr s k).hold).g=o→False:=by
 have:=Inv.cl h.v g (by omega) (by omega);rw [fj] at this;obtain ⟨c0,c1,k1,k2,k3,k4,k5,k6,k7,k8,k9⟩:=this w;refine ⟨(su s (gr s g).hold).g.toNat,⟨c0,c1,rfl,by omega,by omega,by omega,k1,k5,k6,k7,k8,k9⟩,fun k a b cl e=>?_⟩;have:=Inv.rq h.v k g (by omega) (by omega) (by omega) (by omega) (by rw [fj];exact cl) (by rw [fj];exact w) (by rw [fj,fj];omega);omega
theorem yw {s:St} {g o:Nat} {i:Int} {d:Bool} (hg:g < s.gs.length) (ho:o < s.gs.length) (so:(su s i).g=o) (br:o≠g) :
  serve s g i d=aa (aF (aa s o { gr s o with param:=i }) i { su s i with done:=d }) g { gr s g with ah:=(gr s g).ah ++ [(o:Int)],hold:=-1 }:=by
 have g1:gr (aF (aa s o { gr s o with param:=i }) i { su s i with done:=d }) g=gr s g:=by rw [SZ,iz ho,if_neg (by omega)]
 have e:serve s g i d=aa (aF (aa s (su s i).g.toNat { gr s (su s i).g.toNat with param:=i }) i { su s i with done:=d }) g { gr (aF (aa s (su s i).g.toNat { gr s (su s i).g.toNat with param:=i }) i { su s i with done:=d }) g with ah:=(gr (aF (aa s (su s i).g.toNat { gr s (su s i).g.toNat with param:=i }) i { su s i with done:=d }) g).ah ++ [(su s i).g],hold:=-1 }:=rfl;rw [e,so,Int.toNat_natCast,g1]
end Sx
namespace Sx
variable {s t:St} {g:Nat} {nc ns n:Int}
theorem Loc.ET {x:Gr} (L:Loc nc ns n x) {l:List Int} (h1:x.place=16∨x.place=17∨x.place=22∨x.place=23∨x.place=34∨x.place=30∧x.res.code≠0) (h2:∀ p∈l,0≤p∧p < n) (h3:l.Nodup) (h4:l≠[]):Loc nc ns n { x with ah:=l } :=
 ⟨L.nV,L.gO,L.a0,L.a1,L.pl,L.AT,L.rm,L.AU,L.AV,L.JN,L.tk,fun _=>h1,fun _=>h4,h2,h3,L.hd,L.mi,L.p0,L.p1,L.p2,L.p3,fun a b=>by
  obtain ⟨b1,b2,b3,b4,b5,b6,b7,b8,b9,yq,mO,sL,sM,p9,qc,vF,yt,vH,vI,yu⟩:=L.se a b;exact ⟨b1,b2,b3,b4,b5,b6,b7,b8,b9,yq,mO,sL,sM,p9,qc,vF,yt,vH,vI,yu⟩⟩
theorem MInv.s7 (h:MInv s) (hg:g < s.gs.length) (st:(gr s g).status=0) (k:2≤(op s g).kind∧(op s g).kind≤5) (e:(gr s g).place=7):MInv (dy s g 6 8):=by
 have hk:(aD (gr s g)).kind=(op s g).kind:=rfl;have L:=h.loc hg;have dQ:(gr s g).ah=[]:=by
  by_cases w:(gr s g).ah=[]
  ·exact w
  ·have:=L.w1 w;omega
 have hd:=L.hd (by omega);have go:∀ (x:Gr) (p:Int),p=6∨p=8→x.ops=(gr s g).ops→x.at_=(gr s g).at_→x.status=(gr s g).status→x.token=(gr s g).token→x.param=(gr s g).param→x.ah=(gr s g).ah→x.place=p→gJ (gr s g) x:=by
  intro x p hp h1 h2 h3 h4 h5 h6 h7;refine ⟨h1,h2,h3,h4,h5,h6,by unfold SE;omega,st,by omega,by omega,by omega,?_,⟨by omega,by omega,by omega,by omega⟩,by omega,.inl dQ⟩;unfold aZ;omega
 obtain ⟨o,q,c0,c1,hh,hq,ji⟩:=h.EO hg (.inl e);have br:o≠g:=q.ne h (go { gr s g with place:=6 } 6 (.inl rfl) rfl rfl rfl rfl rfl rfl rfl).nq
 cases hp:(gr s o).aX with
 | true =>
  rw [Kf (by rw [q.g_];exact hp)];rw [drop_eq rfl c0 c1];have G:=go { gr s g with hold:=-1,place:=6 } 6 (.inl rfl) rfl rfl rfl rfl rfl rfl rfl;refine h.vJ hg G c0 c1 ⟨.inl ⟨rfl,G.hh (by rw [e];unfold hP;simp)⟩,h.gK c0 c1,⟨jd,jd⟩,.inr hh⟩ (by unfold cu;simp) (by simp)
 | false =>
  rw [Kg hg q.o1 q.g_ br hp];have G:=go { gr s g with t:=s.step,bG:=s.step,wi:=o,place:=8 } 8 (.inr rfl) rfl rfl rfl rfl rfl rfl rfl;have Tj:=(G.hh (by rw [e];unfold hP;simp) (su s (gr s g).hold).ch).2 hh;have:=h.Bf hg q (c':=cn s (su s (gr s g).hold).ch) (G.loc L (fun _=>hd)) ⟨.inl ⟨rfl,G.hh (by rw [e];unfold hP;simp)⟩,h.gK c0 c1,⟨List.Sublist.refl _,List.Sublist.refl _⟩,.inr hh⟩ (fun i=>⟨fun w=>absurd w (G.own i).2,fun w=>absurd w (G.own i).1⟩) (fun i d w=>absurd w (G.own i).2) G.nq (by unfold cu;simp) (fun q=>id) G.nw (.inl rfl) rfl c0 c1 Tj hq (y:={ gr s o with aX:=true,bG:=s.step,wi:=g,dh:=(su s (gr s g).hold).cs }) ⟨rfl,rfl,rfl,rfl,rfl,rfl,rfl,rfl,rfl,rfl,rfl⟩ rfl rfl rfl (.inr ⟨ji,hp,rfl,hh⟩) rfl;rw [Ka c0 c1] at this;exact this
theorem MInv.s8 (h:MInv s) (hg:g < s.gs.length) (st:(gr s g).status=0) (k:2≤(op s g).kind∧(op s g).kind≤5) (e:(gr s g).place=8) {o:Nat} {c i:Int} (hi:(gr s g).hold=i) (q:EP s g i c o) (other:∀ k:Nat,k < s.gs.length→k≠g→cO (gr s k)→(su s (gr s k).hold).g=o→False) (r:Md.ai) (d:Su)
  (hd:d.g=(su s i).g∧d.ch=(su s i).ch∧d.cs=(su s i).cs∧d.send=(su s i).send∧d.live=(su s i).live) :
  MInv (aa (aF (aa (av s c (bX (cn s c) i)) o { gr s o with param:=i }) i d) g { gr s g with ah:=(gr s g).ah ++ [(o:Int)],hold:=-1,res:=r,place:=16 }):=by
 have hk:(aD (gr s g)).kind=(op s g).kind:=rfl;have L:=h.loc hg;have dQ:(gr s g).ah=[]:=by
  by_cases w:(gr s g).ah=[]
  ·exact w
  ·have:=L.w1 w;omega
 have G:gJ (gr s g) { gr s g with hold:=-1,res:=r,place:=16 }:=by
  refine ⟨rfl,rfl,rfl,rfl,rfl,rfl,by unfold SE;omega,st,by omega,by omega,by simp,?_,?_,?_,.inl dQ⟩
  ·show aZ (aD (gr s g)).kind 16;rw [hk];unfold aZ;omega
  ·refine ⟨?_,?_,?_,?_⟩ <;> simp
  ·simp only;omega
 have G1:=G.loc L (by simp);have lx:Loc s.an.length s.aB.length s.gs.length { gr s g with ah:=(gr s g).ah ++ [(o:Int)],hold:=-1,res:=r,place:=16 } :=
  G1.ET (.inl rfl) (by rw [dQ];have:=q.o1;simp;omega) (by rw [dQ];simp) (by simp)
 have yx:∀ i,¬ Own { gr s g with ah:=(gr s g).ah ++ [(o:Int)],hold:=-1,res:=r,place:=16 } i:=by
  rintro i ⟨_,w | w⟩
  ·have:=w.2.2.1;simp at this
  ·have:=w.1;unfold SE at this;have ho:aD { gr s g with ah:=(gr s g).ah ++ [(o:Int)],hold:=-1,res:=r,place:=16 }=aD (gr s g):=rfl;rw [ho] at this;omega
 have mh:∀ ch,aY { gr s g with ah:=(gr s g).ah ++ [(o:Int)],hold:=-1,res:=r,place:=16 } ch↔aY (gr s g) ch:=by
  intro ch;have:=G.hh (by rw [e];unfold hP;simp) ch;exact this
 refine h.EN hg q.c0 q.c1 lx ⟨.inl ⟨rfl,mh⟩,h.gK q.c0 q.c1,⟨jd,jd⟩,.inr q.hh⟩ (fun i=>⟨fun w=>absurd w (yx i),fun w=>absurd w (G.own i).1⟩) (fun i d w=>absurd w (yx i)) G.nq (by unfold cu;simp) (by unfold cO;simp) (fun q hq=>?_) G.nw q.sc q.so q.o1 q.ne q.wt q.pm q.own (fun w=>q.se w) ⟨nY,nY⟩ other ⟨rfl,rfl,rfl,rfl,rfl,rfl,rfl,rfl,rfl,rfl,rfl⟩ rfl rfl rfl rfl hd;rcases List.mem_append.1 hq with w | w
 ·exact .inl w
 ·exact .inr (List.mem_singleton.1 w)
end Sx
namespace Sx
variable {s t:St} {g:Nat} {nc ns n:Int}
theorem Kh {s:St} {i:Int} {d:Su} (hi:0≤i) (dA:i < s.aB.length):su (aF s i d) i=d:=by
 rw [AY hi dA rfl i hi,gS]
theorem Tl {s:St} {g o:Nat} {i c:Int} {d:Su} {x:Gr→Gr} {r:Md.ai} {p:Int} (hg:g < s.gs.length) (ho:o < s.gs.length) (so:d.g=o) (br:o≠g) (i0:0≤i) (i1:i < s.aB.length) :
  aa (serve (aF (av s c (bX (cn s c) i)) i d) g i true) g { gr (serve (aF (av s c (bX (cn s c) i)) i d) g i true) g with res:=r,place:=p } =
  aa (aF (aa (av s c (bX (cn s c) i)) o { gr s o with param:=i }) i { d with done:=true }) g { gr s g with ah:=(gr s g).ah ++ [(o:Int)],hold:=-1,res:=r,place:=p }:=by
 have s1:su (aF (av s c (bX (cn s c) i)) i d) i=d:=Kh i0 i1;have e:=yw (s:=aF (av s c (bX (cn s c) i)) i d) (g:=g) (o:=o) (i:=i) (d:=true) hg ho (by rw [s1];exact so) br;rw [e,s1];have g1:gr (aF (av s c (bX (cn s c) i)) i d) g=gr s g:=rfl;have g2:gr (aF (av s c (bX (cn s c) i)) i d) o=gr s o:=rfl;rw [g1,g2];have g3:∀ y z,gr (aa (aF (aa (aF (av s c (bX (cn s c) i)) i d) o y) i { d with done:=true }) g z) g=z:=fun y z=>by
  rw [iz (by show g < (aa _ _ _).gs.length;rw [gU];exact hg),if_pos rfl]
 rw [g3];unfold aa aF av;simp only [List.set_set]
theorem Ki {s:St} {g o:Nat} {i c:Int} {r:Md.ai} {p:Int} (hg:g < s.gs.length) (ho:o < s.gs.length) (so:(su s i).g=o) (br:o≠g) :
  aa (serve (av s c (bX (cn s c) i)) g i true) g { gr (serve (av s c (bX (cn s c) i)) g i true) g with res:=r,place:=p } =
  aa (aF (aa (av s c (bX (cn s c) i)) o { gr s o with param:=i }) i { su s i with done:=true }) g { gr s g with ah:=(gr s g).ah ++ [(o:Int)],hold:=-1,res:=r,place:=p }:=by
 have e:=yw (s:=av s c (bX (cn s c) i)) (g:=g) (o:=o) (i:=i) (d:=true) hg ho so br;rw [e];have g1:gr (av s c (bX (cn s c) i)) g=gr s g:=rfl;have g2:gr (av s c (bX (cn s c) i)) o=gr s o:=rfl;have g4:su (av s c (bX (cn s c) i)) i=su s i:=rfl;rw [g1,g2,g4];have g3:∀ y z,gr (aa (aF (aa (av s c (bX (cn s c) i)) o y) i { su s i with done:=true }) g z) g=z:=fun y z=>by
  rw [iz (by show g < (aa _ _ _).gs.length;rw [gU];exact hg),if_pos rfl]
 rw [g3];unfold aa aF av;simp only [List.set_set]
theorem Kj {s:St} {c c2 i:Int} {b:List Int} (c0:1≤c) (c1:c≤s.an.length) (d0:1≤c2) (d1:c2≤s.an.length) :
  av (av s c (bX (cn s c) i)) c2 { cn (av s c (bX (cn s c) i)) c2 with buf:=b }=av (av s c2 { cn s c2 with buf:=b }) c (bX (cn (av s c2 { cn s c2 with buf:=b }) c) i):=by
 have len:∀ (c:Int) (x:Cn),(av s c x).an.length=s.an.length:=fun c x=>by simp [av]
 have e1:cn (av s c (bX (cn s c) i)) c2=up (cn s) c (bX (cn s c) i) c2:=mP c0 c1 rfl c2 d0;have e2:cn (av s c2 { cn s c2 with buf:=b }) c=up (cn s) c2 { cn s c2 with buf:=b } c:=mP d0 d1 rfl c c0;rw [e1,e2]
 by_cases q:c2=c
 ·subst q;rw [gS,gS];unfold av;simp only [List.set_set];rfl
 ·rw [iI _ _ q,iI _ _ (Ne.symm q)];unfold av;simp only;rw [List.set_comm _ _ (by omega)]
theorem Kk (l:List Int) (r v:Int):(gQ l r v).1.length=l.length:=by
 unfold gQ
 split
 ·rfl
 ·rename_i h;have:l.length≠0:=fun e=>h (.inr e)
  simp;omega
end Sx
end Go.Proofs.YtofnbflkhgammaaGreat
