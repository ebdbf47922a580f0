/-
  What the laws need, part A17.
  Conditions: none.
-/
import Derived.Test.YtdjhhbpedllnhaaGreatA16
set_option linter.unusedVariables false
set_option linter.unusedSimpArgs false
set_option linter.unnecessarySimpa false
set_option maxHeartbeats 2000000
namespace Go.Proofs.YtdjhhbpedllnhaaGreat
namespace Sx
theorem m8 {s s':ah} {c:Int} {x:Cn} (hc:1≤c) (cP:c≤s.au.length) (e:s'.au=s.au.set (c - 1).toNat x) (ch:Int) (h1:1≤ch):cn s' ch=up (cn s) c x ch:=by
 unfold cn up;rw [e];simp only [List.getD_eq_getElem?_getD,List.getElem?_set]
 by_cases q:ch=c
 ·subst q;have:(ch - 1).toNat < s.au.length:=by omega
  rw [if_pos rfl,if_pos rfl,if_pos this];rfl
 ·have:¬ (c - 1).toNat=(ch - 1).toNat:=by omega
  rw [if_neg q,if_neg this]
theorem B5 {s s':ah} {i:Int} {x:Su} (hi:0≤i) (fo:i < s.aB.length) (e:s'.aB=s.aB.set i.toNat x) (j:Int) (h1:0≤j):su s' j=up (su s) i x j:=by
 unfold su up;rw [e];simp only [List.getD_eq_getElem?_getD,List.getElem?_set]
 by_cases q:j=i
 ·subst q;have:j.toNat < s.aB.length:=by omega
  rw [if_pos rfl,if_pos rfl,if_pos this];rfl
 ·have:¬ i.toNat=j.toNat:=by omega
  rw [if_neg q,if_neg this]
def oJ (s:ah):Int:=((List.range s.gs.length).map (fun g=>(aa s g).at_)).sum
structure MInv (s:ah):Prop where
 v:V s
 n1:1≤s.gs.length
 n8:s.gs.length≤8
 c8:s.au.length≤8
 sn:(s.aB.length:Int)=s.dh
 mw:s.aB.length≤64
 c1:1≤s.bP
 tV:s.bP≤16
 ca:s.cache.length=s.gs.length
 f0:0≤s.fresh
 po:∃ H,Po.Inv s.dh.toNat s.bP.toNat ⟨s.cache,s.middle,s.fresh.toNat,H⟩
 sE:0≤s.drawn
 tW:s.drawn≤s.dG.length
 du:∀ x∈s.dG,0≤x∧x < 65536
 d5:s.dG.length≤1000
 dn:(s.done.length:Int)=oJ s
structure Rest (s s':ah):Prop where
 gl:s'.gs.length=s.gs.length
 cl:s'.au.length=s.au.length
 sl:s'.aB.length=s.aB.length
 sN:s'.dh=s.dh
 cN:s'.bP=s.bP
 ca:s'.cache=s.cache
 md:s'.middle=s.middle
 fr:s'.fresh=s.fresh
 dw:s'.dG=s.dG
 dn:s'.drawn=s.drawn
 B6:s'.done=s.done
 at_:∀ g,g < s.gs.length→(aa s' g).at_=(aa s g).at_
theorem LP {s s':ah} (gl:s'.gs.length=s.gs.length) (at_:∀ g,g < s.gs.length→(aa s' g).at_=(aa s g).at_):oJ s'=oJ s:=by
 unfold oJ;rw [gl]
 congr 1
 exact List.map_congr_left fun g hg=>at_ g (by simpa using hg)
theorem Rest.live {s s':ah} (r:Rest s s') (i:Int):gX s' i=gX s i:=by unfold gX uO;rw [r.ca,r.md,r.fr]
theorem MInv.rest {s s':ah} (h:MInv s) (r:Rest s s') (v:V s'):MInv s':=by
 obtain ⟨a1,a2,a3,a4,a5,a6,a7,a8,a9,iA,jy,mY,pG,pH,pI,nQ⟩:=h;refine ⟨v,?_,?_,?_,?_,?_,?_,?_,?_,?_,?_,?_,?_,?_,?_,?_⟩
 ·rw [r.gl];exact a2
 ·rw [r.gl];exact a3
 ·rw [r.cl];exact a4
 ·rw [r.sl,r.sN];exact a5
 ·rw [r.sl];exact a6
 ·rw [r.cN];exact a7
 ·rw [r.cN];exact a8
 ·rw [r.ca,r.gl];exact a9
 ·rw [r.fr];exact iA
 ·rw [r.sN,r.cN,r.ca,r.md,r.fr];exact jy
 ·rw [r.dn];exact mY
 ·rw [r.dn,r.dw];exact pG
 ·rw [r.dw];exact pH
 ·rw [r.dw];exact pI
 ·rw [r.B6,LP r.gl r.at_];exact nQ
theorem V.of {s s':ah} (r:Rest s s') {G':Int→Gr} {C':Int→Cn} {S':Int→Su} (I:Inv s.gs.length s.au.length s.aB.length G' C' S' (fun i=>gX s i=true))
  (hG:∀ g,0≤g→gA s' g=G' g) (hC:∀ c,1≤c→cn s' c=C' c) (hS:∀ i,0≤i→su s' i=S' i):V s':=by
 unfold V;rw [r.gl,r.cl,r.sl];exact I.tS (fun g a _=>hG g a) (fun c a _=>hC c a) (fun i a _=>hS i a) (fun i _ _=>by rw [r.live])
structure Sf (nc ns n:Int) (x x':Gr):Prop where
 lx:Loc nc ns n x'
 hh:∀ ch,bH x' ch↔bH x ch
 ow:∀ i,Own x' i↔Own x i
 mt:∀ i d,Own x' i→Match x i d→Match x' i d
 qx:∀ i j,dI x i j→dI x' i j
 gP:¬ c7 x'
 wx:∀ q∈x'.ak,q∈x.ak
 wg:lM x→lM x'
 cg:mX x→mX x'∧(SR x'→SR x)
theorem fz (s:ah) (g:Nat):gA s g=aa s g:=by unfold gA;simp
theorem je (s:ah) (g h:Nat) (x:Gr) (hg:g < s.gs.length):aa (ai s g x) h=if h=g then x else aa s h:=F8 s s.gs rfl g h x hg _ rfl
theorem Rest.dK (s:ah) {g:Nat} {x:Gr} (hg:g < s.gs.length) (ha:x.at_=(aa s g).at_):Rest s (ai s g x):=by
 refine ⟨by simp [Sx.ai],rfl,rfl,rfl,rfl,rfl,rfl,rfl,rfl,rfl,rfl,fun h _=>?_⟩;rw [je s g h x hg]
 split
 ·rename_i e;subst e;exact ha
 ·rfl
theorem MInv.self {s:ah} (h:MInv s) {g:Nat} (hg:g < s.gs.length) {x:Gr} (f:Sf s.au.length s.aB.length s.gs.length (aa s g) x) (ha:x.at_=(aa s g).at_)
  (wn:cQ x→1≤(su s x.hold).ch∧(su s x.hold).ch≤s.au.length∧bH x (su s x.hold).ch∧(x.hold∈(cn s (su s x.hold).ch).recv∨x.hold∈(cn s (su s x.hold).ch).send)∧0≤(su s x.hold).cs):MInv (ai s g x):=by
 have r:=Rest.dK s hg ha;have e:=fz s g;refine h.rest r (V.of r (Inv.self h.v (g:=g) (x:=x) (by omega) (by omega) f.lx ?_ ?_ ?_ ?_ wn f.gP ?_ ?_ ?_) (fun k k0=>sD hg rfl k k0) (fun _ _=>rfl) (fun _ _=>rfl))
 all_goals rw [e]
 ·exact f.hh
 ·exact f.ow
 ·exact f.mt
 ·exact f.qx
 ·exact f.wx
 ·exact f.wg
 ·exact f.cg
end Sx
namespace Sx
def hP (p:Int):Prop:=5≤p∧p≤12∨p=16∨21≤p∧p≤23
structure iw (x x':Gr):Prop where
 ops:x'.ops=x.ops
 at_:x'.at_=x.at_
 status:x'.status=x.status
 token:x'.token=x.token
 param:x'.param=x.param
 ak:x'.ak=x.ak
 ns:¬ SE x
 st:x.status=0
 p0:x.place≠0
 o1:¬ (11≤x.place∧x.place≤15)
 o2:¬ (11≤x'.place∧x'.place≤15)
 ok:bJ (aH x).kind x'.place
 q1:x'.place≠0∧x'.place≠27∧(x'.place=17→x.ak≠[])∧x'.place≠19
 q2:x'.place=18∨x.place≠18∧x.place≠19
 q3:x.ak=[]∨x'.place=16∨x'.place=17∨x'.place=22∨x'.place=23
variable {nc ns n:Int} {x x':Gr}
theorem iw.aH (h:iw x x'):aH x'=aH x:=by unfold Sx.aH;rw [h.ops,h.at_]
theorem iw.loc (h:iw x x') (L:Loc nc ns n x) (hd:x'.place=7∨x'.place=8∨x'.place=23→0≤x'.hold∧x'.hold < ns):Loc nc ns n x':=by
 obtain ⟨a1,a2,a3,a4,a5,a6,a7,a8,a9,iA,jy,mY,pG,pH,pI,nQ,qP,qQ,pJ,pK,sB,pM⟩:=L;have ho:=h.aH;obtain ⟨h1,h2,h3,h4,h5,h6,h7,h8,h9,mU,lI,lJ,iq,qM,nR⟩:=h;have hk:¬ (Sx.aH x).kind=9:=h7;have hn:¬ Wt x:=by
  rintro (w | w)
  ·exact mU ⟨by have:=w.2.1;omega,by have:=w.2.2;omega⟩
  ·exact h7 w.1
 have LQ:x.param=-1:=by
  by_cases e:0≤x.param
  ·exact absurd (pK e).1 hn
  ·have:=qQ.1;clear a5 a7 a8 a9 iA jy mY nQ pJ lJ iq qM nR;omega
 have tX:x.token=false:=by
  cases e:x.token
  ·rfl
  ·exact absurd (jy e).1 hn
 have VA:x'.place≠26:=by
  intro e;clear a7 a8 a9 iA mY nQ pJ nR qM;unfold bJ at lJ;rw [e] at lJ;omega
 have jE:=(a5.resolve_left h9).1
 constructor <;> (try simp only [h1,h2,h3,h4,h5,h6,ho]) <;> try assumption
 ·exact .inr ⟨jE,lJ⟩
 ·intro _ e1 e2 e3 e4;rcases qM with qM | qM
  ·exact absurd qM e1
  ·exact a6 h9 qM.1 qM.2 e3 e4
 ·rw [h8];simp
 ·intro e;exact absurd e iq.2.2.2
 ·rw [h8];simp
 ·rw [tX];simp
 ·intro e;rcases nR with nR | nR | nR | nR | nR
  ·exact absurd nR e
  ·exact .inl nR
  ·exact .inr (.inl nR)
  ·exact .inr (.inr (.inl nR))
  ·exact .inr (.inr (.inr (.inl nR)))
 ·exact iq.2.2.1
 ·intro e;rcases e with e | e | e | e | e
  ·exact hd (.inl e)
  ·exact hd (.inr (.inl e))
  ·exact hd (.inr (.inr e))
  ·exact absurd e VA
  ·exact absurd e iq.2.1
 ·intro _ e1 e2;exact absurd ⟨e1,e2⟩ lI
 ·intro e;exact absurd ⟨by rw [e];decide,by rw [e];decide⟩ lI
 ·intro e;rw [LQ] at e;exact absurd e (by decide)
 ·intro e;rw [LQ] at e;exact absurd e (by decide)
 ·intro e;unfold SE at e;rw [ho] at e;exact absurd e hk
theorem iw.own (h:iw x x') (i:Int):¬ Own x i∧¬ Own x' i:=by
 have ho:=h.aH;have hk:¬ (Sx.aH x).kind=9:=h.ns
 constructor
 ·rintro ⟨_,w | w⟩
  ·exact h.o1 ⟨w.2.1,w.2.2.1⟩
  ·exact h.ns w.1
 ·rintro ⟨_,w | w⟩
  ·exact h.o2 ⟨w.2.1,w.2.2.1⟩
  ·have:=w.1;unfold SE at this;rw [ho] at this;exact hk this
theorem iw.nq (h:iw x x') (i j:Int):¬ dI x i j:=by
 rintro (w | w)
 ·exact h.o1 (by omega)
 ·exact h.ns w.1
theorem iw.nw (h:iw x x'):¬ Wt x:=by
 rintro (w | w)
 ·exact h.o1 (by omega)
 ·exact h.ns w.1
theorem iw.gP (h:iw x x') (e:x'.place≠8):¬ c7 x':=by
 rintro (w | w)
 ·exact e w
 ·exact h.q1.2.1 w
theorem iw.hh (h:iw x x') (e:hP x.place↔hP x'.place) (ch:Int):bH x' ch↔bH x ch:=by
 have ho:=h.aH;have hk:¬ (Sx.aH x).kind=9:=h.ns;unfold bH SE;rw [ho];unfold hP at e
 constructor
 ·rintro (w | w)
  ·exact .inl ⟨w.1,w.2.1,w.2.2.1,e.2 w.2.2.2⟩
  ·exact absurd w.1 hk
 ·rintro (w | w)
  ·exact .inl ⟨w.1,w.2.1,w.2.2.1,e.1 w.2.2.2⟩
  ·exact absurd w.1 hk
theorem iw.sf (h:iw x x') (L:Loc nc ns n x) (hd:x'.place=7∨x'.place=8∨x'.place=23→0≤x'.hold∧x'.hold < ns) (e:hP x.place↔hP x'.place) (n8:x'.place≠8):Sf nc ns n x x':=by
 refine ⟨h.loc L hd,h.hh e,fun i=>⟨fun w=>absurd w (h.own i).2,fun w=>absurd w (h.own i).1⟩,fun i d w=>absurd w (h.own i).2,fun i j w=>absurd w (h.nq i j),h.gP n8,fun q=>by rw [h.ak];exact id,fun w=>absurd w.1 h.nw,fun w=>absurd w.1 h.nw⟩
end Sx
namespace Sx
variable {s:ah} {g:Nat}
theorem MInv.loc (h:MInv s) (hg:g < s.gs.length):Loc s.au.length s.aB.length s.gs.length (aa s g):=by
 have:=Inv.loc h.v (g:Int) (by omega) (by omega);rw [fz] at this;exact this
theorem MInv.LS (h:MInv s) (hg:g < s.gs.length) {x:Gr} (f:iw (aa s g) x) (e:hP (aa s g).place↔hP x.place) (nw:¬ cQ x) (n8:x.place≠8):MInv (ai s g x) :=
 h.self hg (f.sf (h.loc hg) (fun q=>absurd (show cQ x by unfold cQ;omega) nw) e n8) f.at_ (fun w=>absurd w nw)
theorem B7 (s:ah) (c:Int) (c':Cn) (h:Nat):aa (aA s c c') h=aa s h:=rfl
theorem LU (s:ah) (c:Int) (c':Su) (h:Nat):aa (aN s c c') h=aa s h:=rfl
theorem Rest.trans {s t u:ah} (a:Rest s t) (b:Rest t u):Rest s u:=by
 refine ⟨b.gl.trans a.gl,b.cl.trans a.cl,b.sl.trans a.sl,b.sN.trans a.sN,b.cN.trans a.cN,b.ca.trans a.ca,b.md.trans a.md,b.fr.trans a.fr,b.dw.trans a.dw,b.dn.trans a.dn,b.B6.trans a.B6,fun g hg=>?_⟩;rw [b.at_ g (by rw [a.gl];exact hg),a.at_ g hg]
theorem Rest.dQ (s:ah) (c:Int) (c':Cn):Rest s (aA s c c'):=⟨rfl,by simp [Sx.aA],rfl,rfl,rfl,rfl,rfl,rfl,rfl,rfl,rfl,fun _ _=>rfl⟩
theorem MInv.chan (h:MInv s) (hg:g < s.gs.length) {x:Gr} {c:Int} {c':Cn} (c0:1≤c) (c1:c≤s.au.length) (lx:Loc s.au.length s.aB.length s.gs.length x) (hc:jT s.gs.length (cn s) g (aa s g) x c c') (ow:∀ i,Own x i↔Own (aa s g) i) (mt:∀ i d,Own x i→Match (aa s g) i d→Match x i d)
  (qx:∀ i j,dI (aa s g) i j→(∀ ch:Int,1≤ch→ch≤s.au.length→i∈(up (cn s) c c' ch).recv∨i∈(up (cn s) c c' ch).send→dI x i j)) (nw:¬ cQ x)
  (gP:¬ c7 x) (wx:∀ q∈x.ak,q∈(aa s g).ak) (wg:lM (aa s g)→lM x) (cg:mX (aa s g)→mX x∧(SR x→SR (aa s g))) (ha:x.at_=(aa s g).at_):MInv (ai (aA s c c') g x):=by
 have r:Rest s (Sx.ai (Sx.aA s c c') g x):=(Rest.dQ s c c').trans (Rest.dK _ hg ha);have e:=fz s g;refine h.rest r (V.of r (Inv.chan h.v (g:=g) (x:=x) (c:=c) (c':=c') (by omega) (by omega) lx ?_ ?_ ?_ ?_ nw gP ?_ ?_ ?_) (fun k k0=>sD hg rfl k k0) (fun ch q=>m8 c0 c1 rfl ch q) (fun _ _=>rfl))
 all_goals rw [e]
 ·exact hc
 ·exact ow
 ·exact mt
 ·exact qx
 ·exact wx
 ·exact wg
 ·exact cg
theorem MInv.xm (h:MInv s) (hg:g < s.gs.length) {x:Gr} (f:iw (aa s g) x) {c:Int} {c':Cn} (c0:1≤c) (c1:c≤s.au.length) (hc:jT s.gs.length (cn s) g (aa s g) x c c') (nw:¬ cQ x) (n8:x.place≠8):MInv (ai (aA s c c') g x):=by
 refine h.chan hg c0 c1 (f.loc (h.loc hg) (fun q=>absurd (show cQ x by unfold cQ;omega) nw)) hc (fun i=>⟨fun w=>absurd w (f.own i).2,fun w=>absurd w (f.own i).1⟩) (fun i d w=>absurd w (f.own i).2) (fun i j w=>absurd w (f.nq i j)) nw (f.gP n8) (fun q=>by rw [f.ak];exact id) (fun w=>absurd w.1 f.nw) (fun w=>absurd w.1 f.nw) f.at_
theorem MInv.kn (h:MInv s) (hg:g < s.gs.length) (e:(aa s g).place≠0∧(aa s g).place≠18∧(aa s g).place≠19) (k:2≤(ag s g).kind∧(ag s g).kind≤6):1≤(ag s g).ch∧(ag s g).ch≤s.au.length:=(h.loc hg).B0 e.1 e.2.1 e.2.2 k.1 k.2
theorem MInv.g9 (h:MInv s) {c:Int} (c0:1≤c) (c1:c≤s.au.length):0≤(cn s c).cap∧(cn s c).cap≤4∧((cn s c).buf.length:Int)≤(cn s c).cap:=Inv.cap h.v c c0 c1
theorem m9 {c:Int}:Sx.aL s c=true↔1≤c∧c≤s.au.length:=by unfold Sx.aL;simp
theorem MInv.s4 (h:MInv s) (hg:g < s.gs.length) (st:(aa s g).status=0) (k:2≤(ag s g).kind∧(ag s g).kind≤6) (e:(aa s g).place=4) (p:Int) (hp:(ag s g).kind=6∧p=21∨(ag s g).kind≠6∧p=5) (hl:(cn s (ag s g).ch).lock=-1):MInv (aG (aA s (ag s g).ch { cn s (ag s g).ch with lock:=g }) g p):=by
 obtain ⟨c0,c1⟩:=h.kn hg (by omega) k;have hk:(aH (aa s g)).kind=(ag s g).kind:=rfl;have L:=h.loc hg;refine h.xm hg (x:={ aa s g with place:=p }) ⟨rfl,rfl,rfl,rfl,rfl,rfl,?_,st,?_,?_,?_,?_,?_,?_,?_⟩ c0 c1 ⟨.inr (.inl ⟨hl,rfl,fun ch=>?_⟩),h.g9 c0 c1,⟨List.Sublist.refl _,List.Sublist.refl _⟩,.inl ⟨rfl,rfl⟩⟩ ?_ ?_
 ·unfold SE;omega
 ·omega
 ·omega
 ·simp only;omega
 ·unfold bJ;simp only;omega
 ·refine ⟨?_,?_,?_,?_⟩ <;> simp only <;> omega
 ·simp only;omega
 ·by_cases w:(aa s g).ak=[]
  ·exact .inl w
  ·have:=L.w1 w;omega
 ·have ho:aH { aa s g with place:=p }=aH (aa s g):=rfl;unfold bH SE;rw [ho,hk];simp only [e]
  constructor
  ·rintro (w | w)
   ·exact .inr w.2.2.1
   ·omega
  ·rintro (w | w)
   ·omega
   ·exact .inl ⟨k.1,k.2,w,by omega⟩
 ·unfold cQ;simp only;omega
 ·simp only;omega
end Sx
namespace Sx
variable {s:ah} {g:Nat} {nc ns n:Int}
theorem VB {x y:Gr} (L:Loc nc ns n x) (k:SR x) (e:x.place=12) (st:x.status=0) (hy:y={ x with place:=13 }):Loc nc ns n y:=by
 have ho:aH y=aH x:=by subst hy;rfl
 have h1:y.ops=x.ops∧y.at_=x.at_∧y.place=13∧y.status=x.status∧y.token=x.token∧y.param=x.param∧y.aI=x.aI∧y.ak=x.ak∧y.ax=x.ax:=by subst hy;simp
 clear hy;obtain ⟨a1,a2,a3,a4,a5,a6,a7,a8,a9,iA,jy,mY,pG,pH,pI,nQ,qP,qQ,pJ,pK,sB,pM⟩:=L
 constructor <;> simp only [Wt,SR,SE,e,st,Own,bJ,dV,ho,h1] at * <;> grind
theorem Own.sr {x y:Gr} {i:Int} (k:SR x) (ho:aH y=aH x) (hm:y.aI=x.aI) (p:11≤y.place∧y.place≤15) (h:Own x i):Own y i:=by
 rcases h with ⟨h0,h | h⟩
 ·exact ⟨h0,.inl ⟨by unfold SR;rw [ho];exact k,p.1,p.2,hm.trans h.2.2.2⟩⟩
 ·exact absurd h.1 k.ne
theorem Own.B8 {x y:Gr} {i:Int} (k:SR x) (ho:aH y=aH x) (hm:y.aI=x.aI) (p:11≤y.place∧y.place≤15) (q:11≤x.place∧x.place≤15):Own y i↔Own x i :=
 ⟨Own.sr (by unfold SR;rw [ho];exact k) ho.symm hm.symm q,Own.sr k ho hm p⟩
theorem MInv.VC (h:MInv s) (hg:g < s.gs.length) (st:(aa s g).status=0) (e:(aa s g).place=12) (k:2≤(ag s g).kind∧(ag s g).kind≤6):MInv (aG (free s (ag s g).ch) g 13):=by
 have L:=h.loc hg;have ks:SR (aa s g):=by
  have:=(L.pl.resolve_left (by omega)).2;have hk:(aH (aa s g)).kind=(ag s g).kind:=rfl;unfold bJ at this;unfold SR;rw [e] at this;omega
 obtain ⟨c0,c1⟩:=h.kn hg (by omega) k;have ho:aH { aa s g with place:=13 }=aH (aa s g):=rfl;have hk:(aH (aa s g)).kind=(ag s g).kind:=rfl;have hh:bH (aa s g) (ag s g).ch:=.inl ⟨k.1,k.2,rfl,by omega⟩;have jF:=ks.ne;have pl:({ aa s g with place:=13 }:Gr).place=13:=rfl;refine h.chan hg c0 c1 (x:={ aa s g with place:=13 }) (VB L ks e st rfl) ⟨.inr (.inr ⟨hh,rfl,fun ch=>?_⟩),h.g9 c0 c1,⟨List.Sublist.refl _,List.Sublist.refl _⟩,.inl ⟨rfl,rfl⟩⟩ ?_ ?_ ?_ ?_ ?_ (fun q=>id) ?_ ?_ rfl
 ·unfold bH;have n1:¬ SE { aa s g with place:=13 }:=jF;simp only [ho,e,jF,n1,false_and,or_false]
  constructor
  ·intro w;omega
  ·intro w;exact absurd w.1.2.2.1 w.2
 ·intro i;exact Own.B8 ks rfl rfl (by rw [pl];decide) (by rw [e];decide)
 ·intro i d _ m;rcases m with m | m
  ·exact .inl m
  ·exact absurd m.1 jF
 ·intro i j q _ _ _ _;rcases q with q | q
  ·exact .inl ⟨q.1,by rw [pl];decide,by rw [pl];decide,q.2.2.2⟩
  ·exact absurd q.1 jF
 ·unfold cQ;simp
 ·unfold c7;simp
 ·rintro ⟨w1,w2,w3,w4⟩
  exact ⟨.inl ⟨ks,by rw [pl];decide,by rw [pl];decide⟩,w2,w3,by simp⟩
 ·rintro ⟨w1,w2,w3⟩
  exact ⟨⟨.inl ⟨ks,by rw [pl];decide,by rw [pl];decide⟩,w2,fun h=>absurd h jF⟩,fun _=>ks⟩
theorem gN.xo {x:Gr} (e:x.place=13) (b:gN nc ns x) {y:Gr} (h1:aH y=aH x) (h2:y.order=x.order) (h3:y.aF=x.aF) (h4:y.k=x.k) (h5:y.ax=x.ax) (h6:y.res.code=x.res.code) (h7:y.place=14):gN nc ns y:=by
 have hc:∀ j,bU y j=bU x j:=fun j=>by unfold bU;rw [h1]
 obtain ⟨b1,b2,b3,b4,b5,b6,b7,b8,b9,lN,pN,sC,xg,zK,zL,xj,zM,xk,xl,zN⟩:=b
 constructor <;> (try simp only [h1,h2,h3,h4,h5,h6,h7,hc]) <;> (try assumption) <;> (try simp)
 ·exact sC (by omega)
 ·exact xj (by omega)
 ·exact xk (by omega)
theorem Sf.xo {x y:Gr} (L:Loc nc ns n x) (e:x.place=13) (st:x.status=0) (h1:y.ops=x.ops) (h2:y.at_=x.at_) (h3:y.aI=x.aI) (h4:y.hold=x.hold) (h5:y.res.code=x.res.code) (h6:y.order=x.order) (h7:y.aF=x.aF) (h8:y.ax=x.ax) (h9:y.ak=x.ak) (mU:y.k=x.k) (lI:y.param=x.param) (lJ:y.aU=x.aU) (iq:y.place=14)
  (hs:x.token=true∧y.token=false∧y.status=0∨x.token=false∧y.token=false∧y.status=1):Sf nc ns n x y:=by
 have ho:aH y=aH x:=by unfold aH;rw [h1,h2]
 have w0:Wt x:=by
  have:=(L.pl.resolve_left (by omega)).2;unfold bJ at this;unfold Wt SR SE;rw [e] at this ⊢;omega
 have tU:SR y↔SR x:=by unfold SR;rw [ho]
 have jU:SE y↔SE x:=by unfold SE;rw [ho]
 have w1:Wt y:=by
  rcases w0 with w | w
  ·exact .inl ⟨tU.2 w.1,by rw [iq];decide,by rw [iq];decide⟩
  ·exact .inr ⟨jU.2 w.1,.inr (.inl iq)⟩
 have ow:∀ i,Own y i↔Own x i:=by
  intro i;unfold Own;rw [tU,jU,iq,e,h3,h8];simp
 refine ⟨?_,?_,ow,?_,?_,?_,fun q=>by rw [h9];exact id,?_,?_⟩
 ·obtain ⟨a1,a2,a3,a4,a5,a6,a7,a8,a9,iA,jy,mY,pG,pH,pI,nQ,qP,qQ,pJ,pK,sB,pM⟩:=L
  constructor <;> (try simp only [h1,h2,h3,h4,h9,lI,lJ,ho,tU,jU]) <;> (try assumption)
  ·rw [iq];rw [e] at a5;refine .inr ⟨(a5.resolve_left (by decide)).1,?_⟩;have:=(a5.resolve_left (by decide)).2;unfold bJ at this ⊢;omega
  ·intro _ _ _;exact a6 (by omega) (by omega) (by omega)
  ·omega
  ·intro _;exact .inl iq
  ·rw [iq];intro h;exact absurd h (by decide)
  ·intro h;omega
  ·intro h;rcases hs with hs | hs <;> (rw [hs.2.1] at h;cases h)
  ·intro h;have:=mY h;omega
  ·rw [iq];intro h;exact absurd h (by decide)
  ·intro h;omega
  ·intro h1 h2 h3;exact qP h1 (by omega) (by omega)
  ·intro _ h;rcases hs with hs | hs
   ·exact (jy hs.1).2.1
   ·omega
  ·intro h;exact ⟨w1,(ow _).2 (pK h).2⟩
  ·intro h1 _;exact (pM h1 (by unfold dV;omega)).xo e ho h6 h7 mU h8 h5 iq
 ·intro ch;unfold bH;rw [jU,iq,e,ho,h7,mU];simp
 ·intro i d _ m;unfold Match at m ⊢;have hc:∀ j,bU y j=bU x j:=fun j=>by unfold bU;rw [ho]
  rw [tU,jU,ho,h8,h6,hc];exact m
 ·intro i j q;unfold dI at q ⊢;rw [tU,jU,iq,h3,lI,h8,h6,mU,h5];rcases q with q | q
  ·exact .inl ⟨q.1,by decide,by decide,q.2.2.2⟩
  ·exact .inr ⟨q.1,q.2.1,q.2.2.1,q.2.2.2.1,.inr (.inr (.inl rfl))⟩
 ·unfold c7;rw [iq];decide
 ·rintro ⟨v1,v2,v3,v4⟩
  refine ⟨w1,by rw [lI];exact v2,?_,?_⟩
  ·rcases hs with hs | hs <;> exact hs.2.1
  ·intro _;rcases hs with hs | hs
   ·rw [hs.1] at v3;cases v3
   ·omega
 ·rintro ⟨v1,v2,v3⟩
  exact ⟨⟨w1,by rw [lI];exact v2,fun h=>by rw [lJ];exact v3 (jU.1 h)⟩,tU.1⟩
theorem MInv.xo (h:MInv s) (hg:g < s.gs.length) (st:(aa s g).status=0) (e:(aa s g).place=13):MInv (fF (aG s g 14) g):=by
 have L:=h.loc hg;have hs:fF (aG s g 14) g=ai s g (if (aa s g).token=true then { aa s g with place:=14,token:=false } else { aa s g with place:=14,status:=1 }):=by
  unfold fF aG;simp only [je s g g _ hg,if_true,st,true_and];unfold ai;simp only [List.set_set]
 rw [hs]
 cases ht:(aa s g).token
 ·rw [if_neg (by simp)];exact h.self hg (Sf.xo L e st rfl rfl rfl rfl rfl rfl rfl rfl rfl rfl rfl rfl rfl (.inr ⟨ht,ht,rfl⟩)) rfl (fun w=>by unfold cQ at w;simp at w)
 ·rw [if_pos rfl];exact h.self hg (Sf.xo L e st rfl rfl rfl rfl rfl rfl rfl rfl rfl rfl rfl rfl rfl (.inl ⟨ht,rfl,st⟩)) rfl (fun w=>by unfold cQ at w;simp at w)
end Sx
namespace Sx
variable {s:ah} {g:Nat} {nc ns n:Int}
theorem VD {C:List (List Int)} {M:List Int} {f:Nat} {H:List Bool} {x:Int}:x∈M ++ C.flatten↔1≤Po.dZ ⟨C,M,f,H⟩ x:=by
 unfold Po.dZ;simp only;rw [List.mem_append,← List.count_pos_iff (a:=x) (l:=M),← List.count_pos_iff (a:=x) (l:=C.flatten)];omega
theorem nN {s:ah} {H:List Bool} {f:Nat} (hf:s.fresh=f) {x:Int}:gX s x=true↔0≤x∧x < s.fresh∧Po.dZ ⟨s.cache,s.middle,f,H⟩ x=0:=by
 unfold gX uO;simp only [Bool.and_eq_true,decide_eq_true_eq,Bool.not_eq_true',List.contains_eq_mem,decide_eq_false_iff_not];rw [VD (f:=f) (H:=H)];omega
theorem LV (h:MInv s) (hg:g < s.gs.length):s.cache[g]?=some (s.cache.getD g []):=by
 have:g < s.cache.length:=by rw [h.ca];exact hg
 rw [List.getD_eq_getElem?_getD,List.getElem?_eq_getElem this];rfl
structure LW (s t:ah) (g:Nat) (i:Int):Prop where
 i0:0≤i
 i1:i < s.aB.length
 nl:gX s i=false
 live:∀ j,gX t j=true↔gX s j=true∨j=i
 gs:t.gs=s.gs
 au:t.au=s.au
 aB:t.aB=s.aB
 sN:t.dh=s.dh
 cN:t.bP=s.bP
 dG:t.dG=s.dG
 drawn:t.drawn=s.drawn
 done:t.done=s.done
 step:t.step=s.step
 cl:t.cache.length=s.cache.length
 f0:0≤t.fresh
 po:∃ H,Po.Inv t.dh.toNat t.bP.toNat ⟨t.cache,t.middle,t.fresh.toNat,H⟩
theorem B9 (h:MInv s) (hg:g < s.gs.length) (ok:(aQ s g).2.2=true):LW s (aQ s g).1 g (aQ s g).2.1:=by
 obtain ⟨H,I⟩:=h.po;have hf:s.fresh=(s.fresh.toNat:Int):=by have:=h.f0;omega
 have hsn:=h.sn;have hc:=LV h hg;have m1:=I.m1;unfold aQ at ok ⊢
 split at ok
 ·rename_i e
  split at ok
  ·rename_i e2;rw [if_pos e,if_pos e2];have e0:=Po.I9 m1 e;have nc:Po.dZ ⟨s.cache,s.middle,s.fresh.toNat,H⟩ s.fresh=0:=by
    by_cases q:1≤Po.dZ ⟨s.cache,s.middle,s.fresh.toNat,H⟩ s.fresh
    ·have:=(I.bound _ q).2;simp only at this;omega
    ·omega
   refine ⟨h.f0,by simp only;omega,?_,?_,rfl,rfl,rfl,rfl,rfl,rfl,rfl,rfl,rfl,rfl,by simp only;have:=h.f0;omega,?_⟩
   ·cases q:gX s s.fresh
    ·rfl
    ·have:=(nN (H:=H) hf).1 q;omega
   ·intro j;rw [nN (H:=H) hf,nN (s:={ s with fresh:=s.fresh + 1 }) (H:=H) (f:=s.fresh.toNat + 1) (by simp only;omega)];simp only;have e3:Po.dZ ⟨s.cache,s.middle,s.fresh.toNat + 1,H⟩ j=Po.dZ ⟨s.cache,s.middle,s.fresh.toNat,H⟩ j:=rfl;rw [e3]
    constructor
    ·intro w
     by_cases q:j=s.fresh
     ·exact .inr q
     ·exact .inl ⟨w.1,by omega,w.2.2⟩
    ·rintro (w | w)
     ·exact ⟨w.1,by omega,w.2.2⟩
     ·subst w;exact ⟨h.f0,by omega,nc⟩
   ·refine ⟨H,?_⟩;simp only;have:(s.fresh + 1).toNat=s.fresh.toNat + 1:=by have:=h.f0;omega
    rw [this];exact I.fresh (by simp only;omega)
  ·cases ok
 ·rename_i e;rw [if_neg e];obtain ⟨b0,b1⟩:0≤(Po.own s.bP.toNat (s.cache.getD g []) s.middle).getLastD 0∧Po.dZ ⟨s.cache,s.middle,s.fresh.toNat,H⟩ ((Po.own s.bP.toNat (s.cache.getD g []) s.middle).getLastD 0)=1:=by
   have pO:=Po.Eo (size:=0) (s:=⟨s.cache,s.middle,s.fresh.toNat,H⟩) (most:=s.bP.toNat) hc e ((Po.own s.bP.toNat (s.cache.getD g []) s.middle).getLastD 0);have hi:Po.ind ((Po.own s.bP.toNat (s.cache.getD g []) s.middle).getLastD 0) ((Po.own s.bP.toNat (s.cache.getD g []) s.middle).getLastD 0)=1:=by simp [Po.ind]
   simp only at pO;rw [hi] at pO;have h1:1≤Po.dZ ⟨s.cache,s.middle,s.fresh.toNat,H⟩ ((Po.own s.bP.toNat (s.cache.getD g []) s.middle).getLastD 0):=by omega
   exact ⟨(I.bound _ h1).1,by have:=I.one ((Po.own s.bP.toNat (s.cache.getD g []) s.middle).getLastD 0);omega⟩
  have pO:=fun a=>Po.Eo (size:=0) (s:=⟨s.cache,s.middle,s.fresh.toNat,H⟩) (most:=s.bP.toNat) hc e a
  have Ca:=I.qt hc e;have kO:=(I.bound _ (Nat.le_of_eq b1.symm)).2;simp only at pO kO Ca;unfold Po.qt at pO Ca;simp only at pO Ca;generalize (Po.own s.bP.toNat (s.cache.getD g []) s.middle).getLastD 0=i at *;generalize Po.own s.bP.toNat (s.cache.getD g []) s.middle=ow at *;refine ⟨b0,?_,?_,?_,rfl,rfl,rfl,rfl,rfl,rfl,rfl,rfl,rfl,by simp,h.f0,?_⟩
  ·have:=I.fl;simp only at this kO ⊢;omega
  ·cases q:gX s i
   ·rfl
   ·have:=((nN (H:=H) hf).1 q).2.2;omega
  ·intro j;have hj:=pO j;rw [nN (H:=H) hf,nN (s:={ s with cache:=s.cache.set g ow.dropLast,middle:=Po.bp s.bP.toNat (s.cache.getD g []) s.middle }) (H:=H.set i.toNat false) (f:=s.fresh.toNat) hf];simp only;unfold Po.ind at hj
   by_cases q:i=j
   ·rw [if_pos q] at hj;subst q
    constructor
    ·intro _;exact .inr rfl
    ·intro _;exact ⟨b0,by omega,by omega⟩
   ·rw [if_neg q] at hj
    constructor
    ·intro w;exact .inl ⟨w.1,w.2.1,by omega⟩
    ·rintro (w | w)
     ·exact ⟨w.1,w.2.1,by omega⟩
     ·exact absurd w.symm q
  ·exact ⟨_,Ca⟩
structure VE (s t:ah) (g:Nat) (i:Int):Prop where
 live:∀ j,gX t j=true↔gX s j=true∧j≠i
 gs:t.gs=s.gs
 au:t.au=s.au
 aB:t.aB=s.aB
 sN:t.dh=s.dh
 cN:t.bP=s.bP
 dG:t.dG=s.dG
 drawn:t.drawn=s.drawn
 done:t.done=s.done
 step:t.step=s.step
 cl:t.cache.length=s.cache.length
 f0:0≤t.fresh
 po:∃ H,Po.Inv t.dh.toNat t.bP.toNat ⟨t.cache,t.middle,t.fresh.toNat,H⟩
theorem VF (h:MInv s) (hg:g < s.gs.length) {i:Int} (hl:gX s i=true):VE s (eE s g i) g i:=by
 obtain ⟨H,I⟩:=h.po;have hf:s.fresh=(s.fresh.toNat:Int):=by have:=h.f0;omega
 have hc:=LV h hg;have ki:=(nN (H:=H) hf).1 hl;have hL:Po.live s.fresh.toNat H i=true:=by
  have:=I.live i;simp only at this;rw [this];simp;omega
 have Ga:=I.qu hc hL;have pO:=fun a=>Po.Jb (most:=s.bP.toNat) (s:=⟨s.cache,s.middle,s.fresh.toNat,H⟩) hc i a
 unfold eE;rw [if_pos hl];unfold Po.qu at Ga pO;simp only at Ga pO;refine ⟨?_,rfl,rfl,rfl,rfl,rfl,rfl,rfl,rfl,rfl,by simp,h.f0,_,Ga⟩;intro j;have hj:=pO j;rw [nN (H:=H) hf,nN (s:={ s with cache:=s.cache.set g ((s.cache.getD g []).take ((s.cache.getD g []).length - Po.eD s.bP.toNat (s.cache.getD g [])) ++ [i]),middle:=s.middle ++ (s.cache.getD g []).reverse.take (Po.eD s.bP.toNat (s.cache.getD g [])) }) (H:=H.set i.toNat true) (f:=s.fresh.toNat) hf];simp only;unfold Po.ind at hj
 by_cases q:i=j
 ·rw [if_pos q] at hj
  constructor
  ·intro w;omega
  ·intro w;exact absurd q.symm w.2
 ·rw [if_neg q] at hj
  constructor
  ·intro w;exact ⟨⟨w.1,w.2.1,by omega⟩,fun e=>q e.symm⟩
  ·intro w;exact ⟨w.1.1,w.1.2.1,by omega⟩
end Sx
namespace Sx
variable {s t:ah} {g:Nat} {nc ns n:Int}
theorem at_sum {s t:ah} {g:Nat} {x:Gr} (hg:g < s.gs.length) (e:t.gs=s.gs.set g x) (ha:x.at_=(aa s g).at_):oJ t=oJ s:=by
 refine LP (by rw [e,List.length_set]) fun h _=>?_
 rw [F8 s s.gs rfl g h x hg t e]
 split
 ·rename_i c;subst c;exact ha
 ·rfl
theorem LX {s t:ah} (e:t.au=s.au) (c:Int):cn t c=cn s c:=by unfold cn;rw [e]
theorem MInv.take (h:MInv s) (hg:g < s.gs.length) {i:Int} (T:LW s t g i) {x:Gr} {d:Su} (lx:Loc s.au.length s.aB.length s.gs.length x) (hh:∀ ch,bH x ch↔bH (aa s g) ch)
  (ow:∀ j,Own x j↔Own (aa s g) j∨j=i) (mt:∀ j,Own (aa s g) j→Match x j (su s j)) (md:Match x i d) (dg:d.g=g) (nq:∀ j k,¬ dI (aa s g) j k) (nw:¬ cQ x) (gP:¬ c7 x) (wk:x.ak=(aa s g).ak) (wt:¬ Wt (aa s g)) (ha:x.at_=(aa s g).at_) :
  MInv (ai (aN t i d) g x):=by
 have e:=fz s g;have lP:(ai (aN t i d) g x).gs=s.gs.set g x:=by simp only [ai,aN];rw [T.gs]
 have pR:(ai (aN t i d) g x).aB=s.aB.set i.toNat d:=by simp only [ai,aN];rw [T.aB]
 have vu:(ai (aN t i d) g x).au=s.au:=T.au;have hv:=Inv.take h.v (g:=g) (i:=i) (x:=x) (d:=d) (by omega) (by omega) T.i0 T.i1 (by simp [T.nl]) lx (by rw [e];exact hh) (by rw [e];exact ow) (by rw [e];exact mt) md dg (by rw [e];exact nq) nw gP (by rw [e];exact wk) (by rw [e];exact wt);obtain ⟨H,hH⟩:=T.po;refine ⟨?_,?_,?_,?_,?_,?_,?_,?_,?_,T.f0,⟨H,hH⟩,?_,?_,?_,?_,?_⟩
 ·unfold V;rw [lP,pR,vu,List.length_set,List.length_set];refine hv.tS (fun k k0 _=>sD hg lP k k0) (fun ch _ _=>LX vu ch) (fun j j0 _=>B5 T.i0 T.i1 pR j j0) (fun j _ _=>?_);exact T.live j
 ·rw [lP,List.length_set];exact h.n1
 ·rw [lP,List.length_set];exact h.n8
 ·rw [vu];exact h.c8
 ·rw [pR,List.length_set];exact h.sn.trans T.sN.symm
 ·rw [pR,List.length_set];exact h.mw
 ·show 1≤t.bP;rw [T.cN];exact h.c1
 ·show t.bP≤16;rw [T.cN];exact h.tV
 ·rw [lP,List.length_set];exact T.cl.trans h.ca
 ·show 0≤t.drawn;rw [T.drawn];exact h.sE
 ·show t.drawn≤t.dG.length;rw [T.drawn,T.dG];exact h.tW
 ·show ∀ x∈t.dG,_;rw [T.dG];exact h.du
 ·show t.dG.length≤1000;rw [T.dG];exact h.d5
 ·rw [at_sum hg lP ha];show (t.done.length:Int)=_;rw [T.done];exact h.dn
theorem MInv.LY (h:MInv s) (hg:g < s.gs.length) {i:Int} (hi:Own (aa s g) i) {x:Gr} (lx:Loc s.au.length s.aB.length s.gs.length x) (hh:∀ ch,bH x ch↔bH (aa s g) ch)
  (ow:∀ j,Own x j↔Own (aa s g) j∧j≠i) (mt:∀ j d,Own x j→Match (aa s g) j d→Match x j d) (nq:∀ j k,¬ dI (aa s g) j k) (nw:¬ cQ x) (gP:¬ c7 x) (wk:x.ak=(aa s g).ak) (wt:¬ Wt (aa s g)) (ha:x.at_=(aa s g).at_) :
  MInv (ai (cy s g i) g x):=by
 have e:=fz s g;have vv:=Inv.own h.v (g:Int) (by omega) (by omega) i (by rw [e];exact hi);have T:=VF h hg vv.2.2.2;have i0:=hi.1;have i1:=vv.1;unfold cy;generalize eE s g i=t at *;have lP:(ai (aN t i fB) g x).gs=s.gs.set g x:=by simp only [ai,aN];rw [T.gs]
 have pR:(ai (aN t i fB) g x).aB=s.aB.set i.toNat fB:=by simp only [ai,aN];rw [T.aB]
 have vu:(ai (aN t i fB) g x).au=s.au:=T.au;have hv:=Inv.cy h.v (g:=g) (i:=i) (x:=x) (by omega) (by omega) (by rw [e];exact hi) lx (by rw [e];exact hh) (by rw [e];exact ow) (fun j hj=>mt j _ hj (by
  have:=(Inv.own h.v (g:Int) (by omega) (by omega) j (by rw [e];exact ((ow j).1 hj).1)).2.1;rw [e] at this;exact this)) (by rw [e];exact nq) nw gP (by rw [e];exact wk) (by rw [e];exact wt)
 obtain ⟨H,hH⟩:=T.po;refine ⟨?_,?_,?_,?_,?_,?_,?_,?_,?_,T.f0,⟨H,hH⟩,?_,?_,?_,?_,?_⟩
 ·unfold V;rw [lP,pR,vu,List.length_set,List.length_set];refine hv.tS (fun k k0 _=>sD hg lP k k0) (fun ch _ _=>LX vu ch) (fun j j0 _=>B5 i0 i1 pR j j0) (fun j _ _=>?_);exact T.live j
 ·rw [lP,List.length_set];exact h.n1
 ·rw [lP,List.length_set];exact h.n8
 ·rw [vu];exact h.c8
 ·rw [pR,List.length_set];exact h.sn.trans T.sN.symm
 ·rw [pR,List.length_set];exact h.mw
 ·show 1≤t.bP;rw [T.cN];exact h.c1
 ·show t.bP≤16;rw [T.cN];exact h.tV
 ·rw [lP,List.length_set];exact T.cl.trans h.ca
 ·show 0≤t.drawn;rw [T.drawn];exact h.sE
 ·show t.drawn≤t.dG.length;rw [T.drawn,T.dG];exact h.tW
 ·show ∀ x∈t.dG,_;rw [T.dG];exact h.du
 ·show t.dG.length≤1000;rw [T.dG];exact h.d5
 ·rw [at_sum hg lP ha];show (t.done.length:Int)=_;rw [T.done];exact h.dn
theorem VG {x y:Gr} (L:Loc nc ns n x) (k:SR x) (e:x.place=15) (st:x.status=0) (hy:y={ x with place:=18,aI:=-1 }):Loc nc ns n y:=by
 have ho:aH y=aH x:=by subst hy;rfl
 have h1:y.ops=x.ops∧y.at_=x.at_∧y.place=18∧y.status=x.status∧y.token=x.token∧y.param=x.param∧y.aI=-1∧y.ak=x.ak∧y.ax=x.ax:=by subst hy;simp
 clear hy;obtain ⟨a1,a2,a3,a4,a5,a6,a7,a8,a9,iA,jy,mY,pG,pH,pI,nQ,qP,qQ,pJ,pK,sB,pM⟩:=L
 constructor <;> simp only [Wt,SR,SE,e,st,Own,bJ,dV,ho,h1] at * <;> grind
theorem mz (s:ah) (g:Nat) (x:Gr) (p:Int) (hg:g < s.gs.length):aG (ai s g x) g p=ai s g { x with place:=p }:=by
 unfold aG;rw [je s g g x hg,if_pos rfl];unfold ai;simp only [List.set_set]
theorem MInv.VH (h:MInv s) (hg:g < s.gs.length) (st:(aa s g).status=0) (e:(aa s g).place=15) (k:2≤(ag s g).kind∧(ag s g).kind≤6):MInv (aG (ai (cy s g (aa s g).aI) g { aa s g with aI:=-1 }) g 18):=by
 have L:=h.loc hg;have ks:SR (aa s g):=by
  have:=(L.pl.resolve_left (by omega)).2;have hk:(aH (aa s g)).kind=(ag s g).kind:=rfl;unfold bJ at this;unfold SR;rw [e] at this;omega
 have jF:=ks.ne;have hm:=L.mi ks (by omega) (by omega);have vv:Own (aa s g) (aa s g).aI:=⟨hm.1,.inl ⟨ks,by omega,by omega,rfl⟩⟩
 have fY:g < (cy s g (aa s g).aI).gs.length:=by
  unfold cy aN;simp only;unfold eE;split <;> exact hg
 rw [mz _ _ _ _ fY];have ho:aH { aa s g with place:=18,aI:=-1 }=aH (aa s g):=rfl;refine h.LY hg vv (x:={ aa s g with place:=18,aI:=-1 }) (VG L ks e st rfl) ?_ ?_ ?_ ?_ ?_ ?_ rfl ?_ rfl
 ·intro ch;unfold bH;have n1:¬ SE { aa s g with place:=18,aI:=-1 }:=jF;simp only [ho,e,jF,n1,false_and,or_false];omega
 ·intro j;have n1:¬ SE { aa s g with place:=18,aI:=-1 }:=jF
  constructor
  ·rintro ⟨_,w | w⟩
   ·have:=w.2.2.1;simp at this
   ·exact absurd w.1 n1
  ·rintro ⟨⟨_,w | w⟩,w2⟩
   ·exact absurd w.2.2.2.symm w2
   ·exact absurd w.1 jF
 ·intro j d w;rcases w with ⟨_,w | w⟩
  ·have:=w.2.2.1;simp at this
  ·exact absurd w.1 jF
 ·rintro i j (q | q)
  ·omega
  ·exact absurd q.1 jF
 ·unfold cQ;simp
 ·unfold c7;simp
 ·rintro (w | w)
  ·omega
  ·exact absurd w.1 jF
end Sx
namespace Sx
variable {s t:ah} {g:Nat} {nc ns n:Int}
theorem MInv.VI (h:MInv s) (hg:g < s.gs.length) (st:(aa s g).status=0) (e:(aa s g).place=16) (k:2≤(ag s g).kind∧(ag s g).kind≤6):MInv (ak (free s (ag s g).ch) g):=by
 obtain ⟨c0,c1⟩:=h.kn hg (by omega) k;have hk:(aH (aa s g)).kind=(ag s g).kind:=rfl;have hh:bH (aa s g) (ag s g).ch:=.inl ⟨k.1,k.2,rfl,by omega⟩;have key:∀ p:Int,(p=17∧(aa s g).ak≠[]∨p=18∧(aa s g).ak=[])→MInv (aG (free s (ag s g).ch) g p):=by
  intro p hp;refine h.xm hg (x:={ aa s g with place:=p }) ⟨rfl,rfl,rfl,rfl,rfl,rfl,?_,st,?_,?_,?_,?_,?_,?_,?_⟩ c0 c1 ⟨.inr (.inr ⟨hh,rfl,fun ch=>?_⟩),h.g9 c0 c1,⟨List.Sublist.refl _,List.Sublist.refl _⟩,.inl ⟨rfl,rfl⟩⟩ ?_ ?_
  ·unfold SE;omega
  ·omega
  ·omega
  ·simp only;omega
  ·unfold bJ;simp only;omega
  ·refine ⟨?_,?_,?_,?_⟩ <;> simp only
   ·omega
   ·omega
   ·intro q;rcases hp with hp | hp
    ·exact hp.2
    ·omega
   ·omega
  ·simp only;omega
  ·simp only;rcases hp with hp | hp
   ·exact .inr (.inr (.inl hp.1))
   ·exact .inl hp.2
  ·have ho:aH { aa s g with place:=p }=aH (aa s g):=rfl;unfold bH SE;rw [ho,hk];simp only [e]
   constructor
   ·intro w;omega
   ·rintro ⟨w | w,w2⟩
    ·exact absurd w.2.2.1 w2
    ·omega
  ·unfold cQ;simp only;omega
  ·simp only;omega
 unfold ak
 split
 ·rename_i q;refine key 17 (.inl ⟨rfl,fun w=>?_⟩);have:(aa (free s (ag s g).ch) g).ak=(aa s g).ak:=rfl;rw [this,w] at q;simp at q
 ·rename_i q;refine key 18 (.inr ⟨rfl,?_⟩);have:(aa (free s (ag s g).ch) g).ak=(aa s g).ak:=rfl;rw [this] at q;exact List.length_eq_zero_iff.1 (by omega)
theorem Rest.two (s:ah) {g p:Nat} {x y:Gr} (hg:g < s.gs.length) (hp:p < s.gs.length) (hx:x.at_=(aa s g).at_) (hy:y.at_=(aa s p).at_) (bG:p≠g):Rest s (Sx.ai (Sx.ai s p y) g x):=by
 refine (Rest.dK s hp hy).trans (Rest.dK _ (by simpa [Sx.ai] using hg) ?_);rw [je s p g y hp,az];exact hx
theorem VJ {x y:Gr} {p:Int} {l:List Int} (L:Loc nc ns n x) (e:x.place=17) (st:x.status=0) (hw:x.ak=p :: l) (h1:y.ops=x.ops) (h2:y.at_=x.at_) (h3:y.status=x.status) (h4:y.token=x.token) (h5:y.param=x.param) (h6:y.ak=l) (hp:y.place=17∧l≠[]∨y.place=18∧l=[])
  (nP:x.param=-1) (nT:x.token=false):Loc nc ns n y:=by
 have ho:aH y=aH x:=by unfold aH;rw [h1,h2]
 have LZ:=L.w4;have Cb:=L.w3;rw [hw] at LZ Cb;have nh:=List.nodup_cons.1 LZ;have hy:y.place=17∨y.place=18:=by omega
 have mg:=(L.pl.resolve_left (by omega))
 have jC:=L.jC;have mk:=L.B0;have p0:=L.p0
 constructor
 ·rw [h1];exact L.oI
 ·rw [h1];exact L.iC
 ·rw [h2];exact L.a0
 ·rw [h1,h2];exact L.a1
 ·rw [h1,h2,ho];refine .inr ⟨mg.1,?_⟩;rcases hp with c | c
  ·rw [c.1,← e];exact mg.2
  ·rw [c.1];exact .inl rfl
 ·rw [ho];intro _ _ _;exact mk (by omega) (by omega) (by omega)
 ·rw [h3];exact jC
 ·rw [h3];omega
 ·omega
 ·rw [h3];omega
 ·rw [h4,nT];simp
 ·intro c;rw [h6] at c;rcases hp with d | d
  ·exact .inr (.inl d.1)
  ·exact absurd d.2 c
 ·intro c;rw [h6];rcases hp with d | d
  ·exact d.2
  ·omega
 ·rw [h6];exact fun p hp=>Cb p (List.mem_cons_of_mem _ hp)
 ·rw [h6];exact nh.2
 ·omega
 ·intro _ c1 c2;omega
 ·rw [h5];exact p0
 ·omega
 ·rw [h5];omega
 ·rw [h5];omega
 ·intro _ c;unfold dV at c;omega
theorem MInv.VK (h:MInv s) (hg:g < s.gs.length) (st:(aa s g).status=0) (e:(aa s g).place=17) :
  MInv (ak (ai (ready s ((aa s g).ak.headD 0).toNat) g { aa s g with ak:=(aa s g).ak.tail }) g):=by
 have L:=h.loc hg;have eA:=fz s g;obtain ⟨p,l,hw⟩:∃ p l,(aa s g).ak=p :: l:=by
  cases w:(aa s g).ak with
  | nil=>exact absurd w (L.w2 e)
  | cons p l=>exact ⟨p,l,rfl⟩
 have hp:=L.w3 p (by rw [hw];simp);obtain ⟨k1,k2,k3,k4,k5⟩:=Inv.wk h.v (g:Int) (by omega) (by omega) p (by rw [eA,hw];simp);obtain ⟨q,rfl⟩:∃ q:Nat,p=q:=⟨p.toNat,by omega⟩
 have hq:q < s.gs.length:=by omega
 have zI:q≠g:=by omega
 rw [fz] at k2 k3 k4 k5;have Lq:=h.loc hq;have eY:(aa s q).status=0∨(aa s q).status=1:=by
  rcases Lq.jC with w | w | w
  ·exact .inl w
  ·exact .inr w
  ·have:=(Lq.FX w).1;rcases k2 with k2 | k2 <;> omega
 obtain ⟨y,hy⟩:∃ y,(if (aa s q).status=1 then { aa s q with status:=0 } else if (aa s q).status=0 then { aa s q with token:=true } else aa s q)=y:=⟨_,rfl⟩
 have er:ready s q=ai s q y:=by unfold ready;rw [hy]
 have VL:((aa s g).ak.headD 0).toNat=q:=by rw [hw];simp
 have VM:(aa s g).ak.tail=l:=by rw [hw];rfl
 rw [VL,VM,er];obtain ⟨pl,mg,hs⟩:∃ pl:Int,(pl=17∧l≠[]∨pl=18∧l=[])∧ak (ai (ai s q y) g { aa s g with ak:=l }) g=ai (ai s q y) g { aa s g with ak:=l,place:=pl }:=by
  have fY:g < (ai s q y).gs.length:=by simpa [ai] using hg
  by_cases c:l=[]
  ·refine ⟨18,.inr ⟨rfl,c⟩,?_⟩;unfold ak;rw [je _ g g _ fY,if_pos rfl,if_neg (by simp [c]),mz _ _ _ _ fY]
  ·refine ⟨17,.inl ⟨rfl,c⟩,?_⟩;unfold ak;rw [je _ g g _ fY,if_pos rfl,if_pos (List.length_pos_iff.2 c),mz _ _ _ _ fY]
 rw [hs];have py:Part (aa s q) y∧y.param=(aa s q).param∧y.aU=(aa s q).aU∧((aa s q).status=1∧y.status=0∧y.token=(aa s q).token∨(aa s q).status=0∧y.status=0∧y.token=true):=by
  rw [← hy];rcases eY with w | w
  ·rw [az,if_pos w];exact ⟨⟨rfl,rfl,rfl,rfl,rfl,rfl,rfl,rfl,rfl,rfl,rfl⟩,rfl,rfl,.inr ⟨w,w,rfl⟩⟩
  ·rw [if_pos w];exact ⟨⟨rfl,rfl,rfl,rfl,rfl,rfl,rfl,rfl,rfl,rfl,rfl⟩,rfl,rfl,.inl ⟨w,rfl,rfl⟩⟩
 obtain ⟨x,hx⟩:∃ x,({ aa s g with ak:=l,place:=pl }:Gr)=x:=⟨_,rfl⟩
 have x1:x.ops=(aa s g).ops∧x.at_=(aa s g).at_∧x.place=pl∧x.status=(aa s g).status∧x.token=(aa s g).token∧x.param=(aa s g).param∧x.aI=(aa s g).aI∧x.ax=(aa s g).ax:=by subst hx;simp
 have x2:x.ak=l:=by subst hx;rfl
 have ho:aH x=aH (aa s g):=by subst hx;rfl
 rw [hx];have L8:x.place=17∨x.place=18:=by rw [x1.2.2.1];exact mg.imp (fun w=>w.1) (fun w=>w.1)
 have L9:∀ (z:Gr) i,z.place=17∨z.place=18→¬ Own z i:=by
  rintro z i c ⟨_,w | w⟩
  ·have:=w.2.2.1;omega
  ·have:=w.2.1;omega
 have nS:∀ i,¬ Own (aa s g) i∧¬ Own x i:=fun i=>⟨L9 _ i (.inl e),L9 _ i L8⟩
 have VN:¬ Wt (aa s g):=by rintro (w | w) <;> omega
 have sF:∀ i j,¬ dI (aa s g) i j:=by rintro i j (w | w) <;> omega
 have nY:∀ ch,bH x ch↔bH (aa s g) ch:=by
  have Ma:∀ (z:Gr) ch,z.place=17∨z.place=18→¬ bH z ch:=by
   rintro z ch c (w | w)
   ·have:=w.2.2.2;omega
   ·have:=w.2;omega
  exact fun ch=>⟨fun w=>absurd w (Ma _ _ L8),fun w=>absurd w (Ma _ _ (.inl e))⟩
 have nP:(aa s g).param=-1:=by
  have:=L.p0
  by_cases c:0≤(aa s g).param
  ·exact absurd (L.p2 c).2 (nS _).1
  ·omega
 have nT:(aa s g).token=false:=by
  cases c:(aa s g).token
  ·rfl
  ·have:=(L.tk c).2.1;omega
 have lx:Loc s.au.length s.aB.length s.gs.length x:=VJ L e st hw x1.1 x1.2.1 x1.2.2.2.1 x1.2.2.2.2.1 x1.2.2.2.2.2.1 x2 (by rw [x1.2.2.1];exact mg) nP nT;refine h.rest (by subst hx;exact Rest.two s hg hq rfl py.1.at_ zI) (V.of (by subst hx;exact Rest.two s hg hq rfl py.1.at_ zI) (Inv.readies h.v (g:=g) (p:=(q:Int)) (x:=x) (y:=y) (l:=l) (by omega) (by omega) lx ?_ ?_ ?_ ?_ ?_ ?_ ?_ x2 ?_ ?_ ?_ ?_ ?_) (fun k k0=>F9 hg hq rfl k k0) (fun _ _=>rfl) (fun _ _=>rfl))
 all_goals (try rw [eA]);(try rw [fz])
 ·exact nY
 ·intro i;exact ⟨fun w=>absurd w (nS i).2,fun w=>absurd w (nS i).1⟩
 ·intro i d w;exact absurd w (nS i).2
 ·exact sF
 ·unfold cQ;omega
 ·unfold c7;omega
 ·exact hw
 ·exact VN
 ·exact py.1
 ·exact py.2.1
 ·exact py.2.2.1
 ·exact py.2.2.2
theorem MInv.common (h:MInv s) (hg:g < s.gs.length) (st:(aa s g).status=0) (k:2≤(ag s g).kind∧(ag s g).kind≤6∨(aa s g).place=13∨(aa s g).place=17):MInv (common s g).1:=by
 unfold Sx.common;simp only
 by_cases e4:(aa s g).place=4
 ·rw [if_pos e4];have k:=k.resolve_right (by omega);unfold tryLock
  by_cases hl:(cn s (ag s g).ch).lock=-1
  ·simp only [if_pos hl]
   by_cases k6:(ag s g).kind=6
   ·simp only [if_pos k6,if_true];exact h.s4 hg st k e4 21 (.inl ⟨k6,rfl⟩) hl
   ·simp only [if_neg k6,if_true];exact h.s4 hg st k e4 5 (.inr ⟨k6,rfl⟩) hl
  ·simp only [if_neg hl];exact h
 rw [if_neg e4]
 by_cases sG:(aa s g).place=12
 ·rw [if_pos sG];exact h.VC hg st sG (k.resolve_right (by omega))
 rw [if_neg sG]
 by_cases sH:(aa s g).place=13
 ·rw [if_pos sH];exact h.xo hg st sH
 rw [if_neg sH]
 by_cases sJ:(aa s g).place=15
 ·rw [if_pos sJ];exact h.VH hg st sJ (k.resolve_right (by omega))
 rw [if_neg sJ]
 by_cases sK:(aa s g).place=16
 ·rw [if_pos sK];exact h.VI hg st sK (k.resolve_right (by omega))
 rw [if_neg sK]
 by_cases pS:(aa s g).place=17
 ·rw [if_pos pS];exact h.VK hg st pS
 rw [if_neg pS];exact h
end Sx
namespace Sx
variable {s t:ah} {g:Nat} {nc ns n:Int}
theorem Mb {s:ah} {c:Int} (c0:1≤c) (c1:c≤s.au.length):aA s c (cn s c)=s:=by
 unfold aA cn;have:(c - 1).toNat < s.au.length:=by omega
 rw [List.getD_eq_getElem?_getD,List.getElem?_eq_getElem this];simp
structure xq (s:ah) (g:Nat) (c i:Int) (o:Nat):Prop where
 i0:0≤i
 i1:i < s.aB.length
 ch:(su s i).ch=c
 g_:(su s i).g=o
 o1:o < s.gs.length
 own:Own (aa s o) i
 q:dI (aa s o) i (su s i).cs
 mt:Match (aa s o) i (su s i)
theorem MInv.vw (h:MInv s) {c i:Int} (c0:1≤c) (c1:c≤s.au.length) (hq:i∈(cn s c).recv∨i∈(cn s c).send):∃ o,xq s g c i o:=by
 obtain ⟨t1,t2,t3,t4,t5,t6,t7,t8⟩:=Inv.B4 h.v c0 c1 hq;refine ⟨(su s i).g.toNat,t1,t2,t3,by omega,by omega,t6,t7,t8⟩
theorem MInv.Cc (h:MInv s) (hg:g < s.gs.length) {i:Int} {o:Nat} {x y:Gr} {c:Int} {c':Cn} (q:xq s g c i o) (lx:Loc s.au.length s.aB.length s.gs.length x) (hc:jT s.gs.length (cn s) g (aa s g) x c c') (ow:∀ i,Own x i↔Own (aa s g) i) (mt:∀ i d,Own x i→Match (aa s g) i d→Match x i d)
  (nq:∀ i j,¬ dI (aa s g) i j) (nw:¬ cQ x) (wx:∀ q∈x.ak,q∈(aa s g).ak) (lO:¬ Wt (aa s g))
  (hx:c7 x) (xi:x.hold=i) (c0:1≤c) (c1:c≤s.au.length) (xh:bH x c) (hq:i∈(cn s c).recv∨i∈(cn s c).send) (py:Part (aa s o) y) (e1:y.param=(aa s o).param) (e2:y.token=(aa s o).token) (e3:y.status=(aa s o).status)
  (hp:(su s i).cs < 0∧i∉c'.recv∧i∉c'.send∧y.aU=(aa s o).aU∨0≤(su s i).cs∧(aa s o).aU=false∧y.aU=true∧bH (aa s g) c) (ha:x.at_=(aa s g).at_) :
  MInv (ai (ai (aA s c c') o y) g x):=by
 have bG:o≠g:=fun e=>nq _ _ (e ▸ q.q)
 have eA:=fz s g;have eO:gA s (su s i).g=aa s o:=by rw [q.g_,fz]
 have r:Rest s (ai (ai (aA s c c') o y) g x):=(Rest.dQ s c c').trans (Rest.two (Sx.aA s c c') (g:=g) (p:=o) hg q.o1 ha py.at_ bG);refine h.rest r (V.of r (Inv.Vx h.v (g:=g) (i:=i) (x:=x) (y:=y) (c:=c) (c':=c') (by omega) (by omega) lx (by rw [eA];exact hc) (by rw [eA];exact ow) (by rw [eA];exact mt) (by rw [eA];exact nq) nw (by rw [eA];exact wx) (by rw [eA];exact lO) hx xi q.ch c0 c1 xh hq (by rw [eO];exact py) (by rw [eO];exact e1) (by rw [eO];exact e2) (by rw [eO];exact e3) (by rw [eO,eA];exact hp)) (fun k k0=>?_) (fun ch w=>m8 c0 c1 rfl ch w) (fun _ _=>rfl));rw [q.g_];exact F9 (s:=s) hg q.o1 rfl k k0
theorem MInv.Gb (h:MInv s) (hg:g < s.gs.length) {i:Int} {o:Nat} {x y:Gr} {c:Int} {c':Cn} {d:Su} (c0:1≤c) (c1:c≤s.au.length) (lx:Loc s.au.length s.aB.length s.gs.length x) (hc:jT s.gs.length (cn s) g (aa s g) x c c') (ow:∀ i,Own x i↔Own (aa s g) i) (mt:∀ i d,Own x i→Match (aa s g) i d→Match x i d)
  (nq:∀ i j,¬ dI (aa s g) i j) (nw:¬ cQ x) (gP:¬ c7 x) (wx:∀ q∈x.ak,q∈(aa s g).ak∨q=(o:Int)) (lO:¬ Wt (aa s g))
  (sc:(su s i).ch=c) (so:(su s i).g=o) (o1:o < s.gs.length) (bG:o≠g) (F1:Wt (aa s o)) (F2:(aa s o).param=-1) (F3:Own (aa s o) i) (F4:SE (aa s o)→y.aU=true) (F5:i∉c'.recv∧i∉c'.send)
  (other:∀ k:Nat,k < s.gs.length→k≠g→c7 (aa s k)→(su s (aa s k).hold).g=o→False)
  (py:Part (aa s o) y) (e1:y.param=i) (e2:y.token=(aa s o).token) (e3:y.status=(aa s o).status) (ha:x.at_=(aa s g).at_)
  (hd:d.g=(su s i).g∧d.ch=(su s i).ch∧d.cs=(su s i).cs∧d.send=(su s i).send∧d.live=(su s i).live) :
  MInv (ai (aN (ai (aA s c c') o y) i d) g x):=by
 have eA:=fz s g;have eO:gA s (su s i).g=aa s o:=by rw [so,fz]
 have i1:=(Inv.own h.v (o:Int) (by omega) (by omega) i (by rw [fz];exact F3)).1;have i0:=F3.1;have r:Rest s (ai (aN (ai (aA s c c') o y) i d) g x):=by
  have r1:=(Rest.dQ s c c').trans (Rest.two (Sx.aA s c c') (g:=g) (p:=o) hg o1 ha py.at_ bG);refine ⟨r1.gl,r1.cl,by simp [Sx.aN,Sx.ai,Sx.aA],r1.sN,r1.cN,r1.ca,r1.md,r1.fr,r1.dw,r1.dn,r1.B6,r1.at_⟩
 have v:=Inv.serve h.v (g:=g) (i:=i) (x:=x) (y:=y) (c:=c) (c':=c') (by omega) (by omega) lx (by rw [eA];exact hc) (by rw [eA];exact ow) (by rw [eA];exact mt) (by rw [eA];exact nq) nw gP (by rw [eA,so];exact wx) (by rw [eA];exact lO) sc (by omega) (by omega) (by omega) (by rw [eO];exact F1) (by rw [eO];exact F2) (by rw [eO];exact F3) (by rw [eO];exact F4) F5 (fun k k0 k1 kg cl e=>by
  refine other k.toNat (by omega) (by omega) cl (by rw [← so];exact e)) (by rw [eO];exact py) e1 (by rw [eO];exact e2) (by rw [eO];exact e3)
 have v2:=v.Vt (S':=up (su s) i d) (fun j=>by
  unfold up
  by_cases e:j=i
  ·rw [if_pos e,e];exact hd
  ·rw [if_neg e];exact ⟨rfl,rfl,rfl,rfl,rfl⟩)
 refine h.rest r (V.of r v2 (fun k k0=>?_) (fun ch w=>m8 c0 c1 rfl ch w) (fun j j0=>B5 i0 i1 rfl j j0));rw [so];exact F9 (s:=s) hg o1 rfl k k0
def bN (c:Cn) (i:Int):Cn:={ c with recv:=eZ c.recv i,send:=eZ c.send i }
theorem drop_eq {s:ah} {i c:Int} (e:(su s i).ch=c) (c0:1≤c) (c1:c≤s.au.length):aT s i=aA s c (bN (cn s c) i):=by
 subst e;unfold aT;rw [if_pos (m9.2 ⟨c0,c1⟩)];rfl
theorem ng {l:List Int} {i:Int}:i∉eZ l i:=by unfold eZ;simp
theorem iG {l:List Int} {i:Int}:(eZ l i).Sublist l:=by unfold eZ;exact List.filter_sublist
theorem zO {l:List Gr} {g o:Nat} {a b c:Gr} (h:o≠g):((l.set g a).set o b).set g c=(l.set o b).set g c:=by
 rw [List.set_comm _ _ (by omega:g≠o),List.set_set]
theorem Mc {s:ah} {g o:Nat} {i:Int} (hg:g < s.gs.length) (so:(su s i).g=o) (bG:o≠g):pair s g i=ai (ai s o { aa s o with bE:=(aa s g).t,wi:=g,dJ:=(su s i).cs }) g { aa s g with bE:=(aa s g).t,wi:=o }:=by
 unfold pair;simp only [so,Int.toNat_natCast]
theorem fj {s:ah} {g h:Nat} {x:Gr} (hg:g < s.gs.length):aa (ai s g x) h=if h=g then x else aa s h:=je s g h x hg
theorem eV {s:ah} {g:Nat} {x:Gr}:(ai s g x).gs.length=s.gs.length:=by simp [ai]
theorem Me (hg:g < s.gs.length) {i c:Int} {o:Nat} {cU hand:Int} (so:(su s i).g=o) (bG:o≠g) (sc:(su s i).ch=c) (c0:1≤c) (c1:c≤s.au.length) (hn:¬ 0≤(su s i).cs) :
  taken s g i cU hand=ai (ai (aA s c (bN (cn s c) i)) o { aa s o with bE:=s.step,wi:=g,dJ:=(su s i).cs }) g { aa s g with hold:=i,t:=s.step,bE:=s.step,wi:=o,place:=hand }:=by
 unfold taken;rw [if_neg hn];have e1:aT (ai s g { aa s g with hold:=i,t:=s.step }) i=aA (ai s g { aa s g with hold:=i,t:=s.step }) c (bN (cn s c) i):=drop_eq (s:=ai s g { aa s g with hold:=i,t:=s.step }) sc c0 c1;have fY:g < (aA (ai s g { aa s g with hold:=i,t:=s.step }) c (bN (cn s c) i)).gs.length:=by show g < (ai s g _).gs.length;rw [eV];exact hg
 rw [e1,Mc fY so bG];have g1:aa (aA (ai s g { aa s g with hold:=i,t:=s.step }) c (bN (cn s c) i)) g={ aa s g with hold:=i,t:=s.step }:=by rw [B7,fj hg,if_pos rfl]
 have g2:aa (aA (ai s g { aa s g with hold:=i,t:=s.step }) c (bN (cn s c) i)) o=aa s o:=by rw [B7,fj hg,if_neg bG]
 rw [g1,g2,mz _ _ _ _ (by rw [eV];exact fY)];unfold ai aA;simp only;rw [zO bG];rfl
theorem Mf {i:Int} {cU hand:Int} (hg:g < s.gs.length) (hn:0≤(su s i).cs):taken s g i cU hand=ai s g { aa s g with hold:=i,place:=cU }:=by
 unfold taken;rw [if_pos hn,mz _ _ _ _ hg]
theorem xq.ne (h:MInv s) {c i:Int} {o:Nat} (q:xq s g c i o) (nq:∀ i j,¬ dI (aa s g) i j):o≠g:=fun e=>nq _ _ (e ▸ q.q)
theorem MInv.s6 (h:MInv s) (hg:g < s.gs.length) (st:(aa s g).status=0) (k:2≤(ag s g).kind∧(ag s g).kind≤5) (e:(aa s g).place=6) {i:Int} (hq:i∈(cn s (ag s g).ch).recv∨i∈(cn s (ag s g).ch).send):MInv (taken s g i 7 8):=by
 obtain ⟨c0,c1⟩:=h.kn hg (by omega) (by omega);have hk:(aH (aa s g)).kind=(ag s g).kind:=rfl;have L:=h.loc hg;obtain ⟨o,q⟩:=h.vw (g:=g) c0 c1 hq;have eB:(aa s g).ak=[]:=by
  by_cases w:(aa s g).ak=[]
  ·exact w
  ·have:=L.w1 w;omega
 have go:∀ (x:Gr) (p:Int),p=7∨p=8→x.ops=(aa s g).ops→x.at_=(aa s g).at_→x.status=(aa s g).status→x.token=(aa s g).token→x.param=(aa s g).param→x.ak=(aa s g).ak→x.place=p→iw (aa s g) x:=by
  intro x p hp h1 h2 h3 h4 h5 h6 h7;refine ⟨h1,h2,h3,h4,h5,h6,by unfold SE;omega,st,by omega,by omega,by omega,?_,⟨by omega,by omega,by omega,by omega⟩,by omega,.inl eB⟩;unfold bJ;omega
 have hH:∀ x:Gr,aH x=aH (aa s g)→(x.place=7∨x.place=8)→bH x (ag s g).ch:=fun x ho hp=>.inl ⟨by rw [ho];omega,by rw [ho];omega,by rw [ho];rfl,by omega⟩
 by_cases hn:0≤(su s i).cs
 ·rw [Mf hg hn];have G:=go { aa s g with hold:=i,place:=7 } 7 (.inl rfl) rfl rfl rfl rfl rfl rfl rfl;refine h.self hg (G.sf L (fun _=>⟨q.i0,q.i1⟩) ?_ (by simp)) rfl (fun _=>?_)
  ·rw [e];unfold hP;simp
  ·simp only;rw [q.ch];exact ⟨c0,c1,hH _ rfl (.inl rfl),hq,hn⟩
 ·have G:=go { aa s g with hold:=i,t:=s.step,bE:=s.step,wi:=o,place:=8 } 8 (.inr rfl) rfl rfl rfl rfl rfl rfl rfl;rw [Me hg q.g_ (q.ne h (G.nq)) q.ch c0 c1 hn];refine h.Cc hg q (G.loc L (fun _=>⟨q.i0,q.i1⟩)) ⟨.inl ⟨rfl,G.hh (by rw [e];unfold hP;simp)⟩,h.g9 c0 c1,⟨iG,iG⟩,.inr ?_⟩ (fun i=>⟨fun w=>absurd w (G.own i).2,fun w=>absurd w (G.own i).1⟩) (fun i d w=>absurd w (G.own i).2) G.nq (by unfold cQ;simp) (fun q=>id) G.nw (.inl rfl) rfl c0 c1 (hH _ rfl (.inr rfl)) hq ⟨rfl,rfl,rfl,rfl,rfl,rfl,rfl,rfl,rfl,rfl,rfl⟩ rfl rfl rfl (.inl ⟨by omega,ng,ng,rfl⟩) rfl;exact .inl ⟨by omega,by omega,rfl,by omega⟩
end Sx
namespace Sx
variable {s t:ah} {g:Nat} {nc ns n:Int}
theorem MInv.buf (h:MInv s) {c:Int} {c':Cn} (c0:1≤c) (c1:c≤s.au.length) (e1:c'.lock=(cn s c).lock) (e2:c'.recv=(cn s c).recv) (e3:c'.send=(cn s c).send) (e4:0≤c'.cap∧c'.cap≤4∧(c'.buf.length:Int)≤c'.cap):MInv (aA s c c'):=by
 refine h.rest (Rest.dQ s c c') ?_;have I:=h.v;have key:∀ ch,1≤ch→(cn (aA s c c') ch).lock=(cn s ch).lock∧(cn (aA s c c') ch).recv=(cn s ch).recv∧(cn (aA s c c') ch).send=(cn s ch).send:=by
  intro ch a;rw [m8 c0 c1 rfl ch a]
  by_cases e:ch=c
  ·subst e;rw [iF];exact ⟨e1,e2,e3⟩
  ·rw [jd _ _ e];exact ⟨rfl,rfl,rfl⟩
 have J:Inv s.gs.length s.au.length s.aB.length (gA s) (cn (aA s c c')) (su s) (fun i=>gX s i=true):=by
  constructor
  ·exact I.loc
  ·intro ch a b;rw [(key ch a).1];exact I.jS ch a b
  ·intro k a b ch c d;rw [(key ch c).1];exact I.jD k a b ch c d
  ·intro ch a b;rw [m8 c0 c1 rfl ch a]
   by_cases e:ch=c
   ·subst e;rw [iF];exact e4
   ·rw [jd _ _ e];exact I.cap ch a b
  ·exact I.own
  ·intro ch a b i;rw [(key ch a).2.1,(key ch a).2.2];exact I.q ch a b i
  ·intro ch a b;rw [(key ch a).2.1,(key ch a).2.2];exact I.nd ch a b
  ·intro k a b w;have:=I.cU k a b w;rw [(key _ this.1).2.1,(key _ this.1).2.2];exact this
  ·intro k a b w;have:=I.cl k a b w;rw [(key _ this.1).2.1,(key _ this.1).2.2];exact this
  ·exact I.sA
  ·exact I.wk
  ·exact I.qO
  ·exact I.su
  ·exact I.lv
 refine V.of (Rest.dQ s c c') J (fun _ _=>rfl) (fun _ _=>rfl) (fun _ _=>rfl)
theorem Mg {s:ah} {g:Nat} {back on:Int} (hp:(aa s (su s (aa s g).hold).g.toNat).aU=true):cU s g back on=ai (aT s (aa s g).hold) g { aa s g with hold:=-1,place:=back }:=by
 unfold cU;simp only;rw [if_pos hp]
theorem Mh {s:ah} {g o:Nat} {back on:Int} (hg:g < s.gs.length) (ho:o < s.gs.length) (so:(su s (aa s g).hold).g=o) (bG:o≠g) (hp:(aa s o).aU=false) :
  cU s g back on=ai (ai s o { aa s o with aU:=true,bE:=s.step,wi:=g,dJ:=(su s (aa s g).hold).cs }) g { aa s g with t:=s.step,bE:=s.step,wi:=o,place:=on }:=by
 unfold cU;simp only [so,Int.toNat_natCast];rw [if_neg (by rw [hp];simp)];have fY:g < (ai (ai s g { aa s g with t:=s.step }) o { aa s o with aU:=true }).gs.length:=by rw [eV,eV];exact hg
 have tE:o < (ai s g { aa s g with t:=s.step }).gs.length:=by rw [eV];exact ho
 have VO:(su (ai (ai s g { aa s g with t:=s.step }) o { aa s o with aU:=true }) (aa s g).hold).g=o:=so;rw [Mc fY VO bG];have g1:aa (ai (ai s g { aa s g with t:=s.step }) o { aa s o with aU:=true }) g={ aa s g with t:=s.step }:=by rw [fj tE,if_neg (by omega),fj hg,if_pos rfl]
 have g2:aa (ai (ai s g { aa s g with t:=s.step }) o { aa s o with aU:=true }) o={ aa s o with aU:=true }:=by rw [fj tE,if_pos rfl]
 rw [g1,g2,mz _ _ _ _ (by rw [eV];exact fY)];unfold ai;simp only [List.set_set];rw [zO bG];rfl
end Sx
end Go.Proofs.YtdjhhbpedllnhaaGreat
