/-
  What the laws need, part D17.
  Conditions: none.
-/
import Derived.Test.YtofnbflkhgammaaGreatD16
set_option linter.unusedVariables false
set_option linter.unusedSimpArgs false
set_option linter.unnecessarySimpa false
set_option maxHeartbeats 2000000
namespace Go.Proofs.YtofnbflkhgammaaGreat
namespace Sx
variable {s t:ah} {g:Nat} {nc ns n:Int}
theorem MInv.VS (h:MInv s) (hg:g < s.gs.length) (st:(aa s g).status=0) (k:2≤(ag s g).kind∧(ag s g).kind≤5) (e:(aa s g).place=8) (v:Int):MInv (ai (gL s g v) g { aa (gL s g v) g with res:=jG,place:=16 }):=by
 obtain ⟨o,q,tY⟩:=h.Gk hg (.inl e);have L:=h.loc hg;have hd:=L.hd (by omega);unfold gL;simp only;rw [drop_eq q.sc q.c0 q.c1];have e1:su (aE s (su s (aa s g).hold).ch (cu (cn s (su s (aa s g).hold).ch) (aa s g).hold)) (aa s g).hold=su s (aa s g).hold:=rfl;rw [e1,VR (x:=id) hg q.o1 (by exact q.so) q.ne hd.1 hd.2];exact h.s8 hg st k e rfl q tY _ _ ⟨rfl,rfl,rfl,rfl,rfl⟩
theorem MInv.VT (h:MInv s) (hg:g < s.gs.length) (st:(aa s g).status=0) (k:2≤(ag s g).kind∧(ag s g).kind≤5) (e:(aa s g).place=8) :
  MInv (ai (serve (hand (bq s (aa s g).hold) (ag s g).ch (aa s g).hold).1 g (aa s g).hold true) g { aa (serve (hand (bq s (aa s g).hold) (ag s g).ch (aa s g).hold).1 g (aa s g).hold true) g with res:=eJ (hand (bq s (aa s g).hold) (ag s g).ch (aa s g).hold).2 true,place:=16 }):=by
 obtain ⟨o,q,tY⟩:=h.Gk hg (.inl e);obtain ⟨d0,d1⟩:=h.lZ hg (by omega) (by omega);have L:=h.loc hg;have hd:=L.hd (by omega);generalize (eJ (hand (bq s (aa s g).hold) (ag s g).ch (aa s g).hold).2 true)=r;unfold hand;simp only;rw [drop_eq q.sc q.c0 q.c1]
 split
 ·rw [MI hg q.o1 q.so q.ne];exact h.s8 hg st k e rfl q tY _ _ ⟨rfl,rfl,rfl,rfl,rfl⟩
 ·simp only;rw [MJ q.c0 q.c1 d0 d1];obtain ⟨b,hb,dP⟩:∃ b,(iy (cn (aE s (su s (aa s g).hold).ch (cu (cn s (su s (aa s g).hold).ch) (aa s g).hold)) (ag s g).ch).buf (cn (aE s (su s (aa s g).hold).ch (cu (cn s (su s (aa s g).hold).ch) (aa s g).hold)) (ag s g).ch).cap (su (aE s (su s (aa s g).hold).ch (cu (cn s (su s (aa s g).hold).ch) (aa s g).hold)) (aa s g).hold).v).1=b∧b.length=(cn s (ag s g).ch).buf.length:=by
   refine ⟨_,rfl,?_⟩;rw [MK,nF q.c0 q.c1 rfl _ d0];unfold up
   split
   ·rename_i c;rw [c];rfl
   ·rfl
  rw [hb];have r8:=h.gE d0 d1;have h2:MInv (aE s (ag s g).ch { cn s (ag s g).ch with buf:=b }):=h.buf d0 d1 rfl rfl rfl ⟨r8.1,r8.2.1,by simp only;rw [dP];exact r8.2.2⟩;obtain ⟨s2,jO⟩:∃ s2,aE s (ag s g).ch { cn s (ag s g).ch with buf:=b }=s2:=⟨_,rfl⟩
  have eg:∀ j,aa s2 j=aa s j:=fun j=>by rw [← jO];rfl
  have es:∀ j,su s2 j=su s j:=fun j=>by rw [← jO];rfl
  have el:s2.gs.length=s.gs.length:=by rw [← jO];rfl
  have ec:s2.au.length=s.au.length:=by rw [← jO];simp [aE]
  have eq:∀ ch,1≤ch→(cn s2 ch).recv=(cn s ch).recv∧(cn s2 ch).send=(cn s ch).send:=by
   intro ch a;rw [← jO,nF d0 d1 rfl ch a];unfold up
   split
   ·rename_i c;rw [c];exact ⟨rfl,rfl⟩
   ·exact ⟨rfl,rfl⟩
  rw [jO] at h2 ⊢;have eo:ag s2 g=ag s g:=by unfold ag;rw [eg]
  rw [← es,← eg];rw [MI (by rw [el];exact hg) (by rw [el];exact q.o1) (by rw [es,eg];exact q.so) q.ne];refine h2.s8 (by rw [el];exact hg) (by rw [eg];exact st) (by rw [eo];exact k) (by rw [eg];exact e) rfl ⟨?_,?_,rfl,?_,?_,q.ne,?_,?_,?_,?_,?_,?_⟩ ?_ _ _ ⟨rfl,rfl,rfl,rfl,rfl⟩
  ·rw [es,eg];exact q.c0
  ·rw [es,eg,ec];exact q.c1
  ·rw [es,eg];exact q.so
  ·rw [el];exact q.o1
  ·rw [es,eg];exact q.hh
  ·rw [eg];exact q.wt
  ·rw [eg];exact q.pm
  ·rw [eg,eg];exact q.own
  ·rw [eg];exact q.se
  ·rw [es,eg,eg,(eq _ q.c0).1,(eq _ q.c0).2];exact q.sr
  ·intro k a b;rw [eg,es];exact tY k (by rw [← el];exact a) b
end Sx
namespace Sx
variable {s t:ah} {g:Nat} {nc ns n:Int}
theorem MInv.xx (h:MInv s) (hg:g < s.gs.length) (e:(aa s g).place≤15∨18≤(aa s g).place∧(aa s g).place≤21∨24≤(aa s g).place∧(aa s g).place≤29):(aa s g).an=[]:=by
 by_cases w:(aa s g).an=[]
 ·exact w
 ·have:=(h.loc hg).w1 w;omega
theorem MInv.Gm (h:MInv s) (hg:g < s.gs.length) (st:(aa s g).status=0) (k:(ag s g).kind≤8) (e:1≤(aa s g).place∧(aa s g).place≤10∨(aa s g).place=20∨(aa s g).place=21) {x:Gr} (h1:x.ops=(aa s g).ops) (h2:x.at_=(aa s g).at_) (h3:x.status=(aa s g).status) (h4:x.token=(aa s g).token) (h5:x.param=(aa s g).param) (h6:x.an=(aa s g).an)
  (ok:bF (ag s g).kind x.place) (p:1≤x.place∧x.place≤10∨x.place=16∨x.place=18∨x.place=20∨x.place=22):gU (aa s g) x:=by
 have hk:(aG (aa s g)).kind=(ag s g).kind:=rfl;refine ⟨h1,h2,h3,h4,h5,h6,by unfold SE;omega,st,by omega,by omega,by omega,ok,⟨by omega,by omega,by omega,by omega⟩,by omega,.inl (h.xx hg (by omega))⟩
theorem MInv.iJ (h:MInv s) (hg:g < s.gs.length) (st:(aa s g).status=0) (k:(ag s g).kind≤8) (e:1≤(aa s g).place∧(aa s g).place≤10∨(aa s g).place=20∨(aa s g).place=21) {x:Gr} (h1:x.ops=(aa s g).ops) (h2:x.at_=(aa s g).at_) (h3:x.status=(aa s g).status) (h4:x.token=(aa s g).token) (h5:x.param=(aa s g).param) (h6:x.an=(aa s g).an)
  (ok:bF (ag s g).kind x.place) (p:1≤x.place∧x.place≤6∨x.place=9∨x.place=10∨x.place=16∨x.place=18∨x.place=20∨x.place=22) (hp:hP (aa s g).place↔hP x.place):MInv (ai s g x) :=
 h.Ms hg (h.Gm hg st k e h1 h2 h3 h4 h5 h6 ok (by omega)) hp (by unfold cI;omega) (by omega)
theorem MInv.s9 (h:MInv s) (hg:g < s.gs.length) (st:(aa s g).status=0) (k:2≤(ag s g).kind∧(ag s g).kind≤5) (e:(aa s g).place=9) {b:List Int} (hb:(b.length:Int)≤(cn s (ag s g).ch).cap) (r:Md.ak):MInv (bH (aE s (ag s g).ch { cn s (ag s g).ch with buf:=b }) g r 16):=by
 obtain ⟨c0,c1⟩:=h.lZ hg (by omega) (by omega);have G:=h.Gm hg st (by omega) (by omega) (x:={ aa s g with bQ:=s.step,res:=r,place:=16 }) rfl rfl rfl rfl rfl rfl (by show bF _ 16;unfold bF;omega) (by simp);have hc:=h.gE c0 c1;exact h.xo hg G c0 c1 ⟨.inl ⟨rfl,G.hh (by rw [e];unfold hP;simp)⟩,⟨hc.1,hc.2.1,hb⟩,⟨List.Sublist.refl _,List.Sublist.refl _⟩,.inl ⟨rfl,rfl⟩⟩ (by unfold cI;simp) (by simp)
theorem MInv.pI (h:MInv s) (hg:g < s.gs.length) (st:(aa s g).status=0) (k:(ag s g).kind=2∨(ag s g).kind=3) (e:(aa s g).place=10) {d:Su} (hd:d.g=g∧d.cs=-1∧d.ch=(ag s g).ch∧(d.send=true↔(ag s g).kind=2)):MInv (aH s g d):=by
 have L:=h.loc hg;have hk:aG (aa s g)=ag s g:=rfl;have ks:SR (aa s g):=k;unfold aH
 split
 ·rename_i ok;have T:=Cb h hg ok;obtain ⟨i,hi⟩:∃ i,(aS s g).2.1=i:=⟨_,rfl⟩
  rw [hi] at T ⊢;obtain ⟨x,hx⟩:∃ x,({ aa s g with aH:=i,place:=11 }:Gr)=x:=⟨_,rfl⟩
  rw [hx];have h1:x.ops=(aa s g).ops∧x.at_=(aa s g).at_∧x.place=11∧x.status=(aa s g).status∧x.token=(aa s g).token∧x.param=(aa s g).param∧x.aH=i∧x.an=(aa s g).an∧x.ay=(aa s g).ay:=by subst hx;simp
  have ho:aG x=aG (aa s g):=by subst hx;rfl
  have wk:=h.xx hg (by omega);have i0:=T.i0;have i1:=T.i1;have nO:∀ j,¬ Own (aa s g) j:=by
   rintro j ⟨_,w | w⟩
   ·omega
   ·exact absurd w.1 ks.ne
  have jz:¬ SE x:=by unfold SE;rw [ho];exact ks.ne
  refine h.take hg T (x:=x) (d:=d) ?_ ?_ ?_ (fun j w=>absurd w (nO j)) ?_ hd.1 ?_ ?_ ?_ (by rw [h1.2.2.2.2.2.2.2.1]) ?_ h1.2.1
  ·clear hx;obtain ⟨a1,a2,a3,a4,a5,a6,a7,a8,a9,ij,jr,mR,pK,pM,pN,nD,qS,qT,pO,pR,sC,pS⟩:=L
   constructor <;> simp only [Wt,SR,SE,e,st,Own,bF,dQ,ho,h1,hk] at * <;> grind
  ·intro ch;unfold bE;rw [ho,h1.2.2.1,e];simp only [jz,ks.ne,false_and,or_false]
   constructor <;> (intro w;exact ⟨w.1,w.2.1,w.2.2.1,by omega⟩)
  ·intro j
   constructor
   ·rintro ⟨_,w | w⟩
    ·exact .inr (w.2.2.2.symm.trans h1.2.2.2.2.2.2.1)
    ·exact absurd w.1 jz
   ·rintro (w | w)
    ·exact absurd w (nO j)
    ·subst w;exact ⟨i0,.inl ⟨by unfold SR;rw [ho];exact ks,by omega,by omega,h1.2.2.2.2.2.2.1⟩⟩
  ·exact .inl ⟨by unfold SR;rw [ho];exact ks,hd.2.1,by rw [ho,hk];exact hd.2.2.1,by rw [ho,hk];exact hd.2.2.2⟩
  ·rintro j l (w | w)
   ·omega
   ·exact absurd w.1 ks.ne
  ·unfold cI;omega
  ·unfold cX;omega
  ·rintro (w | w)
   ·omega
   ·exact absurd w.1 ks.ne
 ·rename_i ok;have e1:(aS s g).1=s:=by
   unfold aS at ok ⊢
   split
   ·rename_i c;rw [if_pos c] at ok
    split
    ·rename_i c2;rw [if_pos c2] at ok;simp at ok
    ·rfl
   ·rename_i c;rw [if_neg c] at ok;simp at ok
  rw [e1];exact h.iJ hg st (by omega) (by omega) (x:={ aa s g with res:={ (aa s g).res with code:=6 },place:=16 }) rfl rfl rfl rfl rfl rfl (by show bF _ 16;unfold bF;omega) (by simp) (by rw [e];unfold hP;simp)
theorem MInv.tT (h:MInv s) (hg:g < s.gs.length) (st:(aa s g).status=0) (k:(ag s g).kind=2∨(ag s g).kind=3) (e:(aa s g).place=11) {c':Cn} {a:Int} (e1:c'.lock=(cn s (ag s g).ch).lock) (e2:c'.cap=(cn s (ag s g).ch).cap) (e3:c'.buf=(cn s (ag s g).ch).buf)
  (er:c'.recv=if (ag s g).kind=2 then (cn s (ag s g).ch).recv else (cn s (ag s g).ch).recv ++ [(aa s g).aH]) (es:c'.send=if (ag s g).kind=2 then (cn s (ag s g).ch).send ++ [(aa s g).aH] else (cn s (ag s g).ch).send) :
  MInv (ai (aE s (ag s g).ch c') g { aa s g with ic:=a,place:=12 }):=by
 obtain ⟨c0,c1⟩:=h.lZ hg (by omega) (by omega);have L:=h.loc hg;have hk:aG (aa s g)=ag s g:=rfl;have ks:SR (aa s g):=k;have hm:=L.mi ks (by omega) (by omega);have eA:=fC s g;have vu:Own (aa s g) (aa s g).aH:=⟨hm.1,.inl ⟨ks,by omega,by omega,rfl⟩⟩
 have hO:=Inv.own h.v (g:Int) (by omega) (by omega) (aa s g).aH (by rw [eA];exact vu);have hM:=hO.2.1;rw [eA] at hM;obtain ⟨m1,m2,m3,m4⟩:SR (aa s g)∧(su s (aa s g).aH).cs=-1∧(su s (aa s g).aH).ch=(ag s g).ch∧((su s (aa s g).aH).send=true↔(ag s g).kind=2):=by
  rcases hM with w | w
  ·exact w
  ·exact absurd w.1 ks.ne
 obtain ⟨x,hx⟩:∃ x,({ aa s g with ic:=a,place:=12 }:Gr)=x:=⟨_,rfl⟩
 have h1:x.ops=(aa s g).ops∧x.at_=(aa s g).at_∧x.place=12∧x.status=(aa s g).status∧x.token=(aa s g).token∧x.param=(aa s g).param∧x.aH=(aa s g).aH∧x.an=(aa s g).an∧x.ay=(aa s g).ay:=by subst hx;simp
 have ho:aG x=aG (aa s g):=by subst hx;rfl
 have wk:=h.xx hg (by omega);have xy:SR x:=by unfold SR;rw [ho];exact ks
 have jz:¬ SE x:=xy.ne;have pm:(aa s g).param=-1:=by
  have:=L.p0
  by_cases c:0≤(aa s g).param
  ·have:=(L.p2 c).1;rcases this with w | w
   ·omega
   ·exact absurd w.1 ks.ne
  ·omega
 rw [hx];have r:Rest s (ai (aE s (ag s g).ch c') g x):=(Rest.dJ s _ c').trans (Rest.dy _ hg h1.2.1);refine h.rest r (V.of r (Inv.push h.v (g:=g) (i:=(aa s g).aH) (x:=x) (c:=(ag s g).ch) (c':=c') (by omega) (by omega) (by rw [eA];exact vu) c0 c1 m3 ?_ ?_ ?_ ?_ ?_ ?_ ?_ ?_ ?_ ?_ ?_ e1 e2 e3 ?_ ?_) (fun j j0=>sD hg rfl j j0) (fun ch q=>nF c0 c1 rfl ch q) (fun _ _=>rfl))
 ·clear hx r;obtain ⟨a1,a2,a3,a4,a5,a6,a7,a8,a9,ij,jr,mR,pK,pM,pN,nD,qS,qT,pO,pR,sC,pS⟩:=L
  constructor <;> simp only [Wt,SR,SE,e,st,Own,bF,dQ,ho,h1,hk] at * <;> grind
 ·intro ch;rw [eA];unfold bE;rw [ho,h1.2.2.1,e];simp only [jz,ks.ne,false_and,or_false]
  constructor <;> (intro w;exact ⟨w.1,w.2.1,w.2.2.1,by omega⟩)
 ·intro j;rw [eA];exact Own.Ca ks ho h1.2.2.2.2.2.2.1 (by omega) (by omega)
 ·intro j w;have w2:=(Own.Ca ks ho h1.2.2.2.2.2.2.1 (by omega) (by omega)).1 w;have:j=(aa s g).aH:=by
   rcases w2 with ⟨_,w | w⟩
   ·exact w.2.2.2.symm
   ·exact absurd w.1 ks.ne
  subst this;exact .inl ⟨xy,m2,by rw [ho];exact m3,by rw [ho];exact m4⟩
 ·rw [eA];rintro (w | w)
  ·omega
  ·exact absurd w.1 ks.ne
 ·rw [eA];rintro i j (w | w)
  ·omega
  ·exact absurd w.1 ks.ne
 ·exact .inl ⟨xy,by omega,by omega,h1.2.2.2.2.2.2.1,by rw [h1.2.2.2.2.2.1];exact pm⟩
 ·unfold cI;omega
 ·unfold cX;omega
 ·rw [eA];exact h1.2.2.2.2.2.2.2.1
 ·rw [eA];rintro (w | w)
  ·omega
  ·exact absurd w.1 ks.ne
 ·rw [er];by_cases q:(ag s g).kind=2
  ·rw [if_pos q,if_pos (m4.2 q)]
  ·rw [if_neg q,if_neg (fun w=>q (m4.1 w))]
 ·rw [es];by_cases q:(ag s g).kind=2
  ·rw [if_pos q,if_pos (m4.2 q)]
  ·rw [if_neg q,if_neg (fun w=>q (m4.1 w))]
theorem MInv.ML (h:MInv s) (hg:g < s.gs.length) (st:(aa s g).status=0) (k:(ag s g).kind=2∨(ag s g).kind=3) (e:(aa s g).place=14) (r:Md.ak):MInv (ai s g { aa s g with res:=r,param:=-1,place:=15 }):=by
 have L:=h.loc hg;have hk:aG (aa s g)=ag s g:=rfl;have ks:SR (aa s g):=k;have pm:=L.p1 e st;obtain ⟨x,hx⟩:∃ x,({ aa s g with res:=r,param:=-1,place:=15 }:Gr)=x:=⟨_,rfl⟩
 have h1:x.ops=(aa s g).ops∧x.at_=(aa s g).at_∧x.place=15∧x.status=(aa s g).status∧x.token=(aa s g).token∧x.param=-1∧x.aH=(aa s g).aH∧x.an=(aa s g).an∧x.ay=(aa s g).ay:=by subst hx;simp
 have ho:aG x=aG (aa s g):=by subst hx;rfl
 have wk:=h.xx hg (by omega);have xy:SR x:=by unfold SR;rw [ho];exact ks
 have jz:¬ SE x:=xy.ne;rw [hx];refine h.self hg ⟨?_,?_,?_,?_,?_,?_,?_,?_,?_⟩ h1.2.1 (fun w=>by unfold cI at w;omega)
 ·clear hx;obtain ⟨a1,a2,a3,a4,a5,a6,a7,a8,a9,ij,jr,mR,pK,pM,pN,nD,qS,qT,pO,pR,sC,pS⟩:=L
  constructor <;> simp only [Wt,SR,SE,e,st,Own,bF,dQ,ho,h1,hk] at * <;> grind
 ·intro ch;unfold bE;rw [ho,h1.2.2.1,e];simp only [jz,ks.ne,false_and,or_false];omega
 ·intro j;exact Own.Ca ks ho h1.2.2.2.2.2.2.1 (by omega) (by omega)
 ·intro j d _ w;rcases w with w | w
  ·exact .inl ⟨xy,w.2.1,by rw [ho];exact w.2.2.1,by rw [ho];exact w.2.2.2⟩
  ·exact absurd w.1 ks.ne
 ·rintro i j (w | w)
  ·omega
  ·exact absurd w.1 ks.ne
 ·unfold cX;omega
 ·intro q;rw [h1.2.2.2.2.2.2.2.1];exact id
 ·intro w;exact absurd st (w.2.2.2 e)
 ·intro w;have:=w.2.1;omega
end Sx
end Go.Proofs.YtofnbflkhgammaaGreat
