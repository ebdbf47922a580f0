/-
  What the laws need, part A14.
  Conditions: none.
-/
import Derived.Test.YtofnbflkhgammaaGreatA13
set_option linter.unusedVariables false
set_option linter.unusedSimpArgs false
set_option linter.unnecessarySimpa false
set_option maxHeartbeats 2000000
namespace Go.Proofs.YtofnbflkhgammaaGreat
namespace Sx
variable {s t:St} {g:Nat} {nc ns n:Int}
theorem MInv.Tn (h:MInv s) (hg:g < s.gs.length) (st:(gr s g).status=0) (k:2≤(op s g).kind∧(op s g).kind≤5) (e:(gr s g).place=8) (v:Int):MInv (aa (mD s g v) g { gr (mD s g v) g with res:=lu,place:=16 }):=by
 obtain ⟨o,q,sU⟩:=h.ES hg (.inl e);have L:=h.loc hg;have hd:=L.hd (by omega);unfold mD;simp only;rw [drop_eq q.sc q.c0 q.c1];have e1:su (av s (su s (gr s g).hold).ch (bX (cn s (su s (gr s g).hold).ch) (gr s g).hold)) (gr s g).hold=su s (gr s g).hold:=rfl;rw [e1,Tl (x:=id) hg q.o1 (by exact q.so) q.ne hd.1 hd.2];exact h.s8 hg st k e rfl q sU _ _ ⟨rfl,rfl,rfl,rfl,rfl⟩
theorem MInv.To (h:MInv s) (hg:g < s.gs.length) (st:(gr s g).status=0) (k:2≤(op s g).kind∧(op s g).kind≤5) (e:(gr s g).place=8) :
  MInv (aa (serve (hand (drop s (gr s g).hold) (op s g).ch (gr s g).hold).1 g (gr s g).hold true) g { gr (serve (hand (drop s (gr s g).hold) (op s g).ch (gr s g).hold).1 g (gr s g).hold true) g with res:=ee (hand (drop s (gr s g).hold) (op s g).ch (gr s g).hold).2 true,place:=16 }):=by
 obtain ⟨o,q,sU⟩:=h.ES hg (.inl e);obtain ⟨d0,d1⟩:=h.qd hg (by omega) (by omega);have L:=h.loc hg;have hd:=L.hd (by omega);generalize (ee (hand (drop s (gr s g).hold) (op s g).ch (gr s g).hold).2 true)=r;unfold hand;simp only;rw [drop_eq q.sc q.c0 q.c1]
 split
 ·rw [Ki hg q.o1 q.so q.ne];exact h.s8 hg st k e rfl q sU _ _ ⟨rfl,rfl,rfl,rfl,rfl⟩
 ·simp only;rw [Kj q.c0 q.c1 d0 d1];obtain ⟨b,hb,gG⟩:∃ b,(gQ (cn (av s (su s (gr s g).hold).ch (bX (cn s (su s (gr s g).hold).ch) (gr s g).hold)) (op s g).ch).buf (cn (av s (su s (gr s g).hold).ch (bX (cn s (su s (gr s g).hold).ch) (gr s g).hold)) (op s g).ch).cap (su (av s (su s (gr s g).hold).ch (bX (cn s (su s (gr s g).hold).ch) (gr s g).hold)) (gr s g).hold).v).1=b∧b.length=(cn s (op s g).ch).buf.length:=by
   refine ⟨_,rfl,?_⟩;rw [Kk,mP q.c0 q.c1 rfl _ d0];unfold up
   split
   ·rename_i c;rw [c];rfl
   ·rfl
  rw [hb];have sH:=h.gK d0 d1;have h2:MInv (av s (op s g).ch { cn s (op s g).ch with buf:=b }):=h.buf d0 d1 rfl rfl rfl ⟨sH.1,sH.2.1,by simp only;rw [gG];exact sH.2.2⟩;obtain ⟨s2,jy⟩:∃ s2,av s (op s g).ch { cn s (op s g).ch with buf:=b }=s2:=⟨_,rfl⟩
  have eg:∀ j,gr s2 j=gr s j:=fun j=>by rw [← jy];rfl
  have es:∀ j,su s2 j=su s j:=fun j=>by rw [← jy];rfl
  have el:s2.gs.length=s.gs.length:=by rw [← jy];rfl
  have ec:s2.an.length=s.an.length:=by rw [← jy];simp [av]
  have eq:∀ ch,1≤ch→(cn s2 ch).recv=(cn s ch).recv∧(cn s2 ch).send=(cn s ch).send:=by
   intro ch a;rw [← jy,mP d0 d1 rfl ch a];unfold up
   split
   ·rename_i c;rw [c];exact ⟨rfl,rfl⟩
   ·exact ⟨rfl,rfl⟩
  rw [jy] at h2 ⊢;have eo:op s2 g=op s g:=by unfold op;rw [eg]
  rw [← es,← eg];rw [Ki (by rw [el];exact hg) (by rw [el];exact q.o1) (by rw [es,eg];exact q.so) q.ne];refine h2.s8 (by rw [el];exact hg) (by rw [eg];exact st) (by rw [eo];exact k) (by rw [eg];exact e) rfl ⟨?_,?_,rfl,?_,?_,q.ne,?_,?_,?_,?_,?_,?_⟩ ?_ _ _ ⟨rfl,rfl,rfl,rfl,rfl⟩
  ·rw [es,eg];exact q.c0
  ·rw [es,eg,ec];exact q.c1
  ·rw [es,eg];exact q.so
  ·rw [el];exact q.o1
  ·rw [es,eg];exact q.hh
  ·rw [eg];exact q.wt
  ·rw [eg];exact q.pm
  ·rw [eg,eg];exact q.own
  ·rw [eg];exact q.se
  ·rw [es,eg,eg,(eq _ q.c0).1,(eq _ q.c0).2];exact q.sr
  ·intro k a b;rw [eg,es];exact sU k (by rw [← el];exact a) b
end Sx
namespace Sx
variable {s t:St} {g:Nat} {nc ns n:Int}
theorem MInv.vO (h:MInv s) (hg:g < s.gs.length) (e:(gr s g).place≤15∨18≤(gr s g).place∧(gr s g).place≤21∨24≤(gr s g).place∧(gr s g).place≤29):(gr s g).ah=[]:=by
 by_cases w:(gr s g).ah=[]
 ·exact w
 ·have:=(h.loc hg).w1 w;omega
theorem MInv.EU (h:MInv s) (hg:g < s.gs.length) (st:(gr s g).status=0) (k:(op s g).kind≤8) (e:1≤(gr s g).place∧(gr s g).place≤10∨(gr s g).place=20∨(gr s g).place=21) {x:Gr} (h1:x.ops=(gr s g).ops) (h2:x.at_=(gr s g).at_) (h3:x.status=(gr s g).status) (h4:x.token=(gr s g).token) (h5:x.param=(gr s g).param) (h6:x.ah=(gr s g).ah)
  (ok:aZ (op s g).kind x.place) (p:1≤x.place∧x.place≤10∨x.place=16∨x.place=18∨x.place=20∨x.place=22):gJ (gr s g) x:=by
 have hk:(aD (gr s g)).kind=(op s g).kind:=rfl;refine ⟨h1,h2,h3,h4,h5,h6,by unfold SE;omega,st,by omega,by omega,by omega,ok,⟨by omega,by omega,by omega,by omega⟩,by omega,.inl (h.vO hg (by omega))⟩
theorem MInv.ia (h:MInv s) (hg:g < s.gs.length) (st:(gr s g).status=0) (k:(op s g).kind≤8) (e:1≤(gr s g).place∧(gr s g).place≤10∨(gr s g).place=20∨(gr s g).place=21) {x:Gr} (h1:x.ops=(gr s g).ops) (h2:x.at_=(gr s g).at_) (h3:x.status=(gr s g).status) (h4:x.token=(gr s g).token) (h5:x.param=(gr s g).param) (h6:x.ah=(gr s g).ah)
  (ok:aZ (op s g).kind x.place) (p:1≤x.place∧x.place≤6∨x.place=9∨x.place=10∨x.place=16∨x.place=18∨x.place=20∨x.place=22) (hp:hP (gr s g).place↔hP x.place):MInv (aa s g x) :=
 h.JZ hg (h.EU hg st k e h1 h2 h3 h4 h5 h6 ok (by omega)) hp (by unfold cu;omega) (by omega)
theorem MInv.s9 (h:MInv s) (hg:g < s.gs.length) (st:(gr s g).status=0) (k:2≤(op s g).kind∧(op s g).kind≤5) (e:(gr s g).place=9) {b:List Int} (hb:(b.length:Int)≤(cn s (op s g).ch).cap) (r:Md.ai):MInv (bw (av s (op s g).ch { cn s (op s g).ch with buf:=b }) g r 16):=by
 obtain ⟨c0,c1⟩:=h.qd hg (by omega) (by omega);have G:=h.EU hg st (by omega) (by omega) (x:={ gr s g with bG:=s.step,res:=r,place:=16 }) rfl rfl rfl rfl rfl rfl (by show aZ _ 16;unfold aZ;omega) (by simp);have hc:=h.gK c0 c1;exact h.vJ hg G c0 c1 ⟨.inl ⟨rfl,G.hh (by rw [e];unfold hP;simp)⟩,⟨hc.1,hc.2.1,hb⟩,⟨List.Sublist.refl _,List.Sublist.refl _⟩,.inl ⟨rfl,rfl⟩⟩ (by unfold cu;simp) (by simp)
theorem MInv.oN (h:MInv s) (hg:g < s.gs.length) (st:(gr s g).status=0) (k:(op s g).kind=2∨(op s g).kind=3) (e:(gr s g).place=10) {d:Su} (hd:d.g=g∧d.cs=-1∧d.ch=(op s g).ch∧(d.send=true↔(op s g).kind=2)):MInv (aK s g d):=by
 have L:=h.loc hg;have hk:aD (gr s g)=op s g:=rfl;have ks:SR (gr s g):=k;unfold aK
 split
 ·rename_i ok;have T:=Bb h hg ok;obtain ⟨i,hi⟩:∃ i,(bu s g).2.1=i:=⟨_,rfl⟩
  rw [hi] at T ⊢;obtain ⟨x,hx⟩:∃ x,({ gr s g with aK:=i,place:=11 }:Gr)=x:=⟨_,rfl⟩
  rw [hx];have h1:x.ops=(gr s g).ops∧x.at_=(gr s g).at_∧x.place=11∧x.status=(gr s g).status∧x.token=(gr s g).token∧x.param=(gr s g).param∧x.aK=i∧x.ah=(gr s g).ah∧x.ak=(gr s g).ak:=by subst hx;simp
  have ho:aD x=aD (gr s g):=by subst hx;rfl
  have wk:=h.vO hg (by omega);have i0:=T.i0;have i1:=T.i1;have nO:∀ j,¬ Own (gr s g) j:=by
   rintro j ⟨_,w | w⟩
   ·omega
   ·exact absurd w.1 ks.ne
  have jb:¬ SE x:=by unfold SE;rw [ho];exact ks.ne
  refine h.take hg T (x:=x) (d:=d) ?_ ?_ ?_ (fun j w=>absurd w (nO j)) ?_ hd.1 ?_ ?_ ?_ (by rw [h1.2.2.2.2.2.2.2.1]) ?_ h1.2.1
  ·clear hx;obtain ⟨a1,a2,a3,a4,a5,a6,a7,a8,a9,iy,jH,lX,oP,oQ,oR,mN,p6,p7,oS,oT,ru,oU⟩:=L
   constructor <;> simp only [Wt,SR,SE,e,st,Own,aZ,dG,ho,h1,hk] at * <;> grind
  ·intro ch;unfold aY;rw [ho,h1.2.2.1,e];simp only [jb,ks.ne,false_and,or_false]
   constructor <;> (intro w;exact ⟨w.1,w.2.1,w.2.2.1,by omega⟩)
  ·intro j
   constructor
   ·rintro ⟨_,w | w⟩
    ·exact .inr (w.2.2.2.symm.trans h1.2.2.2.2.2.2.1)
    ·exact absurd w.1 jb
   ·rintro (w | w)
    ·exact absurd w (nO j)
    ·subst w;exact ⟨i0,.inl ⟨by unfold SR;rw [ho];exact ks,by omega,by omega,h1.2.2.2.2.2.2.1⟩⟩
  ·exact .inl ⟨by unfold SR;rw [ho];exact ks,hd.2.1,by rw [ho,hk];exact hd.2.2.1,by rw [ho,hk];exact hd.2.2.2⟩
  ·rintro j l (w | w)
   ·omega
   ·exact absurd w.1 ks.ne
  ·unfold cu;omega
  ·unfold cO;omega
  ·rintro (w | w)
   ·omega
   ·exact absurd w.1 ks.ne
 ·rename_i ok;have e1:(bu s g).1=s:=by
   unfold bu at ok ⊢
   split
   ·rename_i c;rw [if_pos c] at ok
    split
    ·rename_i c2;rw [if_pos c2] at ok;simp at ok
    ·rfl
   ·rename_i c;rw [if_neg c] at ok;simp at ok
  rw [e1];exact h.ia hg st (by omega) (by omega) (x:={ gr s g with res:={ (gr s g).res with code:=6 },place:=16 }) rfl rfl rfl rfl rfl rfl (by show aZ _ 16;unfold aZ;omega) (by simp) (by rw [e];unfold hP;simp)
theorem MInv.sO (h:MInv s) (hg:g < s.gs.length) (st:(gr s g).status=0) (k:(op s g).kind=2∨(op s g).kind=3) (e:(gr s g).place=11) {c':Cn} {a:Int} (e1:c'.lock=(cn s (op s g).ch).lock) (e2:c'.cap=(cn s (op s g).ch).cap) (e3:c'.buf=(cn s (op s g).ch).buf)
  (er:c'.recv=if (op s g).kind=2 then (cn s (op s g).ch).recv else (cn s (op s g).ch).recv ++ [(gr s g).aK]) (es:c'.send=if (op s g).kind=2 then (cn s (op s g).ch).send ++ [(gr s g).aK] else (cn s (op s g).ch).send) :
  MInv (aa (av s (op s g).ch c') g { gr s g with jn:=a,place:=12 }):=by
 obtain ⟨c0,c1⟩:=h.qd hg (by omega) (by omega);have L:=h.loc hg;have hk:aD (gr s g)=op s g:=rfl;have ks:SR (gr s g):=k;have hm:=L.mi ks (by omega) (by omega);have eA:=fj s g;have ux:Own (gr s g) (gr s g).aK:=⟨hm.1,.inl ⟨ks,by omega,by omega,rfl⟩⟩
 have hO:=Inv.own h.v (g:Int) (by omega) (by omega) (gr s g).aK (by rw [eA];exact ux);have hM:=hO.2.1;rw [eA] at hM;obtain ⟨m1,m2,m3,m4⟩:SR (gr s g)∧(su s (gr s g).aK).cs=-1∧(su s (gr s g).aK).ch=(op s g).ch∧((su s (gr s g).aK).send=true↔(op s g).kind=2):=by
  rcases hM with w | w
  ·exact w
  ·exact absurd w.1 ks.ne
 obtain ⟨x,hx⟩:∃ x,({ gr s g with jn:=a,place:=12 }:Gr)=x:=⟨_,rfl⟩
 have h1:x.ops=(gr s g).ops∧x.at_=(gr s g).at_∧x.place=12∧x.status=(gr s g).status∧x.token=(gr s g).token∧x.param=(gr s g).param∧x.aK=(gr s g).aK∧x.ah=(gr s g).ah∧x.ak=(gr s g).ak:=by subst hx;simp
 have ho:aD x=aD (gr s g):=by subst hx;rfl
 have wk:=h.vO hg (by omega);have vP:SR x:=by unfold SR;rw [ho];exact ks
 have jb:¬ SE x:=vP.ne;have pm:(gr s g).param=-1:=by
  have:=L.p0
  by_cases c:0≤(gr s g).param
  ·have:=(L.p2 c).1;rcases this with w | w
   ·omega
   ·exact absurd w.1 ks.ne
  ·omega
 rw [hx];have r:Rest s (aa (av s (op s g).ch c') g x):=(Rest.av s _ c').trans (Rest.aa _ hg h1.2.1);refine h.rest r (V.of r (Inv.push h.v (g:=g) (i:=(gr s g).aK) (x:=x) (c:=(op s g).ch) (c':=c') (by omega) (by omega) (by rw [eA];exact ux) c0 c1 m3 ?_ ?_ ?_ ?_ ?_ ?_ ?_ ?_ ?_ ?_ ?_ e1 e2 e3 ?_ ?_) (fun j j0=>rz hg rfl j j0) (fun ch q=>mP c0 c1 rfl ch q) (fun _ _=>rfl))
 ·clear hx r;obtain ⟨a1,a2,a3,a4,a5,a6,a7,a8,a9,iy,jH,lX,oP,oQ,oR,mN,p6,p7,oS,oT,ru,oU⟩:=L
  constructor <;> simp only [Wt,SR,SE,e,st,Own,aZ,dG,ho,h1,hk] at * <;> grind
 ·intro ch;rw [eA];unfold aY;rw [ho,h1.2.2.1,e];simp only [jb,ks.ne,false_and,or_false]
  constructor <;> (intro w;exact ⟨w.1,w.2.1,w.2.2.1,by omega⟩)
 ·intro j;rw [eA];exact Own.Ba ks ho h1.2.2.2.2.2.2.1 (by omega) (by omega)
 ·intro j w;have w2:=(Own.Ba ks ho h1.2.2.2.2.2.2.1 (by omega) (by omega)).1 w;have:j=(gr s g).aK:=by
   rcases w2 with ⟨_,w | w⟩
   ·exact w.2.2.2.symm
   ·exact absurd w.1 ks.ne
  subst this;exact .inl ⟨vP,m2,by rw [ho];exact m3,by rw [ho];exact m4⟩
 ·rw [eA];rintro (w | w)
  ·omega
  ·exact absurd w.1 ks.ne
 ·rw [eA];rintro i j (w | w)
  ·omega
  ·exact absurd w.1 ks.ne
 ·exact .inl ⟨vP,by omega,by omega,h1.2.2.2.2.2.2.1,by rw [h1.2.2.2.2.2.1];exact pm⟩
 ·unfold cu;omega
 ·unfold cO;omega
 ·rw [eA];exact h1.2.2.2.2.2.2.2.1
 ·rw [eA];rintro (w | w)
  ·omega
  ·exact absurd w.1 ks.ne
 ·rw [er];by_cases q:(op s g).kind=2
  ·rw [if_pos q,if_pos (m4.2 q)]
  ·rw [if_neg q,if_neg (fun w=>q (m4.1 w))]
 ·rw [es];by_cases q:(op s g).kind=2
  ·rw [if_pos q,if_pos (m4.2 q)]
  ·rw [if_neg q,if_neg (fun w=>q (m4.1 w))]
theorem MInv.Kl (h:MInv s) (hg:g < s.gs.length) (st:(gr s g).status=0) (k:(op s g).kind=2∨(op s g).kind=3) (e:(gr s g).place=14) (r:Md.ai):MInv (aa s g { gr s g with res:=r,param:=-1,place:=15 }):=by
 have L:=h.loc hg;have hk:aD (gr s g)=op s g:=rfl;have ks:SR (gr s g):=k;have pm:=L.p1 e st;obtain ⟨x,hx⟩:∃ x,({ gr s g with res:=r,param:=-1,place:=15 }:Gr)=x:=⟨_,rfl⟩
 have h1:x.ops=(gr s g).ops∧x.at_=(gr s g).at_∧x.place=15∧x.status=(gr s g).status∧x.token=(gr s g).token∧x.param=-1∧x.aK=(gr s g).aK∧x.ah=(gr s g).ah∧x.ak=(gr s g).ak:=by subst hx;simp
 have ho:aD x=aD (gr s g):=by subst hx;rfl
 have wk:=h.vO hg (by omega);have vP:SR x:=by unfold SR;rw [ho];exact ks
 have jb:¬ SE x:=vP.ne;rw [hx];refine h.self hg ⟨?_,?_,?_,?_,?_,?_,?_,?_,?_⟩ h1.2.1 (fun w=>by unfold cu at w;omega)
 ·clear hx;obtain ⟨a1,a2,a3,a4,a5,a6,a7,a8,a9,iy,jH,lX,oP,oQ,oR,mN,p6,p7,oS,oT,ru,oU⟩:=L
  constructor <;> simp only [Wt,SR,SE,e,st,Own,aZ,dG,ho,h1,hk] at * <;> grind
 ·intro ch;unfold aY;rw [ho,h1.2.2.1,e];simp only [jb,ks.ne,false_and,or_false];omega
 ·intro j;exact Own.Ba ks ho h1.2.2.2.2.2.2.1 (by omega) (by omega)
 ·intro j d _ w;rcases w with w | w
  ·exact .inl ⟨vP,w.2.1,by rw [ho];exact w.2.2.1,by rw [ho];exact w.2.2.2⟩
  ·exact absurd w.1 ks.ne
 ·rintro i j (w | w)
  ·omega
  ·exact absurd w.1 ks.ne
 ·unfold cO;omega
 ·intro q;rw [h1.2.2.2.2.2.2.2.1];exact id
 ·intro w;exact absurd st (w.2.2.2 e)
 ·intro w;have:=w.2.1;omega
end Sx
end Go.Proofs.YtofnbflkhgammaaGreat
