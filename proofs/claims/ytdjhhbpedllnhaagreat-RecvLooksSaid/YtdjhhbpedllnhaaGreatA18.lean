/-
  What the laws need, part A18.
  Conditions: none.
-/
import Derived.Test.YtdjhhbpedllnhaaGreatA17
set_option linter.unusedVariables false
set_option linter.unusedSimpArgs false
set_option linter.unnecessarySimpa false
set_option maxHeartbeats 2000000
namespace Go.Proofs.YtdjhhbpedllnhaaGreat
namespace Sx
variable {s t:ah} {g:Nat} {nc ns n:Int}
theorem MInv.Cd (h:MInv s) (hg:g < s.gs.length) (w:cQ (aa s g)):∃ o,xq s g (su s (aa s g).hold).ch (aa s g).hold o∧1≤(su s (aa s g).hold).ch∧(su s (aa s g).hold).ch≤s.au.length∧bH (aa s g) (su s (aa s g).hold).ch∧((aa s g).hold∈(cn s (su s (aa s g).hold).ch).recv∨(aa s g).hold∈(cn s (su s (aa s g).hold).ch).send)∧0≤(su s (aa s g).hold).cs:=by
 have:=Inv.cU h.v g (by omega) (by omega);rw [fz] at this;obtain ⟨c0,c1,k1,k2,k3⟩:=this w;obtain ⟨o,q⟩:=h.vw (g:=g) c0 c1 k2;exact ⟨o,q,c0,c1,k1,k2,k3⟩
structure Gc (s:ah) (g:Nat) (i c:Int) (o:Nat):Prop where
 c0:1≤c
 c1:c≤s.au.length
 sc:(su s i).ch=c
 so:(su s i).g=o
 o1:o < s.gs.length
 ne:o≠g
 hh:bH (aa s g) c
 wt:Wt (aa s o)
 pm:(aa s o).param=-1
 own:Own (aa s o) i
 se:SE (aa s o)→(aa s o).aU=true
 sr:SR (aa s o)→i∉(cn s c).recv∧i∉(cn s c).send
theorem MInv.Gd (h:MInv s) (hg:g < s.gs.length) (w:c7 (aa s g)):∃ o,Gc s g (aa s g).hold (su s (aa s g).hold).ch o∧∀ k:Nat,k < s.gs.length→k≠g→c7 (aa s k)→(su s (aa s k).hold).g=o→False:=by
 have:=Inv.cl h.v g (by omega) (by omega);rw [fz] at this;obtain ⟨c0,c1,k1,k2,k3,k4,k5,k6,k7,k8,k9⟩:=this w;refine ⟨(su s (aa s g).hold).g.toNat,⟨c0,c1,rfl,by omega,by omega,by omega,k1,k5,k6,k7,k8,k9⟩,fun k a b cl e=>?_⟩;have:=Inv.sA h.v k g (by omega) (by omega) (by omega) (by omega) (by rw [fz];exact cl) (by rw [fz];exact w) (by rw [fz,fz];omega);omega
theorem zP {s:ah} {g o:Nat} {i:Int} {d:Bool} (hg:g < s.gs.length) (ho:o < s.gs.length) (so:(su s i).g=o) (bG:o≠g) :
  serve s g i d=ai (aN (ai s o { aa s o with param:=i }) i { su s i with done:=d }) g { aa s g with ak:=(aa s g).ak ++ [(o:Int)],hold:=-1 }:=by
 have g1:aa (aN (ai s o { aa s o with param:=i }) i { su s i with done:=d }) g=aa s g:=by rw [LU,fj ho,if_neg (by omega)]
 have e:serve s g i d=ai (aN (ai s (su s i).g.toNat { aa s (su s i).g.toNat with param:=i }) i { su s i with done:=d }) g { aa (aN (ai s (su s i).g.toNat { aa s (su s i).g.toNat with param:=i }) i { su s i with done:=d }) g with ak:=(aa (aN (ai s (su s i).g.toNat { aa s (su s i).g.toNat with param:=i }) i { su s i with done:=d }) g).ak ++ [(su s i).g],hold:=-1 }:=rfl;rw [e,so,Int.toNat_natCast,g1]
end Sx
namespace Sx
variable {s t:ah} {g:Nat} {nc ns n:Int}
theorem Loc.Ge {x:Gr} (L:Loc nc ns n x) {l:List Int} (h1:x.place=16∨x.place=17∨x.place=22∨x.place=23∨x.place=34∨x.place=30∧x.res.code≠0) (h2:∀ p∈l,0≤p∧p < n) (h3:l.Nodup) (h4:l≠[]):Loc nc ns n { x with ak:=l } :=
 ⟨L.oI,L.iC,L.a0,L.a1,L.pl,L.B0,L.jC,L.B1,L.B2,L.FX,L.tk,fun _=>h1,fun _=>h4,h2,h3,L.hd,L.mi,L.p0,L.p1,L.p2,L.p3,fun a b=>by
  obtain ⟨b1,b2,b3,b4,b5,b6,b7,b8,b9,lN,pN,sC,xg,zK,zL,xj,zM,xk,xl,zN⟩:=L.se a b;exact ⟨b1,b2,b3,b4,b5,b6,b7,b8,b9,lN,pN,sC,xg,zK,zL,xj,zM,xk,xl,zN⟩⟩
theorem MInv.s7 (h:MInv s) (hg:g < s.gs.length) (st:(aa s g).status=0) (k:2≤(ag s g).kind∧(ag s g).kind≤5) (e:(aa s g).place=7):MInv (cU s g 6 8):=by
 have hk:(aH (aa s g)).kind=(ag s g).kind:=rfl;have L:=h.loc hg;have eB:(aa s g).ak=[]:=by
  by_cases w:(aa s g).ak=[]
  ·exact w
  ·have:=L.w1 w;omega
 have hd:=L.hd (by omega);have go:∀ (x:Gr) (p:Int),p=6∨p=8→x.ops=(aa s g).ops→x.at_=(aa s g).at_→x.status=(aa s g).status→x.token=(aa s g).token→x.param=(aa s g).param→x.ak=(aa s g).ak→x.place=p→iw (aa s g) x:=by
  intro x p hp h1 h2 h3 h4 h5 h6 h7;refine ⟨h1,h2,h3,h4,h5,h6,by unfold SE;omega,st,by omega,by omega,by omega,?_,⟨by omega,by omega,by omega,by omega⟩,by omega,.inl eB⟩;unfold bJ;omega
 obtain ⟨o,q,c0,c1,hh,hq,jm⟩:=h.Cd hg (.inl e);have bG:o≠g:=q.ne h (go { aa s g with place:=6 } 6 (.inl rfl) rfl rfl rfl rfl rfl rfl rfl).nq
 cases hp:(aa s o).aU with
 | true =>
  rw [Mg (by rw [q.g_];exact hp)];rw [drop_eq rfl c0 c1];have G:=go { aa s g with hold:=-1,place:=6 } 6 (.inl rfl) rfl rfl rfl rfl rfl rfl rfl;refine h.xm hg G c0 c1 ⟨.inl ⟨rfl,G.hh (by rw [e];unfold hP;simp)⟩,h.g9 c0 c1,⟨iG,iG⟩,.inr hh⟩ (by unfold cQ;simp) (by simp)
 | false =>
  rw [Mh hg q.o1 q.g_ bG hp];have G:=go { aa s g with t:=s.step,bE:=s.step,wi:=o,place:=8 } 8 (.inr rfl) rfl rfl rfl rfl rfl rfl rfl;have zQ:=(G.hh (by rw [e];unfold hP;simp) (su s (aa s g).hold).ch).2 hh;have:=h.Cc hg q (c':=cn s (su s (aa s g).hold).ch) (G.loc L (fun _=>hd)) ⟨.inl ⟨rfl,G.hh (by rw [e];unfold hP;simp)⟩,h.g9 c0 c1,⟨List.Sublist.refl _,List.Sublist.refl _⟩,.inr hh⟩ (fun i=>⟨fun w=>absurd w (G.own i).2,fun w=>absurd w (G.own i).1⟩) (fun i d w=>absurd w (G.own i).2) G.nq (by unfold cQ;simp) (fun q=>id) G.nw (.inl rfl) rfl c0 c1 zQ hq (y:={ aa s o with aU:=true,bE:=s.step,wi:=g,dJ:=(su s (aa s g).hold).cs }) ⟨rfl,rfl,rfl,rfl,rfl,rfl,rfl,rfl,rfl,rfl,rfl⟩ rfl rfl rfl (.inr ⟨jm,hp,rfl,hh⟩) rfl;rw [Mb c0 c1] at this;exact this
theorem MInv.s8 (h:MInv s) (hg:g < s.gs.length) (st:(aa s g).status=0) (k:2≤(ag s g).kind∧(ag s g).kind≤5) (e:(aa s g).place=8) {o:Nat} {c i:Int} (hi:(aa s g).hold=i) (q:Gc s g i c o) (other:∀ k:Nat,k < s.gs.length→k≠g→c7 (aa s k)→(su s (aa s k).hold).g=o→False) (r:Md.an) (d:Su)
  (hd:d.g=(su s i).g∧d.ch=(su s i).ch∧d.cs=(su s i).cs∧d.send=(su s i).send∧d.live=(su s i).live) :
  MInv (ai (aN (ai (aA s c (bN (cn s c) i)) o { aa s o with param:=i }) i d) g { aa s g with ak:=(aa s g).ak ++ [(o:Int)],hold:=-1,res:=r,place:=16 }):=by
 have hk:(aH (aa s g)).kind=(ag s g).kind:=rfl;have L:=h.loc hg;have eB:(aa s g).ak=[]:=by
  by_cases w:(aa s g).ak=[]
  ·exact w
  ·have:=L.w1 w;omega
 have G:iw (aa s g) { aa s g with hold:=-1,res:=r,place:=16 }:=by
  refine ⟨rfl,rfl,rfl,rfl,rfl,rfl,by unfold SE;omega,st,by omega,by omega,by simp,?_,?_,?_,.inl eB⟩
  ·show bJ (aH (aa s g)).kind 16;rw [hk];unfold bJ;omega
  ·refine ⟨?_,?_,?_,?_⟩ <;> simp
  ·simp only;omega
 have G1:=G.loc L (by simp);have lx:Loc s.au.length s.aB.length s.gs.length { aa s g with ak:=(aa s g).ak ++ [(o:Int)],hold:=-1,res:=r,place:=16 } :=
  G1.Ge (.inl rfl) (by rw [eB];have:=q.o1;simp;omega) (by rw [eB];simp) (by simp)
 have zR:∀ i,¬ Own { aa s g with ak:=(aa s g).ak ++ [(o:Int)],hold:=-1,res:=r,place:=16 } i:=by
  rintro i ⟨_,w | w⟩
  ·have:=w.2.2.1;simp at this
  ·have:=w.1;unfold SE at this;have ho:aH { aa s g with ak:=(aa s g).ak ++ [(o:Int)],hold:=-1,res:=r,place:=16 }=aH (aa s g):=rfl;rw [ho] at this;omega
 have nY:∀ ch,bH { aa s g with ak:=(aa s g).ak ++ [(o:Int)],hold:=-1,res:=r,place:=16 } ch↔bH (aa s g) ch:=by
  intro ch;have:=G.hh (by rw [e];unfold hP;simp) ch;exact this
 refine h.Gb hg q.c0 q.c1 lx ⟨.inl ⟨rfl,nY⟩,h.g9 q.c0 q.c1,⟨iG,iG⟩,.inr q.hh⟩ (fun i=>⟨fun w=>absurd w (zR i),fun w=>absurd w (G.own i).1⟩) (fun i d w=>absurd w (zR i)) G.nq (by unfold cQ;simp) (by unfold c7;simp) (fun q hq=>?_) G.nw q.sc q.so q.o1 q.ne q.wt q.pm q.own (fun w=>q.se w) ⟨ng,ng⟩ other ⟨rfl,rfl,rfl,rfl,rfl,rfl,rfl,rfl,rfl,rfl,rfl⟩ rfl rfl rfl rfl hd;rcases List.mem_append.1 hq with w | w
 ·exact .inl w
 ·exact .inr (List.mem_singleton.1 w)
end Sx
namespace Sx
variable {s t:ah} {g:Nat} {nc ns n:Int}
theorem Mi {s:ah} {i:Int} {d:Su} (hi:0≤i) (fo:i < s.aB.length):su (aN s i d) i=d:=by
 rw [B5 hi fo rfl i hi,iF]
theorem VP {s:ah} {g o:Nat} {i c:Int} {d:Su} {x:Gr→Gr} {r:Md.an} {p:Int} (hg:g < s.gs.length) (ho:o < s.gs.length) (so:d.g=o) (bG:o≠g) (i0:0≤i) (i1:i < s.aB.length) :
  ai (serve (aN (aA s c (bN (cn s c) i)) i d) g i true) g { aa (serve (aN (aA s c (bN (cn s c) i)) i d) g i true) g with res:=r,place:=p } =
  ai (aN (ai (aA s c (bN (cn s c) i)) o { aa s o with param:=i }) i { d with done:=true }) g { aa s g with ak:=(aa s g).ak ++ [(o:Int)],hold:=-1,res:=r,place:=p }:=by
 have s1:su (aN (aA s c (bN (cn s c) i)) i d) i=d:=Mi i0 i1;have e:=zP (s:=aN (aA s c (bN (cn s c) i)) i d) (g:=g) (o:=o) (i:=i) (d:=true) hg ho (by rw [s1];exact so) bG;rw [e,s1];have g1:aa (aN (aA s c (bN (cn s c) i)) i d) g=aa s g:=rfl;have g2:aa (aN (aA s c (bN (cn s c) i)) i d) o=aa s o:=rfl;rw [g1,g2];have g3:∀ y z,aa (ai (aN (ai (aN (aA s c (bN (cn s c) i)) i d) o y) i { d with done:=true }) g z) g=z:=fun y z=>by
  rw [fj (by show g < (ai _ _ _).gs.length;rw [eV];exact hg),if_pos rfl]
 rw [g3];unfold ai aN aA;simp only [List.set_set]
theorem Mj {s:ah} {g o:Nat} {i c:Int} {r:Md.an} {p:Int} (hg:g < s.gs.length) (ho:o < s.gs.length) (so:(su s i).g=o) (bG:o≠g) :
  ai (serve (aA s c (bN (cn s c) i)) g i true) g { aa (serve (aA s c (bN (cn s c) i)) g i true) g with res:=r,place:=p } =
  ai (aN (ai (aA s c (bN (cn s c) i)) o { aa s o with param:=i }) i { su s i with done:=true }) g { aa s g with ak:=(aa s g).ak ++ [(o:Int)],hold:=-1,res:=r,place:=p }:=by
 have e:=zP (s:=aA s c (bN (cn s c) i)) (g:=g) (o:=o) (i:=i) (d:=true) hg ho so bG;rw [e];have g1:aa (aA s c (bN (cn s c) i)) g=aa s g:=rfl;have g2:aa (aA s c (bN (cn s c) i)) o=aa s o:=rfl;have g4:su (aA s c (bN (cn s c) i)) i=su s i:=rfl;rw [g1,g2,g4];have g3:∀ y z,aa (ai (aN (ai (aA s c (bN (cn s c) i)) o y) i { su s i with done:=true }) g z) g=z:=fun y z=>by
  rw [fj (by show g < (ai _ _ _).gs.length;rw [eV];exact hg),if_pos rfl]
 rw [g3];unfold ai aN aA;simp only [List.set_set]
theorem Ml {s:ah} {c c2 i:Int} {b:List Int} (c0:1≤c) (c1:c≤s.au.length) (d0:1≤c2) (d1:c2≤s.au.length) :
  aA (aA s c (bN (cn s c) i)) c2 { cn (aA s c (bN (cn s c) i)) c2 with buf:=b }=aA (aA s c2 { cn s c2 with buf:=b }) c (bN (cn (aA s c2 { cn s c2 with buf:=b }) c) i):=by
 have len:∀ (c:Int) (x:Cn),(aA s c x).au.length=s.au.length:=fun c x=>by simp [aA]
 have e1:cn (aA s c (bN (cn s c) i)) c2=up (cn s) c (bN (cn s c) i) c2:=m8 c0 c1 rfl c2 d0;have e2:cn (aA s c2 { cn s c2 with buf:=b }) c=up (cn s) c2 { cn s c2 with buf:=b } c:=m8 d0 d1 rfl c c0;rw [e1,e2]
 by_cases q:c2=c
 ·subst q;rw [iF,iF];unfold aA;simp only [List.set_set];rfl
 ·rw [jd _ _ q,jd _ _ (Ne.symm q)];unfold aA;simp only;rw [List.set_comm _ _ (by omega)]
theorem Mm (l:List Int) (r v:Int):(eF l r v).1.length=l.length:=by
 unfold eF
 split
 ·rfl
 ·rename_i h;have:l.length≠0:=fun e=>h (.inr e)
  simp;omega
theorem MInv.VQ (h:MInv s) (hg:g < s.gs.length) (st:(aa s g).status=0) (k:2≤(ag s g).kind∧(ag s g).kind≤5) (e:(aa s g).place=8) (v:Int):MInv (ai (nE s g v) g { aa (nE s g v) g with res:=gj,place:=16 }):=by
 obtain ⟨o,q,tY⟩:=h.Gd hg (.inl e);have L:=h.loc hg;have hd:=L.hd (by omega);unfold nE;simp only;rw [drop_eq q.sc q.c0 q.c1];have e1:su (aA s (su s (aa s g).hold).ch (bN (cn s (su s (aa s g).hold).ch) (aa s g).hold)) (aa s g).hold=su s (aa s g).hold:=rfl;rw [e1,VP (x:=id) hg q.o1 (by exact q.so) q.ne hd.1 hd.2];exact h.s8 hg st k e rfl q tY _ _ ⟨rfl,rfl,rfl,rfl,rfl⟩
theorem MInv.VR (h:MInv s) (hg:g < s.gs.length) (st:(aa s g).status=0) (k:2≤(ag s g).kind∧(ag s g).kind≤5) (e:(aa s g).place=8) :
  MInv (ai (serve (hand (aT s (aa s g).hold) (ag s g).ch (aa s g).hold).1 g (aa s g).hold true) g { aa (serve (hand (aT s (aa s g).hold) (ag s g).ch (aa s g).hold).1 g (aa s g).hold true) g with res:=cZ (hand (aT s (aa s g).hold) (ag s g).ch (aa s g).hold).2 true,place:=16 }):=by
 obtain ⟨o,q,tY⟩:=h.Gd hg (.inl e);obtain ⟨d0,d1⟩:=h.kn hg (by omega) (by omega);have L:=h.loc hg;have hd:=L.hd (by omega);generalize (cZ (hand (aT s (aa s g).hold) (ag s g).ch (aa s g).hold).2 true)=r;unfold hand;simp only;rw [drop_eq q.sc q.c0 q.c1]
 split
 ·rw [Mj hg q.o1 q.so q.ne];exact h.s8 hg st k e rfl q tY _ _ ⟨rfl,rfl,rfl,rfl,rfl⟩
 ·simp only;rw [Ml q.c0 q.c1 d0 d1];obtain ⟨b,hb,dU⟩:∃ b,(eF (cn (aA s (su s (aa s g).hold).ch (bN (cn s (su s (aa s g).hold).ch) (aa s g).hold)) (ag s g).ch).buf (cn (aA s (su s (aa s g).hold).ch (bN (cn s (su s (aa s g).hold).ch) (aa s g).hold)) (ag s g).ch).cap (su (aA s (su s (aa s g).hold).ch (bN (cn s (su s (aa s g).hold).ch) (aa s g).hold)) (aa s g).hold).v).1=b∧b.length=(cn s (ag s g).ch).buf.length:=by
   refine ⟨_,rfl,?_⟩;rw [Mm,m8 q.c0 q.c1 rfl _ d0];unfold up
   split
   ·rename_i c;rw [c];rfl
   ·rfl
  rw [hb];have r9:=h.g9 d0 d1;have h2:MInv (aA s (ag s g).ch { cn s (ag s g).ch with buf:=b }):=h.buf d0 d1 rfl rfl rfl ⟨r9.1,r9.2.1,by simp only;rw [dU];exact r9.2.2⟩;obtain ⟨s2,jf⟩:∃ s2,aA s (ag s g).ch { cn s (ag s g).ch with buf:=b }=s2:=⟨_,rfl⟩
  have eg:∀ j,aa s2 j=aa s j:=fun j=>by rw [← jf];rfl
  have es:∀ j,su s2 j=su s j:=fun j=>by rw [← jf];rfl
  have el:s2.gs.length=s.gs.length:=by rw [← jf];rfl
  have ec:s2.au.length=s.au.length:=by rw [← jf];simp [aA]
  have eq:∀ ch,1≤ch→(cn s2 ch).recv=(cn s ch).recv∧(cn s2 ch).send=(cn s ch).send:=by
   intro ch a;rw [← jf,m8 d0 d1 rfl ch a];unfold up
   split
   ·rename_i c;rw [c];exact ⟨rfl,rfl⟩
   ·exact ⟨rfl,rfl⟩
  rw [jf] at h2 ⊢;have eo:ag s2 g=ag s g:=by unfold ag;rw [eg]
  rw [← es,← eg];rw [Mj (by rw [el];exact hg) (by rw [el];exact q.o1) (by rw [es,eg];exact q.so) q.ne];refine h2.s8 (by rw [el];exact hg) (by rw [eg];exact st) (by rw [eo];exact k) (by rw [eg];exact e) rfl ⟨?_,?_,rfl,?_,?_,q.ne,?_,?_,?_,?_,?_,?_⟩ ?_ _ _ ⟨rfl,rfl,rfl,rfl,rfl⟩
  ·rw [es,eg];exact q.c0
  ·rw [es,eg,ec];exact q.c1
  ·rw [es,eg];exact q.so
  ·rw [el];exact q.o1
  ·rw [es,eg];exact q.hh
  ·rw [eg];exact q.wt
  ·rw [eg];exact q.pm
  ·rw [eg,eg];exact q.own
  ·rw [eg];exact q.se
  ·rw [es,eg,eg,(eq _ q.c0).1,(eq _ q.c0).2];exact q.sr
  ·intro k a b;rw [eg,es];exact tY k (by rw [← el];exact a) b
end Sx
namespace Sx
variable {s t:ah} {g:Nat} {nc ns n:Int}
theorem MInv.xu (h:MInv s) (hg:g < s.gs.length) (e:(aa s g).place≤15∨18≤(aa s g).place∧(aa s g).place≤21∨24≤(aa s g).place∧(aa s g).place≤29):(aa s g).ak=[]:=by
 by_cases w:(aa s g).ak=[]
 ·exact w
 ·have:=(h.loc hg).w1 w;omega
theorem MInv.Gf (h:MInv s) (hg:g < s.gs.length) (st:(aa s g).status=0) (k:(ag s g).kind≤8) (e:1≤(aa s g).place∧(aa s g).place≤10∨(aa s g).place=20∨(aa s g).place=21) {x:Gr} (h1:x.ops=(aa s g).ops) (h2:x.at_=(aa s g).at_) (h3:x.status=(aa s g).status) (h4:x.token=(aa s g).token) (h5:x.param=(aa s g).param) (h6:x.ak=(aa s g).ak)
  (ok:bJ (ag s g).kind x.place) (p:1≤x.place∧x.place≤10∨x.place=16∨x.place=18∨x.place=20∨x.place=22):iw (aa s g) x:=by
 have hk:(aH (aa s g)).kind=(ag s g).kind:=rfl;refine ⟨h1,h2,h3,h4,h5,h6,by unfold SE;omega,st,by omega,by omega,by omega,ok,⟨by omega,by omega,by omega,by omega⟩,by omega,.inl (h.xu hg (by omega))⟩
theorem MInv.iP (h:MInv s) (hg:g < s.gs.length) (st:(aa s g).status=0) (k:(ag s g).kind≤8) (e:1≤(aa s g).place∧(aa s g).place≤10∨(aa s g).place=20∨(aa s g).place=21) {x:Gr} (h1:x.ops=(aa s g).ops) (h2:x.at_=(aa s g).at_) (h3:x.status=(aa s g).status) (h4:x.token=(aa s g).token) (h5:x.param=(aa s g).param) (h6:x.ak=(aa s g).ak)
  (ok:bJ (ag s g).kind x.place) (p:1≤x.place∧x.place≤6∨x.place=9∨x.place=10∨x.place=16∨x.place=18∨x.place=20∨x.place=22) (hp:hP (aa s g).place↔hP x.place):MInv (ai s g x) :=
 h.LS hg (h.Gf hg st k e h1 h2 h3 h4 h5 h6 ok (by omega)) hp (by unfold cQ;omega) (by omega)
theorem MInv.s9 (h:MInv s) (hg:g < s.gs.length) (st:(aa s g).status=0) (k:2≤(ag s g).kind∧(ag s g).kind≤5) (e:(aa s g).place=9) {b:List Int} (hb:(b.length:Int)≤(cn s (ag s g).ch).cap) (r:Md.an):MInv (br (aA s (ag s g).ch { cn s (ag s g).ch with buf:=b }) g r 16):=by
 obtain ⟨c0,c1⟩:=h.kn hg (by omega) (by omega);have G:=h.Gf hg st (by omega) (by omega) (x:={ aa s g with bE:=s.step,res:=r,place:=16 }) rfl rfl rfl rfl rfl rfl (by show bJ _ 16;unfold bJ;omega) (by simp);have hc:=h.g9 c0 c1;exact h.xm hg G c0 c1 ⟨.inl ⟨rfl,G.hh (by rw [e];unfold hP;simp)⟩,⟨hc.1,hc.2.1,hb⟩,⟨List.Sublist.refl _,List.Sublist.refl _⟩,.inl ⟨rfl,rfl⟩⟩ (by unfold cQ;simp) (by simp)
theorem MInv.pE (h:MInv s) (hg:g < s.gs.length) (st:(aa s g).status=0) (k:(ag s g).kind=2∨(ag s g).kind=3) (e:(aa s g).place=10) {d:Su} (hd:d.g=g∧d.cs=-1∧d.ch=(ag s g).ch∧(d.send=true↔(ag s g).kind=2)):MInv (aI s g d):=by
 have L:=h.loc hg;have hk:aH (aa s g)=ag s g:=rfl;have ks:SR (aa s g):=k;unfold aI
 split
 ·rename_i ok;have T:=B9 h hg ok;obtain ⟨i,hi⟩:∃ i,(aQ s g).2.1=i:=⟨_,rfl⟩
  rw [hi] at T ⊢;obtain ⟨x,hx⟩:∃ x,({ aa s g with aI:=i,place:=11 }:Gr)=x:=⟨_,rfl⟩
  rw [hx];have h1:x.ops=(aa s g).ops∧x.at_=(aa s g).at_∧x.place=11∧x.status=(aa s g).status∧x.token=(aa s g).token∧x.param=(aa s g).param∧x.aI=i∧x.ak=(aa s g).ak∧x.ax=(aa s g).ax:=by subst hx;simp
  have ho:aH x=aH (aa s g):=by subst hx;rfl
  have wk:=h.xu hg (by omega);have i0:=T.i0;have i1:=T.i1;have nO:∀ j,¬ Own (aa s g) j:=by
   rintro j ⟨_,w | w⟩
   ·omega
   ·exact absurd w.1 ks.ne
  have jF:¬ SE x:=by unfold SE;rw [ho];exact ks.ne
  refine h.take hg T (x:=x) (d:=d) ?_ ?_ ?_ (fun j w=>absurd w (nO j)) ?_ hd.1 ?_ ?_ ?_ (by rw [h1.2.2.2.2.2.2.2.1]) ?_ h1.2.1
  ·clear hx;obtain ⟨a1,a2,a3,a4,a5,a6,a7,a8,a9,iA,jy,mY,pG,pH,pI,nQ,qP,qQ,pJ,pK,sB,pM⟩:=L
   constructor <;> simp only [Wt,SR,SE,e,st,Own,bJ,dV,ho,h1,hk] at * <;> grind
  ·intro ch;unfold bH;rw [ho,h1.2.2.1,e];simp only [jF,ks.ne,false_and,or_false]
   constructor <;> (intro w;exact ⟨w.1,w.2.1,w.2.2.1,by omega⟩)
  ·intro j
   constructor
   ·rintro ⟨_,w | w⟩
    ·exact .inr (w.2.2.2.symm.trans h1.2.2.2.2.2.2.1)
    ·exact absurd w.1 jF
   ·rintro (w | w)
    ·exact absurd w (nO j)
    ·subst w;exact ⟨i0,.inl ⟨by unfold SR;rw [ho];exact ks,by omega,by omega,h1.2.2.2.2.2.2.1⟩⟩
  ·exact .inl ⟨by unfold SR;rw [ho];exact ks,hd.2.1,by rw [ho,hk];exact hd.2.2.1,by rw [ho,hk];exact hd.2.2.2⟩
  ·rintro j l (w | w)
   ·omega
   ·exact absurd w.1 ks.ne
  ·unfold cQ;omega
  ·unfold c7;omega
  ·rintro (w | w)
   ·omega
   ·exact absurd w.1 ks.ne
 ·rename_i ok;have e1:(aQ s g).1=s:=by
   unfold aQ at ok ⊢
   split
   ·rename_i c;rw [if_pos c] at ok
    split
    ·rename_i c2;rw [if_pos c2] at ok;simp at ok
    ·rfl
   ·rename_i c;rw [if_neg c] at ok;simp at ok
  rw [e1];exact h.iP hg st (by omega) (by omega) (x:={ aa s g with res:={ (aa s g).res with code:=6 },place:=16 }) rfl rfl rfl rfl rfl rfl (by show bJ _ 16;unfold bJ;omega) (by simp) (by rw [e];unfold hP;simp)
theorem MInv.tT (h:MInv s) (hg:g < s.gs.length) (st:(aa s g).status=0) (k:(ag s g).kind=2∨(ag s g).kind=3) (e:(aa s g).place=11) {c':Cn} {a:Int} (e1:c'.lock=(cn s (ag s g).ch).lock) (e2:c'.cap=(cn s (ag s g).ch).cap) (e3:c'.buf=(cn s (ag s g).ch).buf)
  (er:c'.recv=if (ag s g).kind=2 then (cn s (ag s g).ch).recv else (cn s (ag s g).ch).recv ++ [(aa s g).aI]) (es:c'.send=if (ag s g).kind=2 then (cn s (ag s g).ch).send ++ [(aa s g).aI] else (cn s (ag s g).ch).send) :
  MInv (ai (aA s (ag s g).ch c') g { aa s g with iJ:=a,place:=12 }):=by
 obtain ⟨c0,c1⟩:=h.kn hg (by omega) (by omega);have L:=h.loc hg;have hk:aH (aa s g)=ag s g:=rfl;have ks:SR (aa s g):=k;have hm:=L.mi ks (by omega) (by omega);have eA:=fz s g;have vv:Own (aa s g) (aa s g).aI:=⟨hm.1,.inl ⟨ks,by omega,by omega,rfl⟩⟩
 have hO:=Inv.own h.v (g:Int) (by omega) (by omega) (aa s g).aI (by rw [eA];exact vv);have hM:=hO.2.1;rw [eA] at hM;obtain ⟨m1,m2,m3,m4⟩:SR (aa s g)∧(su s (aa s g).aI).cs=-1∧(su s (aa s g).aI).ch=(ag s g).ch∧((su s (aa s g).aI).send=true↔(ag s g).kind=2):=by
  rcases hM with w | w
  ·exact w
  ·exact absurd w.1 ks.ne
 obtain ⟨x,hx⟩:∃ x,({ aa s g with iJ:=a,place:=12 }:Gr)=x:=⟨_,rfl⟩
 have h1:x.ops=(aa s g).ops∧x.at_=(aa s g).at_∧x.place=12∧x.status=(aa s g).status∧x.token=(aa s g).token∧x.param=(aa s g).param∧x.aI=(aa s g).aI∧x.ak=(aa s g).ak∧x.ax=(aa s g).ax:=by subst hx;simp
 have ho:aH x=aH (aa s g):=by subst hx;rfl
 have wk:=h.xu hg (by omega);have xw:SR x:=by unfold SR;rw [ho];exact ks
 have jF:¬ SE x:=xw.ne;have pm:(aa s g).param=-1:=by
  have:=L.p0
  by_cases c:0≤(aa s g).param
  ·have:=(L.p2 c).1;rcases this with w | w
   ·omega
   ·exact absurd w.1 ks.ne
  ·omega
 rw [hx];have r:Rest s (ai (aA s (ag s g).ch c') g x):=(Rest.dQ s _ c').trans (Rest.dK _ hg h1.2.1);refine h.rest r (V.of r (Inv.push h.v (g:=g) (i:=(aa s g).aI) (x:=x) (c:=(ag s g).ch) (c':=c') (by omega) (by omega) (by rw [eA];exact vv) c0 c1 m3 ?_ ?_ ?_ ?_ ?_ ?_ ?_ ?_ ?_ ?_ ?_ e1 e2 e3 ?_ ?_) (fun j j0=>sD hg rfl j j0) (fun ch q=>m8 c0 c1 rfl ch q) (fun _ _=>rfl))
 ·clear hx r;obtain ⟨a1,a2,a3,a4,a5,a6,a7,a8,a9,iA,jy,mY,pG,pH,pI,nQ,qP,qQ,pJ,pK,sB,pM⟩:=L
  constructor <;> simp only [Wt,SR,SE,e,st,Own,bJ,dV,ho,h1,hk] at * <;> grind
 ·intro ch;rw [eA];unfold bH;rw [ho,h1.2.2.1,e];simp only [jF,ks.ne,false_and,or_false]
  constructor <;> (intro w;exact ⟨w.1,w.2.1,w.2.2.1,by omega⟩)
 ·intro j;rw [eA];exact Own.B8 ks ho h1.2.2.2.2.2.2.1 (by omega) (by omega)
 ·intro j w;have w2:=(Own.B8 ks ho h1.2.2.2.2.2.2.1 (by omega) (by omega)).1 w;have:j=(aa s g).aI:=by
   rcases w2 with ⟨_,w | w⟩
   ·exact w.2.2.2.symm
   ·exact absurd w.1 ks.ne
  subst this;exact .inl ⟨xw,m2,by rw [ho];exact m3,by rw [ho];exact m4⟩
 ·rw [eA];rintro (w | w)
  ·omega
  ·exact absurd w.1 ks.ne
 ·rw [eA];rintro i j (w | w)
  ·omega
  ·exact absurd w.1 ks.ne
 ·exact .inl ⟨xw,by omega,by omega,h1.2.2.2.2.2.2.1,by rw [h1.2.2.2.2.2.1];exact pm⟩
 ·unfold cQ;omega
 ·unfold c7;omega
 ·rw [eA];exact h1.2.2.2.2.2.2.2.1
 ·rw [eA];rintro (w | w)
  ·omega
  ·exact absurd w.1 ks.ne
 ·rw [er];by_cases q:(ag s g).kind=2
  ·rw [if_pos q,if_pos (m4.2 q)]
  ·rw [if_neg q,if_neg (fun w=>q (m4.1 w))]
 ·rw [es];by_cases q:(ag s g).kind=2
  ·rw [if_pos q,if_pos (m4.2 q)]
  ·rw [if_neg q,if_neg (fun w=>q (m4.1 w))]
theorem MInv.Mn (h:MInv s) (hg:g < s.gs.length) (st:(aa s g).status=0) (k:(ag s g).kind=2∨(ag s g).kind=3) (e:(aa s g).place=14) (r:Md.an):MInv (ai s g { aa s g with res:=r,param:=-1,place:=15 }):=by
 have L:=h.loc hg;have hk:aH (aa s g)=ag s g:=rfl;have ks:SR (aa s g):=k;have pm:=L.p1 e st;obtain ⟨x,hx⟩:∃ x,({ aa s g with res:=r,param:=-1,place:=15 }:Gr)=x:=⟨_,rfl⟩
 have h1:x.ops=(aa s g).ops∧x.at_=(aa s g).at_∧x.place=15∧x.status=(aa s g).status∧x.token=(aa s g).token∧x.param=-1∧x.aI=(aa s g).aI∧x.ak=(aa s g).ak∧x.ax=(aa s g).ax:=by subst hx;simp
 have ho:aH x=aH (aa s g):=by subst hx;rfl
 have wk:=h.xu hg (by omega);have xw:SR x:=by unfold SR;rw [ho];exact ks
 have jF:¬ SE x:=xw.ne;rw [hx];refine h.self hg ⟨?_,?_,?_,?_,?_,?_,?_,?_,?_⟩ h1.2.1 (fun w=>by unfold cQ at w;omega)
 ·clear hx;obtain ⟨a1,a2,a3,a4,a5,a6,a7,a8,a9,iA,jy,mY,pG,pH,pI,nQ,qP,qQ,pJ,pK,sB,pM⟩:=L
  constructor <;> simp only [Wt,SR,SE,e,st,Own,bJ,dV,ho,h1,hk] at * <;> grind
 ·intro ch;unfold bH;rw [ho,h1.2.2.1,e];simp only [jF,ks.ne,false_and,or_false];omega
 ·intro j;exact Own.B8 ks ho h1.2.2.2.2.2.2.1 (by omega) (by omega)
 ·intro j d _ w;rcases w with w | w
  ·exact .inl ⟨xw,w.2.1,by rw [ho];exact w.2.2.1,by rw [ho];exact w.2.2.2⟩
  ·exact absurd w.1 ks.ne
 ·rintro i j (w | w)
  ·omega
  ·exact absurd w.1 ks.ne
 ·unfold c7;omega
 ·intro q;rw [h1.2.2.2.2.2.2.2.1];exact id
 ·intro w;exact absurd st (w.2.2.2 e)
 ·intro w;have:=w.2.1;omega
end Sx
end Go.Proofs.YtdjhhbpedllnhaaGreat
