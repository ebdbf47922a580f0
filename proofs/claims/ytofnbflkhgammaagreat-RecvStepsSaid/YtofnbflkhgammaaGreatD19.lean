/-
  What the laws need, part D19.
  Conditions: none.
-/
import Derived.Test.YtofnbflkhgammaaGreatD18
set_option linter.unusedVariables false
set_option linter.unusedSimpArgs false
set_option linter.unnecessarySimpa false
set_option maxHeartbeats 2000000
namespace Go.Proofs.YtofnbflkhgammaaGreat
namespace Sx
variable {s t:ah} {g:Nat} {nc ns n:Int} {x y:Gr}
theorem vw (hz:SE x) (ch:Int):bE x ch↔(25≤x.place∧x.place≤29∨x.place=32)∧ch∈x.aF∨(x.place=24∨x.place=31∨x.place=30∨x.place=33)∧ch∈x.aF.take x.k.toNat:=by
 unfold bE;have:(aG x).kind=9:=hz
 constructor
 ·rintro (w | w)
  ·omega
  ·exact w.2
 ·intro w;exact .inr ⟨hz,w⟩
def j6 (x:Gr):Prop:=25≤x.place∧x.place≤29∨x.place=32∨(x.place=30∨x.place=33)∧x.k=x.aF.length
theorem mV (hz:SE x) (h:j6 x) (ch:Int):bE x ch↔ch∈x.aF:=by
 rw [vw hz];rcases h with h | h | h
 ·constructor
  ·rintro (w | w)
   ·exact w.2
   ·omega
  ·intro w;exact .inl ⟨.inl h,w⟩
 ·constructor
  ·rintro (w | w)
   ·exact w.2
   ·omega
  ·intro w;exact .inl ⟨.inr h,w⟩
 ·rw [MX h.2]
  constructor
  ·rintro (w | w) <;> exact w.2
  ·intro w;exact .inr ⟨by omega,w⟩
theorem MInv.qU (h:MInv s) (hg:g < s.gs.length) (e:24≤(aa s g).place∧(aa s g).place≤29∨31≤(aa s g).place∧(aa s g).place≤33∨(aa s g).place=14∨(aa s g).place=13∨(aa s g).place=30∧(aa s g).res.code=0):(aa s g).an=[]:=by
 by_cases w:(aa s g).an=[]
 ·exact w
 ·have:=(h.loc hg).w1 w;omega
theorem gB.polls (tZ:0≤ns) (b:gB nc ns x) (h:jB x y) (e:25≤x.place∧x.place≤27)
  (hp:(25≤y.place∧y.place≤27)∧0≤y.k∧y.k < x.order.length∧y.ay=[]∧y.res.code=0∨y.place=30∧y.k=x.aF.length∧y.ay=[]∧y.res.code≠0 ∨
   y.place=28∧y.k=0∧y.ay=List.replicate (aG x).cases.length (-1)∧y.res.code=0):gB nc ns y:=by
 have ho:=h.aG;have hc:=h.ch;have o1:=b.o1;have l3:=b.l3;have o3:=b.o3;have hk:0≤y.k∧(25≤y.place∧y.place≤29∨y.place=32∨y.place=34→y.k < x.order.length)∧(y.place=30∨y.place=33→1≤y.k∧y.k≤x.aF.length):=by omega
 have no:y.place≠24∧y.place≠29∧y.place≠31∧y.place≠32∧y.place≠33∧y.place≠34∧y.place≠13∧y.place≠14:=by omega
 have hs:y.ay=[]∨y.ay=List.replicate (aG x).cases.length (-1):=by
  rcases hp with w | w | w
  ·exact .inl w.2.2.2.1
  ·exact .inl w.2.2.1
  ·exact .inr w.2.2.1
 have rep:∀ j:Int,0≤j→j < y.ay.length→aD y.ay j=-1:=by
  intro j a c;rcases hs with w | w
  ·rw [w] at c;simp at c;omega
  ·rw [w] at c ⊢;simp only [List.length_replicate] at c;unfold aD;rw [List.getD_eq_getElem?_getD,List.getElem?_replicate];rw [if_pos (by omega)];rfl
 constructor
 ·rw [h.order,h.aF,ho];simp only [hc];exact o1
 ·rw [h.order];exact b.o2
 ·rw [h.order];exact b.o3
 ·rw [h.aF];exact b.l1
 ·rw [h.aF];exact b.l2
 ·rw [h.aF];exact b.l3
 ·exact hk.1
 ·intro c;omega
 ·rw [h.order];exact hk.2.1
 ·rw [h.aF];exact hk.2.2
 ·intro c;rcases hp with w | w | w
  ·exact w.2.2.2.1
  ·exact w.2.2.1
  ·omega
 ·intro c;rcases hp with w | w | w
  ·omega
  ·omega
  ·rw [w.2.2.1,ho,List.length_replicate]
 ·intro c;rcases hp with w | w | w
  ·omega
  ·exact .inr ⟨w.2.2.1,w.2.2.2⟩
  ·omega
 ·intro j a c;have:=rep j a c;rw [this];exact ⟨by decide,by omega,fun c=>absurd c (by decide)⟩
 ·intro c j hj;rw [h.order] at hj;have:=o1 j (List.mem_of_mem_drop hj);rcases hp with w | w | w
  ·omega
  ·omega
  ·exact rep j this.1 (by rw [w.2.2.1,List.length_replicate];exact this.2.1)
 ·intro c;rcases hp with w | w | w
  ·omega
  ·omega
  ·omega
 ·intro c;omega
 ·intro c;rcases hp with w | w | w
  ·exact w.2.2.2.2
  ·omega
  ·exact w.2.2.2
 ·intro c;omega
 ·intro c j hj;rcases hp with w | w | w
  ·omega
  ·omega
  ·rw [w.2.1] at hj;simp at hj
theorem xD {x:Gr} (hs:SE x) (h:24≤x.place∧x.place≤27∨x.ay=[]∨∀ i∈x.ay,i=-1) (i:Int):¬ Own x i:=by
 rintro ⟨w0,w | w⟩
 ·exact w.1.ne hs
 ·rcases h with h | h | h
  ·have:=w.2.1;omega
  ·rw [h] at w;simp at w
  ·have:=h i w.2.2;omega
theorem sF {x:Gr} (hs:SE x) (h:24≤x.place∧x.place≤28∨x.place=33∨x.place=34∨x.place=30∧x.res.code≠0) (i j:Int):¬ de x i j:=by
 rintro (w | w)
 ·exact w.1.ne hs
 ·have:=w.2.2.2.2;omega
structure Poll (ns:Int) (x y:Gr):Prop where
 kp:jB x y
 hp:(25≤y.place∧y.place≤27)∧0≤y.k∧y.k < x.order.length∧y.ay=[]∧y.res.code=0∨y.place=30∧y.k=x.aF.length∧y.ay=[]∧y.res.code≠0 ∨
   y.place=28∧y.k=0∧y.ay=List.replicate (aG x).cases.length (-1)∧y.res.code=0
 hd:y.place=26∨y.place=27→0≤y.hold∧y.hold < ns
theorem Poll.loc {x y:Gr} (f:Poll ns x y) (L:Loc nc ns n x) (b:gB nc ns x) (hs:SE x) (st:x.status=0) (e:25≤x.place∧x.place≤27) (wk:y.an=[]) (tZ:0≤ns):Loc nc ns n y:=by
 have hp:=f.hp;obtain ⟨pm,tk⟩:=L.vv (oJ (x:=x) (by omega));refine L.mS hs (by omega) f.kp.ops f.kp.at_ (by rw [f.kp.status];exact st) (by rw [f.kp.token];exact tk) (by rw [f.kp.param];exact pm) (by omega) (by rw [wk];simp) (by rw [wk];simp) (by rw [wk];simp) f.hd tZ (b.polls tZ f.kp e hp)
theorem Poll.j6 {x y:Gr} (f:Poll ns x y):j6 y:=by
 have hp:=f.hp;have:=f.kp.aF;unfold Sx.j6;rw [this];omega
theorem Poll.sM {x y:Gr} (f:Poll ns x y) (hs:SE x) (i:Int):¬ Own y i:=by
 refine xD (f.kp.se.2 hs) ?_ i;rcases f.hp with w | w | w
 ·exact .inr (.inl w.2.2.2.1)
 ·exact .inr (.inl w.2.2.1)
 ·refine .inr (.inr fun i hi=>?_);rw [w.2.2.1] at hi;exact (List.mem_replicate.1 hi).2
theorem Poll.holds {x y:Gr} (f:Poll ns x y) (hs:SE x) (e:25≤x.place∧x.place≤27) (ch:Int):bE y ch↔bE x ch:=by
 rw [mV (f.kp.se.2 hs) f.j6,mV hs (by unfold Sx.j6;omega),f.kp.aF]
theorem MInv.M0 (h:MInv s) (hg:g < s.gs.length) (st:(aa s g).status=0) (k:(ag s g).kind=9) (e:25≤(aa s g).place∧(aa s g).place≤27) {y:Gr} (f:Poll s.aC.length (aa s g) y) (wk:y.an=(aa s g).an) (n2:y.place≠26∧y.place≠27) {c:Int} {c':Cn} (c0:1≤c) (c1:c≤s.au.length)
  (e1:c'.lock=(cn s c).lock) (e2:0≤c'.cap∧c'.cap≤4∧(c'.buf.length:Int)≤c'.cap) (e3:c'.recv.Sublist (cn s c).recv∧c'.send.Sublist (cn s c).send) (e4:c'.recv=(cn s c).recv∧c'.send=(cn s c).send∨bE (aa s g) c):MInv (ai (aE s c c') g y):=by
 have L:=h.loc hg;have kx:SE (aa s g):=k;have b:=h.j5 hg k (by unfold dQ;omega);have ei:=h.qU hg (by omega);have nw:¬ Wt (aa s g):=oJ (by omega);exact h.chan hg c0 c1 (f.loc L b kx st e (wk.trans ei) h.jb) ⟨.inl ⟨e1,f.holds kx e⟩,e2,e3,e4⟩ (fun i=>⟨fun w=>absurd w (f.sM kx i),fun w=>absurd w (xD kx (.inl ⟨by omega,by omega⟩) i)⟩) (fun i d w=>absurd w (f.sM kx i)) (fun i j w=>absurd w (sF kx (by omega) i j)) (by have:=f.hp;unfold cI;omega) (by have:=f.hp;unfold cX;omega) (fun q=>by rw [wk];exact id) (fun w=>absurd w.1 nw) (fun w=>absurd w.1 nw) f.kp.at_
theorem MInv.Cl (h:MInv s) (hg:g < s.gs.length) (st:(aa s g).status=0) (k:(ag s g).kind=9) (e:25≤(aa s g).place∧(aa s g).place≤27) {y:Gr} (f:Poll s.aC.length (aa s g) y) (wk:y.an=(aa s g).an) (n2:y.place≠27)
  (wn:cI y→1≤(su s y.hold).ch∧(su s y.hold).ch≤s.au.length∧bE y (su s y.hold).ch∧(y.hold∈(cn s (su s y.hold).ch).recv∨y.hold∈(cn s (su s y.hold).ch).send)∧0≤(su s y.hold).cs):MInv (ai s g y):=by
 have L:=h.loc hg;have kx:SE (aa s g):=k;have b:=h.j5 hg k (by unfold dQ;omega);have ei:=h.qU hg (by omega);have nw:¬ Wt (aa s g):=oJ (by omega);exact h.self hg ⟨f.loc L b kx st e (wk.trans ei) h.jb,f.holds kx e,fun i=>⟨fun w=>absurd w (f.sM kx i),fun w=>absurd w (xD kx (.inl ⟨by omega,by omega⟩) i)⟩,fun i d w=>absurd w (f.sM kx i),fun i j w=>absurd w (sF kx (by omega) i j),by have:=f.hp;unfold cX;omega,fun q=>by rw [wk];exact id,fun w=>absurd w.1 nw,fun w=>absurd w.1 nw⟩ f.kp.at_ wn
theorem gB.hand (b:gB nc ns x) (k:25≤x.place∧x.place≤29∨x.place=32∨x.place=34):aD x.order x.k∈x.order∧0≤aD x.order x.k∧aD x.order x.k < (aG x).cases.length∧bV x (aD x.order x.k)∈x.aF∧1≤bV x (aD x.order x.k)∧bV x (aD x.order x.k)≤nc:=by
 have hm:=rQ b.k0 (b.k2 k);have o:=b.o1 _ hm;have l:=b.l1 _ o.2.2;exact ⟨hm,o.1,o.2.1,o.2.2,l.1,l.2⟩
theorem V7 {s:ah} {g:Nat} {x:Gr} {r:Md.ak} {i:Int} (hg:g < s.gs.length):fq (ai s g x) g r i=ai s g { x with bQ:=s.step,res:={ r with cs:=i },dL:=i,k:=x.aF.length,place:=30 }:=by
 unfold fq;simp only;rw [Gq _ _ _ _ _ hg,ja s g g _ hg,if_pos rfl,mU];unfold unlock;rw [ja s g g _ hg,if_pos rfl,mU]
theorem M1 {s:ah} {g:Nat} (hg:g < s.gs.length):ai s g (aa s g)=s:=by
 unfold ai aa;rw [List.getD_eq_getElem?_getD,List.getElem?_eq_getElem hg];simp
theorem M3 {s:ah} {g:Nat} {r:Md.ak} {i:Int} (hg:g < s.gs.length):fq s g r i=ai s g { aa s g with bQ:=s.step,res:={ r with cs:=i },dL:=i,k:=(aa s g).aF.length,place:=30 }:=by
 have:=V7 (s:=s) (g:=g) (x:=aa s g) (r:=r) (i:=i) hg;rw [M1 hg] at this;exact this
theorem V8 {s:ah} {g:Nat} {c:Int} {c':Cn} {r:Md.ak} {i:Int} (hg:g < s.gs.length):fq (aE s c c') g r i=ai (aE s c c') g { aa s g with bQ:=s.step,res:={ r with cs:=i },dL:=i,k:=(aa s g).aF.length,place:=30 }:=by
 rw [M3 (by exact hg)];rfl
theorem zW {s:ah} {g:Nat} {x:Gr} {p:Int} (hg:g < s.gs.length):next (ai s g x) g p=ai s g (if x.k + 1=x.order.length then { x with k:=0,place:=p } else { x with k:=x.k + 1 }):=by
 unfold next;simp only;rw [ja s g g _ hg,if_pos rfl]
 split <;> rw [mU]
theorem Gu {s:ah} {g:Nat} {p:Int} (hg:g < s.gs.length):next s g p=ai s g (if (aa s g).k + 1=(aa s g).order.length then { aa s g with k:=0,place:=p } else { aa s g with k:=(aa s g).k + 1 }):=by
 have:=zW (s:=s) (g:=g) (x:=aa s g) (p:=p) hg;rw [M1 hg] at this;exact this
theorem Cm {s:ah} {g:Nat} {x:Gr} (hg:g < s.gs.length):gI (ai s g x) g=ai s g (if x.place=27 then { x with dL:=aD x.order x.k } else x):=by
 unfold gI;simp only;rw [ja s g g _ hg,if_pos rfl]
 split <;> rw [mU]
theorem MInv.M4 (h:MInv s) (hg:g < s.gs.length) (st:(aa s g).status=0) (k:(ag s g).kind=9) (e:(aa s g).place=25) {i c:Int} (hc:c∈(aa s g).aF) (hq:i∈(cn s c).recv∨i∈(cn s c).send):MInv (gI (taken s g i 26 27) g):=by
 have L:=h.loc hg;have kx:SE (aa s g):=k;have b:=h.j5 hg k (by unfold dQ;omega);have ei:=h.qU hg (by omega);have nw:¬ Wt (aa s g):=oJ (by omega);obtain ⟨c0,c1⟩:=b.l1 c hc;obtain ⟨o,q⟩:=h.xw (g:=g) c0 c1 hq;have nq:=sF kx (x:=aa s g) (by omega);have bO:=q.ne h nq;have k2:=b.k2 (by omega);have s1:=b.s1 (by omega);have cc:=b.c1 (by omega)
 by_cases hn:0≤(su s i).cs
 ·rw [ME hg hn,Cm hg,if_neg (by simp)];have f:Poll s.aC.length (aa s g) { aa s g with hold:=i,place:=26 }:=⟨⟨rfl,rfl,rfl,rfl,rfl,rfl,rfl,rfl,rfl⟩,.inl ⟨by simp,b.k0,k2,s1,cc⟩,fun _=>⟨q.i0,q.i1⟩⟩
  refine h.Cl hg st k (by omega) f rfl (by simp) (fun _=>?_);simp only;rw [q.ch];exact ⟨c0,c1,(f.holds kx (by omega) c).2 ((mV kx (by unfold j6;omega) c).2 hc),hq,hn⟩
 ·rw [MD hg q.g_ bO q.ch c0 c1 hn];rw [Cm (by rw [iB];exact hg),if_pos rfl];have f:Poll s.aC.length (aa s g) { aa s g with hold:=i,t:=s.step,bQ:=s.step,wi:=o,place:=27,dL:=aD (aa s g).order (aa s g).k }:=⟨⟨rfl,rfl,rfl,rfl,rfl,rfl,rfl,rfl,rfl⟩,.inl ⟨by simp,b.k0,k2,s1,cc⟩,fun _=>⟨q.i0,q.i1⟩⟩
  refine h.Ce hg q (f.loc L b kx st (by omega) ei h.jb) ⟨.inl ⟨rfl,f.holds kx (by omega)⟩,h.gE c0 c1,⟨jA,jA⟩,.inr ?_⟩ (fun i=>⟨fun w=>absurd w (f.sM kx i),fun w=>absurd w (xD kx (.inl ⟨by omega,by omega⟩) i)⟩) (fun i d w=>absurd w (f.sM kx i)) nq (by unfold cI;simp) (fun q=>id) nw (.inr rfl) rfl c0 c1 ?_ hq ⟨rfl,rfl,rfl,rfl,rfl,rfl,rfl,rfl,rfl,rfl,rfl⟩ rfl rfl rfl (.inl ⟨by omega,oI,oI,rfl⟩) rfl
  ·exact (mV kx (by unfold j6;omega) c).2 hc
  ·exact (f.holds kx (by omega) c).2 ((mV kx (by unfold j6;omega) c).2 hc)
theorem MInv.V9 (h:MInv s) (hg:g < s.gs.length) (st:(aa s g).status=0) (k:(ag s g).kind=9) (e:(aa s g).place=26):MInv (gI (cQ s g 25 27) g):=by
 have L:=h.loc hg;have kx:SE (aa s g):=k;have b:=h.j5 hg k (by unfold dQ;omega);have ei:=h.qU hg (by omega);have nw:¬ Wt (aa s g):=oJ (by omega);have hd:=L.hd (by omega);have nq:=sF kx (x:=aa s g) (by omega);have k2:=b.k2 (by omega);have s1:=b.s1 (by omega);have cc:=b.c1 (by omega);obtain ⟨o,q,c0,c1,hh,hq,jC⟩:=h.Gi hg (.inr (.inr e));have bO:o≠g:=q.ne h nq
 cases hp:(aa s o).bz with
 | true =>
  rw [MF (by rw [q.g_];exact hp),drop_eq rfl c0 c1,Cm (by exact hg),if_neg (by simp)];have f:Poll s.aC.length (aa s g) { aa s g with hold:=-1,place:=25 }:=⟨⟨rfl,rfl,rfl,rfl,rfl,rfl,rfl,rfl,rfl⟩,.inl ⟨by simp,b.k0,k2,s1,cc⟩,by simp⟩
  exact h.M0 hg st k (by omega) f rfl (by simp) c0 c1 rfl (h.gE c0 c1) ⟨jA,jA⟩ (.inr hh)
 | false =>
  rw [MG hg q.o1 q.g_ bO hp,Cm (by rw [iB];exact hg),if_pos rfl];have f:Poll s.aC.length (aa s g) { aa s g with t:=s.step,bQ:=s.step,wi:=o,place:=27,dL:=aD (aa s g).order (aa s g).k }:=⟨⟨rfl,rfl,rfl,rfl,rfl,rfl,rfl,rfl,rfl⟩,.inl ⟨by simp,b.k0,k2,s1,cc⟩,fun _=>hd⟩
  have:=h.Ce hg q (c':=cn s (su s (aa s g).hold).ch) (f.loc L b kx st (by omega) ei h.jb) ⟨.inl ⟨rfl,f.holds kx (by omega)⟩,h.gE c0 c1,⟨List.Sublist.refl _,List.Sublist.refl _⟩,.inr hh⟩ (fun i=>⟨fun w=>absurd w (f.sM kx i),fun w=>absurd w (xD kx (.inl ⟨by omega,by omega⟩) i)⟩) (fun i d w=>absurd w (f.sM kx i)) nq (by unfold cI;simp) (fun q=>id) nw (.inr rfl) rfl c0 c1 ((f.holds kx (by omega) _).2 hh) hq (y:={ aa s o with bz:=true,bQ:=s.step,wi:=g,dL:=(su s (aa s g).hold).cs }) ⟨rfl,rfl,rfl,rfl,rfl,rfl,rfl,rfl,rfl,rfl,rfl⟩ rfl rfl rfl (.inr ⟨jC,hp,rfl,hh⟩) rfl;rw [MB c0 c1] at this;exact this
theorem MInv.kq (h:MInv s) (hg:g < s.gs.length) (st:(aa s g).status=0) (k:(ag s g).kind=9) (e:(aa s g).place=25):MInv (kq s g (ag s g)):=by
 have L:=h.loc hg;have kx:SE (aa s g):=k;have b:=h.j5 hg k (by unfold dQ;omega);have k2:=b.k2 (by omega);have s1:=b.s1 (by omega);have cc:=b.c1 (by omega);have k0:=b.k0;have l3:=b.l3;have hd:=b.hand (by omega);have ho:aG (aa s g)=ag s g:=rfl;have mh:(cy (ag s g) (aD (aa s g).order (aa s g).k)).ch=bV (aa s g) (aD (aa s g).order (aa s g).k):=rfl;have M5:∀ (r:Md.ak) (i:Int),r.code≠0→Poll s.aC.length (aa s g) { aa s g with bQ:=s.step,res:={ r with cs:=i },dL:=i,k:=(aa s g).aF.length,place:=30 }:=fun r i hr =>
  ⟨⟨rfl,rfl,rfl,rfl,rfl,rfl,rfl,rfl,rfl⟩,.inr (.inl ⟨rfl,rfl,s1,hr⟩),by simp⟩
 have Gv:∀ (r:Md.ak) (i:Int),r.code≠0→MInv (fq s g r i):=fun r i hr=>by
  rw [M3 hg];exact h.Cl hg st k (by omega) (M5 r i hr) rfl (by simp) (fun w=>by unfold cI at w;simp at w)
 have M6:∀ (c:Int) (l:List Int) (r:Md.ak) (i:Int),1≤c→c≤s.au.length→(l.length:Int)≤(cn s c).cap→r.code≠0→MInv (fq (aE s c { cn s c with buf:=l }) g r i):=fun c l r i c0 c1 hl hr=>by
  rw [V8 hg];have BQ:=h.gE c0 c1;exact h.M0 hg st k (by omega) (M5 r i hr) rfl (by simp) c0 c1 rfl ⟨BQ.1,BQ.2.1,hl⟩ ⟨List.Sublist.refl _,List.Sublist.refl _⟩ (.inl ⟨rfl,rfl⟩)
 unfold Sx.kq;simp only;generalize hi:aD (aa s g).order (aa s g).k=i at *;rw [← ho];have mg:(cy (aG (aa s g)) i).ch=bV (aa s g) i:=rfl;have Wa:(iU s g i (cy (aG (aa s g)) i)).2=true→MInv (iU s g i (cy (aG (aa s g)) i)).1:=by
  unfold iU;simp only [mg]
  split
  ·intro _;exact Gv _ _ (by decide)
  split
  ·rename_i c;intro _;exact h.M4 hg st k e hd.2.2.2.1 (.inl (xz (by omega)))
  split
  ·rename_i c;intro _;exact M6 _ _ _ _ hd.2.2.2.2.1 hd.2.2.2.2.2 (MM c) (by decide)
  ·intro c;cases c
 have Wb:(jH s g i (cy (aG (aa s g)) i)).2=true→MInv (jH s g i (cy (aG (aa s g)) i)).1:=by
  unfold jH;simp only [mg]
  split
  ·rename_i c;intro _;exact h.M4 hg st k e hd.2.2.2.1 (.inr (xz (by omega)))
  split
  ·intro _;have BQ:=h.gE hd.2.2.2.2.1 hd.2.2.2.2.2;exact M6 _ _ _ _ hd.2.2.2.2.1 hd.2.2.2.2.2 (by have:=MN (l:=(cn s (bV (aa s g) i)).buf);omega) (by unfold eJ;simp)
  split
  ·intro _;exact Gv _ _ (by unfold eJ;simp)
  ·intro c;cases c
 have M7:(aa s g).k + 1 < (aa s g).order.length→MInv (next s g 25):=by
  intro c;rw [Gu hg,aB];exact h.Cl hg st k (by omega) ⟨⟨rfl,rfl,rfl,rfl,rfl,rfl,rfl,rfl,rfl⟩,.inl ⟨by simp only;omega,by simp only;omega,c,s1,cc⟩,by simp only;omega⟩ rfl (by simp only;omega) (fun w=>by unfold cI at w;simp only at w;omega)
 have M8:¬ (aa s g).k + 1 < (aa s g).order.length→MInv (next (ai s g { aa s g with ay:=List.replicate (aG (aa s g)).cases.length (-1) }) g 28):=by
  intro c;rw [zW hg,if_pos (by simp only;omega)];exact h.Cl hg st k (by omega) ⟨⟨rfl,rfl,rfl,rfl,rfl,rfl,rfl,rfl,rfl⟩,.inr (.inr ⟨rfl,rfl,rfl,cc⟩),by simp⟩ rfl (by simp) (fun w=>by unfold cI at w;simp at w)
 have M9:MInv (fq s g ⟨2,0,0,false,0⟩ (-1)):=Gv _ _ (by decide)
 by_cases zX:(cy (aG (aa s g)) i).send=true
 ·rw [if_pos zX]
  by_cases c:(iU s g i (cy (aG (aa s g)) i)).2=true
  ·rw [if_pos c];exact Wa c
  rw [if_neg c]
  split
  ·rename_i c;exact M7 c
  split
  ·exact M9
  ·rename_i c _;exact M8 c
 ·rw [if_neg zX]
  by_cases c:(jH s g i (cy (aG (aa s g)) i)).2=true
  ·rw [if_pos c];exact Wb c
  rw [if_neg c]
  split
  ·rename_i c;exact M7 c
  split
  ·exact M9
  ·rename_i c _;exact M8 c
end Sx
namespace Sx
variable {s t:ah} {g:Nat} {nc ns n:Int} {x y:Gr}
theorem MInv.Gw (h:MInv s) (hg:g < s.gs.length) (st:(aa s g).status=0) (k:(ag s g).kind=9) (e:(aa s g).place=27) {o:Nat} {c i:Int} (hi:(aa s g).hold=i) (q:Gj s g i c o) (other:∀ k:Nat,k < s.gs.length→k≠g→cX (aa s k)→(su s (aa s k).hold).g=o→False) (r:Md.ak) (hr:r.code≠0) (d:Su)
  (hd:d.g=(su s i).g∧d.ch=(su s i).ch∧d.cs=(su s i).cs∧d.send=(su s i).send∧d.live=(su s i).live) :
  MInv (ai (aR (ai (aE s c (cu (cn s c) i)) o { aa s o with param:=i }) i d) g { aa s g with an:=(aa s g).an ++ [(o:Int)],hold:=-1,res:=r,k:=(aa s g).aF.length,place:=30 }):=by
 have L:=h.loc hg;have kx:SE (aa s g):=k;have b:=h.j5 hg k (by unfold dQ;omega);have ei:=h.qU hg (by omega);have nw:¬ Wt (aa s g):=oJ (by omega);have nq:=sF kx (x:=aa s g) (by omega);have s1:=b.s1 (by omega);have f:Poll s.aC.length (aa s g) { aa s g with hold:=-1,res:=r,k:=(aa s g).aF.length,place:=30 }:=⟨⟨rfl,rfl,rfl,rfl,rfl,rfl,rfl,rfl,rfl⟩,.inr (.inl ⟨rfl,rfl,s1,hr⟩),by simp⟩
 have lz:=f.loc L b kx st (by omega) ei h.jb;have lx:Loc s.au.length s.aC.length s.gs.length { aa s g with an:=(aa s g).an ++ [(o:Int)],hold:=-1,res:=r,k:=(aa s g).aF.length,place:=30 } :=
  lz.Gl (.inr (.inr (.inr (.inr (.inr ⟨rfl,hr⟩))))) (by rw [ei];have:=q.o1;simp;omega) (by rw [ei];simp) (by simp)
 have Na:∀ i,¬ Own { aa s g with an:=(aa s g).an ++ [(o:Int)],hold:=-1,res:=r,k:=(aa s g).aF.length,place:=30 } i:=fun i w=>f.sM kx i w
 refine h.Gh hg q.c0 q.c1 lx ⟨.inl ⟨rfl,fun ch=>f.holds kx (by omega) ch⟩,h.gE q.c0 q.c1,⟨jA,jA⟩,.inr q.hh⟩ (fun i=>⟨fun w=>absurd w (Na i),fun w=>absurd w (xD kx (.inl ⟨by omega,by omega⟩) i)⟩) (fun i d w=>absurd w (Na i)) nq (by unfold cI;simp) (by unfold cX;simp) (fun q hq=>?_) nw q.sc q.so q.o1 q.ne q.wt q.pm q.own (fun w=>q.se w) ⟨oI,oI⟩ other ⟨rfl,rfl,rfl,rfl,rfl,rfl,rfl,rfl,rfl,rfl,rfl⟩ rfl rfl rfl rfl hd;rcases List.mem_append.1 hq with w | w
 ·exact .inl w
 ·exact .inr (List.mem_singleton.1 w)
theorem Co {s:ah} {g:Nat} {x:Gr} {p:Int} (hg:g < s.gs.length):unlock (ai s g x) g p=ai s g { x with k:=x.aF.length,place:=p }:=by
 unfold unlock;rw [ja s g g _ hg,if_pos rfl,mU]
theorem Wc {s:ah} {g:Nat} {p:Int} (hg:g < s.gs.length):unlock s g p=ai s g { aa s g with k:=(aa s g).aF.length,place:=p }:=rfl
theorem Wd {s:ah} {g o:Nat} {i c:Int} {d:Su} {r:Md.ak} {kk p:Int} (hg:g < s.gs.length) (ho:o < s.gs.length) (so:d.g=o) (bO:o≠g) (i0:0≤i) (i1:i < s.aC.length) (hk:kk=(aa s g).aF.length) :
  unlock (ai (serve (aR (aE s c (cu (cn s c) i)) i d) g i true) g { aa (serve (aR (aE s c (cu (cn s c) i)) i d) g i true) g with res:=r }) g p =
  ai (aR (ai (aE s c (cu (cn s c) i)) o { aa s o with param:=i }) i { d with done:=true }) g { aa s g with an:=(aa s g).an ++ [(o:Int)],hold:=-1,res:=r,k:=kk,place:=p }:=by
 have s1:su (aR (aE s c (cu (cn s c) i)) i d) i=d:=MH i0 i1;have e:=zS (s:=aR (aE s c (cu (cn s c) i)) i d) (g:=g) (o:=o) (i:=i) (d:=true) hg ho (by rw [s1];exact so) bO;have g1:aa (aR (aE s c (cu (cn s c) i)) i d) g=aa s g:=rfl;have g2:aa (aR (aE s c (cu (cn s c) i)) i d) o=aa s o:=rfl;rw [s1,g1,g2] at e;rw [e];have hl:∀ y:Gr,g < (aR (ai (aR (aE s c (cu (cn s c) i)) i d) o y) i { d with done:=true }).gs.length:=fun y=>by show g < (ai _ _ _).gs.length;rw [iB];exact hg
 have g3:∀ y z,aa (ai (aR (ai (aR (aE s c (cu (cn s c) i)) i d) o y) i { d with done:=true }) g z) g=z:=fun y z=>by
  rw [iQ (hl y),if_pos rfl]
 rw [g3,mU,Co (hl _),hk];unfold ai aR aE;simp only [List.set_set]
theorem Nb {s:ah} {g o:Nat} {i c:Int} {r:Md.ak} {kk p:Int} (hg:g < s.gs.length) (ho:o < s.gs.length) (so:(su s i).g=o) (bO:o≠g) (hk:kk=(aa s g).aF.length) :
  unlock (ai (serve (aE s c (cu (cn s c) i)) g i true) g { aa (serve (aE s c (cu (cn s c) i)) g i true) g with res:=r }) g p =
  ai (aR (ai (aE s c (cu (cn s c) i)) o { aa s o with param:=i }) i { su s i with done:=true }) g { aa s g with an:=(aa s g).an ++ [(o:Int)],hold:=-1,res:=r,k:=kk,place:=p }:=by
 have e:=zS (s:=aE s c (cu (cn s c) i)) (g:=g) (o:=o) (i:=i) (d:=true) hg ho so bO;have g1:aa (aE s c (cu (cn s c) i)) g=aa s g:=rfl;have g2:aa (aE s c (cu (cn s c) i)) o=aa s o:=rfl;have g4:su (aE s c (cu (cn s c) i)) i=su s i:=rfl;rw [g1,g2,g4] at e;rw [e];have hl:∀ y:Gr,g < (aR (ai (aE s c (cu (cn s c) i)) o y) i { su s i with done:=true }).gs.length:=fun y=>by show g < (ai _ _ _).gs.length;rw [iB];exact hg
 have g3:∀ y z,aa (ai (aR (ai (aE s c (cu (cn s c) i)) o y) i { su s i with done:=true }) g z) g=z:=fun y z=>by
  rw [iQ (hl y),if_pos rfl]
 rw [g3,mU,Co (hl _),hk]
theorem MInv.kr (h:MInv s) (hg:g < s.gs.length) (st:(aa s g).status=0) (k:(ag s g).kind=9) (e:(aa s g).place=27):MInv (kr s g (ag s g)):=by
 obtain ⟨o,q,tY⟩:=h.Gk hg (.inr e);have L:=h.loc hg;have kx:SE (aa s g):=k;have b:=h.j5 hg k (by unfold dQ;omega);have dD:=b.hand (by omega);have hd:=L.hd (by omega);unfold Sx.kr;simp only;generalize hi:aD (aa s g).order (aa s g).k=j at *;have d0:=dD.2.2.2.2.1;have d1:=dD.2.2.2.2.2;have mh:(cy (ag s g) j).ch=bV (aa s g) j:=rfl;rw [drop_eq q.sc q.c0 q.c1]
 by_cases zX:(cy (ag s g) j).send=true
 ·simp only [if_pos zX];have e1:su (aE s (su s (aa s g).hold).ch (cu (cn s (su s (aa s g).hold).ch) (aa s g).hold)) (aa s g).hold=su s (aa s g).hold:=rfl;rw [e1,Wd hg q.o1 (by exact q.so) q.ne hd.1 hd.2 rfl];exact h.Gw hg st k e rfl q tY _ (by simp) _ ⟨rfl,rfl,rfl,rfl,rfl⟩
 ·simp only [if_neg zX];rw [mh];obtain ⟨r,hr,js⟩:∃ r,({ eJ (hand (aE s (su s (aa s g).hold).ch (cu (cn s (su s (aa s g).hold).ch) (aa s g).hold)) (bV (aa s g) j) (aa s g).hold).2 true with cs:=j }:Md.ak)=r∧r.code≠0:=⟨_,rfl,by simp [eJ]⟩
  rw [hr];clear hr;unfold hand;simp only
  split
  ·rw [Nb hg q.o1 q.so q.ne rfl];exact h.Gw hg st k e rfl q tY _ js _ ⟨rfl,rfl,rfl,rfl,rfl⟩
  ·simp only;rw [MJ q.c0 q.c1 d0 d1];obtain ⟨bf,hb,dP⟩:∃ b,(iy (cn (aE s (su s (aa s g).hold).ch (cu (cn s (su s (aa s g).hold).ch) (aa s g).hold)) (bV (aa s g) j)).buf (cn (aE s (su s (aa s g).hold).ch (cu (cn s (su s (aa s g).hold).ch) (aa s g).hold)) (bV (aa s g) j)).cap (su (aE s (su s (aa s g).hold).ch (cu (cn s (su s (aa s g).hold).ch) (aa s g).hold)) (aa s g).hold).v).1=b∧b.length=(cn s (bV (aa s g) j)).buf.length:=by
    refine ⟨_,rfl,?_⟩;rw [MK,nF q.c0 q.c1 rfl _ d0];unfold up
    split
    ·rename_i c;rw [c];rfl
    ·rfl
   rw [hb];have r8:=h.gE d0 d1;have h2:MInv (aE s (bV (aa s g) j) { cn s (bV (aa s g) j) with buf:=bf }):=h.buf d0 d1 rfl rfl rfl ⟨r8.1,r8.2.1,by simp only;rw [dP];exact r8.2.2⟩;obtain ⟨s2,jO⟩:∃ s2,aE s (bV (aa s g) j) { cn s (bV (aa s g) j) with buf:=bf }=s2:=⟨_,rfl⟩
   have eg:∀ j,aa s2 j=aa s j:=fun j=>by rw [← jO];rfl
   have es:∀ j,su s2 j=su s j:=fun j=>by rw [← jO];rfl
   have el:s2.gs.length=s.gs.length:=by rw [← jO];rfl
   have ec:s2.au.length=s.au.length:=by rw [← jO];simp [aE]
   have eq:∀ ch,1≤ch→(cn s2 ch).recv=(cn s ch).recv∧(cn s2 ch).send=(cn s ch).send:=by
    intro ch a;rw [← jO,nF d0 d1 rfl ch a];unfold up
    split
    ·rename_i c;rw [c];exact ⟨rfl,rfl⟩
    ·exact ⟨rfl,rfl⟩
   rw [jO] at h2 ⊢;have eo:ag s2 g=ag s g:=by unfold ag;rw [eg]
   rw [← es,← eg];rw [Nb (by rw [el];exact hg) (by rw [el];exact q.o1) (by rw [es,eg];exact q.so) q.ne rfl];refine h2.Gw (by rw [el];exact hg) (by rw [eg];exact st) (by rw [eo];exact k) (by rw [eg];exact e) rfl ⟨?_,?_,rfl,?_,?_,q.ne,?_,?_,?_,?_,?_,?_⟩ ?_ _ js _ ⟨rfl,rfl,rfl,rfl,rfl⟩
   ·rw [es,eg];exact q.c0
   ·rw [es,eg,ec];exact q.c1
   ·rw [es,eg];exact q.so
   ·rw [el];exact q.o1
   ·rw [es,eg];exact q.hh
   ·rw [eg];exact q.wt
   ·rw [eg];exact q.pm
   ·rw [eg,eg];exact q.own
   ·rw [eg];exact q.se
   ·rw [es,eg,eg,(eq _ q.c0).1,(eq _ q.c0).2];exact q.sr
   ·intro k a b;rw [eg,es];exact tY k (by rw [← el];exact a) b
end Sx
namespace Sx
variable {s t:ah} {g:Nat} {nc ns n:Int} {x y:Gr}
theorem Nc {l:List Int} {i j v:Int} (i0:0≤i) (j0:0≤j) (j1:j < l.length):aD (l.set i.toNat v) j=if j=i then v else aD l j:=by
 unfold aD;simp only [List.getD_eq_getElem?_getD,List.getElem?_set]
 by_cases c:j=i
 ·subst c;rw [if_pos rfl,if_pos rfl,if_pos (by omega)];rfl
 ·rw [if_neg c,aB]
theorem oK {l:List Int} {v:Int}:v∈l↔∃ j:Int,0≤j∧j < l.length∧aD l j=v:=by
 constructor
 ·intro h;obtain ⟨k,hk,e⟩:=List.getElem_of_mem h;refine ⟨k,by omega,by omega,?_⟩;unfold aD;rw [List.getD_eq_getElem?_getD,Int.toNat_natCast,List.getElem?_eq_getElem hk,e];rfl
 ·rintro ⟨j,a,b,rfl⟩
  exact rQ a b
theorem vz (hs:SE x) (hy:SE y) (px:28≤x.place∧x.place≤34∨x.place=13∨x.place=14) (py:28≤y.place∧y.place≤34∨y.place=13∨y.place=14) (e:y.ay=x.ay) (i:Int):Own y i↔Own x i:=by
 have nx:¬ SR x:=fun w=>w.ne hs
 have ny:¬ SR y:=fun w=>w.ne hy
 unfold Own;simp only [nx,ny,false_and,false_or,e]
 constructor
 ·intro w;exact ⟨w.1,hs,px,w.2.2.2⟩
 ·intro w;exact ⟨w.1,hy,py,w.2.2.2⟩
theorem jB.mt (h:jB x y) (hs:SE x) (e:y.ay=x.ay) {i:Int} {d:Su} (m:Match x i d):Match y i d:=by
 rcases m with m | m
 ·exact absurd hs m.1.ne
 ·exact .inr ⟨h.se.2 hs,by rw [e,h.aG,h.order,h.ch];exact m.2⟩
theorem MInv.aC (h:MInv s) (hg:g < s.gs.length) (st:(aa s g).status=0) (k:(ag s g).kind=9) (e:(aa s g).place=28):MInv (aC s g (ag s g)):=by
 have L:=h.loc hg;have kx:SE (aa s g):=k;have b:=h.j5 hg k (by unfold dQ;omega);have ei:=h.qU hg (by omega);have nw:¬ Wt (aa s g):=oJ (by omega);obtain ⟨pm,tk⟩:=L.vv nw;have dD:=b.hand (by omega);have k2:=b.k2 (by omega);have k0:=b.k0;have s2:=b.s2 (by omega);have s4:=b.s4;have s5:=b.s5 e;have cc:=b.c1 (by omega);have l3:=b.l3;have nq:=sF kx (x:=aa s g) (by omega);unfold Sx.aC;simp only;have mh:(cy (ag s g) (aD (aa s g).order (aa s g).k)).ch=bV (aa s g) (aD (aa s g).order (aa s g).k):=rfl;rw [mh];have jK:=Ck k0 k2;have tX:=zV k0 k2;have s8:=b.s8 e;generalize hi:aD (aa s g).order (aa s g).k=i at *
 by_cases ok:(aS s g).2.2=true
 ·rw [if_pos ok];have T:=Cb h hg ok;generalize (aS s g).2.1=d at *;generalize (aS s g).1=t at *;have Kz:g < (aR t d ⟨true,g,bV (aa s g) i,i,(cy (ag s g) i).send,(cy (ag s g) i).v,false⟩).gs.length:=by show g < t.gs.length;rw [T.gs];exact hg
  rw [zW Kz];obtain ⟨y,hy⟩:∃ y,(if ({ aa s g with ay:=(aa s g).ay.set i.toNat d }:Gr).k + 1=(({ aa s g with ay:=(aa s g).ay.set i.toNat d }:Gr).order.length:Int) then ({ ({ aa s g with ay:=(aa s g).ay.set i.toNat d }:Gr) with k:=0,place:=29 }:Gr) else { ({ aa s g with ay:=(aa s g).ay.set i.toNat d }:Gr) with k:=({ aa s g with ay:=(aa s g).ay.set i.toNat d }:Gr).k + 1 })=y:=⟨_,rfl⟩
  rw [hy];have hk:jB (aa s g) y:=by rw [← hy];split <;> exact ⟨rfl,rfl,rfl,rfl,rfl,rfl,rfl,rfl,rfl⟩
  have ys:y.ay=(aa s g).ay.set i.toNat d∧y.an=(aa s g).an∧y.res.code=0:=by rw [← hy];split <;> exact ⟨rfl,rfl,cc⟩
  have yp:(y.place=29∧y.k=0∧(aa s g).k + 1=(aa s g).order.length)∨(y.place=28∧y.k=(aa s g).k + 1∧(aa s g).k + 1 < (aa s g).order.length):=by
   rw [← hy]
   split
   ·rename_i c;exact .inl ⟨rfl,rfl,c⟩
   ·rename_i c;exact .inr ⟨e,rfl,by simp only at c;omega⟩
  clear hy;have dS:SE y:=hk.se.2 kx;have kS:i < ((aa s g).ay.length:Int):=by rw [s2];exact dD.2.2.1
  have jy:∀ j:Int,0≤j→j < (aa s g).ay.length→aD y.ay j=if j=i then d else aD (aa s g).ay j:=fun j a c=>by rw [ys.1,Nc dD.2.1 a c]
  have jw:y.ay.length=(aa s g).ay.length:=by rw [ys.1,List.length_set]
  have We:aD (aa s g).ay i=-1:=s5 i (by rw [jK];simp);have d0:=T.i0;have d1:=T.i1;have nodup:=b.o2;have pX:gB s.au.length s.aC.length y:=by
   have ho:=hk.aG;have hc:=hk.ch;have o1:=b.o1;have o3:=b.o3;have kk:0≤y.k∧y.k < (aa s g).order.length:=by omega
   have yp2:y.place=28∨y.place=29:=by omega
   constructor
   ·rw [hk.order,hk.aF,ho];simp only [hc];exact o1
   ·rw [hk.order];exact b.o2
   ·rw [hk.order];exact o3
   ·rw [hk.aF];exact b.l1
   ·rw [hk.aF];exact b.l2
   ·rw [hk.aF];exact b.l3
   ·exact kk.1
   ·intro c;omega
   ·rw [hk.order];intro _;exact kk.2
   ·intro c;omega
   ·intro c;omega
   ·intro _;rw [jw,ho];exact s2
   ·intro c;omega
   ·intro j a c;rw [jw] at c;rw [jy j a c,hk.order]
    split
    ·rename_i z;rw [z];exact ⟨by omega,d1,fun _=>dD.1⟩
    ·exact s4 j a c
   ·intro c j hj;have mj:j∈(aa s g).order.drop ((aa s g).k + 1).toNat:=by
     rw [hk.order] at hj;rcases yp with w | w
     ·omega
     ·rw [w.2.1] at hj;exact hj
    have pY:=o1 j (List.mem_of_mem_drop mj);have lU:j≠i:=by
     intro z;have:=nodup;rw [← List.take_append_drop (aa s g).k.toNat (aa s g).order,jK] at this;have:=(List.nodup_append.1 this).2.1;exact (List.nodup_cons.1 this).1 (z ▸ mj)
    rw [jy j pY.1 (by rw [s2];exact pY.2.1),if_neg lU];exact s5 j (by rw [jK];exact List.mem_cons_of_mem _ mj)
   ·intro c j hj;rw [hk.order] at hj;have pY:=o1 j hj;rw [jy j pY.1 (by rw [s2];exact pY.2.1)]
    split
    ·exact d0
    ·rename_i z;refine s8 j ?_;rw [← List.take_append_drop (aa s g).k.toNat (aa s g).order,jK] at hj;rcases List.mem_append.1 hj with w | w
     ·exact w
     ·rcases List.mem_cons.1 w with w | w
      ·exact absurd w z
      ·have:(aa s g).order.drop ((aa s g).k + 1).toNat=[]:=List.drop_eq_nil_of_le (by omega);rw [this] at w;simp at w
   ·intro c;omega
   ·intro _;exact ys.2.2
   ·intro c;omega
   ·intro c j hj;have c2:y.k=(aa s g).k + 1:=by omega
    rw [hk.order,c2,tX] at hj;have pY:0≤j∧j < (aG (aa s g)).cases.length:=by
     rcases List.mem_append.1 hj with w | w
     ·have:=o1 j (List.mem_of_mem_take w);exact ⟨this.1,this.2.1⟩
     ·rw [List.mem_singleton.1 w];exact ⟨dD.2.1,dD.2.2.1⟩
    rw [jy j pY.1 (by rw [s2];exact pY.2)]
    split
    ·exact d0
    ·rename_i z;rcases List.mem_append.1 hj with w | w
     ·exact s8 j w
     ·exact absurd (List.mem_singleton.1 w) z
  have Nd:∀ j,Own (aa s g) j→∃ c:Int,0≤c∧c < (aa s g).ay.length∧aD (aa s g).ay c=j∧c≠i:=by
   rintro j ⟨j0,w | w⟩
   ·exact absurd kx w.1.ne
   ·obtain ⟨c,c0,c1,c2⟩:=oK.1 w.2.2;exact ⟨c,c0,c1,c2,fun z=>by rw [z,We] at c2;omega⟩
  refine h.take hg T (x:=y) (L.mS kx (by omega) hk.ops hk.at_ (by rw [hk.status];exact st) (by rw [hk.token];exact tk) (by rw [hk.param];exact pm) (by omega) (by rw [ys.2.1,ei];simp) (by rw [ys.2.1,ei];simp) (by rw [ys.2.1,ei];simp) (by omega) h.jb pX) ?_ ?_ ?_ ?_ rfl nq (by unfold cI;omega) (by unfold cX;omega) ys.2.1 nw hk.at_
  ·intro ch;rw [mV dS (by unfold j6;omega),mV kx (by unfold j6;omega),hk.aF]
  ·intro j
   constructor
   ·rintro ⟨j0,w | w⟩
    ·exact absurd dS w.1.ne
    ·obtain ⟨c,c0,c1,c2⟩:=oK.1 w.2.2;rw [jw] at c1;rw [jy c c0 c1] at c2
     split at c2
     ·exact .inr c2.symm
     ·exact .inl ⟨j0,.inr ⟨kx,by omega,oK.2 ⟨c,c0,c1,c2⟩⟩⟩
   ·rintro (w | w)
    ·obtain ⟨c,c0,c1,c2,c3⟩:=Nd j w;refine ⟨w.1,.inr ⟨dS,by omega,oK.2 ⟨c,c0,by rw [jw];exact c1,?_⟩⟩⟩;rw [jy c c0 c1,if_neg c3];exact c2
    ·subst w;refine ⟨d0,.inr ⟨dS,by omega,oK.2 ⟨i,dD.2.1,by rw [jw];exact kS,?_⟩⟩⟩;rw [jy i dD.2.1 kS,if_pos rfl]
  ·intro j w;obtain ⟨c,c0,c1,c2,c3⟩:=Nd j w;have hO:=Inv.own h.v (g:Int) (by omega) (by omega) j (by rw [fC];exact w);rw [fC] at hO;rcases hO.2.1 with m | m
   ·exact absurd kx m.1.ne
   ·obtain ⟨_,m1,m2,m3,m4,m5,m6,m7⟩:=m;have ec:=m7 c c0 c1 c2;refine .inr ⟨dS,m1,by rw [jw];exact m2,?_,by rw [hk.ch];exact m4,by rw [hk.aG];exact m5,by rw [hk.order];exact m6,?_⟩
    ·rw [jy _ m1 m2,if_neg (by rw [← ec];exact c3)];exact m3
    ·intro q q0 q1 q2;rw [jw] at q1;rw [jy q q0 q1] at q2
     split at q2
     ·exfalso
      have:=hO.2.2.2;rw [← q2] at this;rw [T.nl] at this;cases this
     ·exact m7 q q0 q1 q2
  ·refine .inr ⟨dS,dD.2.1,by rw [jw];exact kS,by rw [jy i dD.2.1 kS,if_pos rfl],by rw [hk.ch],by rw [hk.aG];rfl,by rw [hk.order];exact dD.1,?_⟩;intro q q0 q1 q2;rw [jw] at q1;rw [jy q q0 q1] at q2
   split at q2
   ·rename_i z;exact z
   ·exfalso
    have w:Own (aa s g) d:=⟨d0,.inr ⟨kx,by omega,oK.2 ⟨q,q0,q1,q2⟩⟩⟩
    have hO:=Inv.own h.v (g:Int) (by omega) (by omega) d (by rw [fC];exact w);have:=hO.2.2.2;rw [T.nl] at this;cases this
 ·rw [if_neg ok];have e1:(aS s g).1=s:=by
   unfold aS at ok ⊢
   split
   ·rename_i c;rw [if_pos c] at ok
    split
    ·rename_i c2;rw [if_pos c2] at ok;simp at ok
    ·rfl
   ·rename_i c;rw [if_neg c] at ok;simp at ok
  rw [e1,Co hg];obtain ⟨y,hy⟩:∃ y,({ ({ aa s g with res:={ (aa s g).res with code:=6 } }:Gr) with k:=(({ aa s g with res:={ (aa s g).res with code:=6 } }:Gr).aF.length:Int),place:=30 }:Gr)=y:=⟨_,rfl⟩
  rw [hy];have hk:jB (aa s g) y:=by rw [← hy];exact ⟨rfl,rfl,rfl,rfl,rfl,rfl,rfl,rfl,rfl⟩
  have ys:y.ay=(aa s g).ay∧y.an=(aa s g).an∧y.res.code=6∧y.place=30∧y.k=(aa s g).aF.length:=by rw [← hy];exact ⟨rfl,rfl,rfl,rfl,rfl⟩
  clear hy;have dS:SE y:=hk.se.2 kx;have pX:gB s.au.length s.aC.length y:=by
   have ho:=hk.aG;have hc:=hk.ch;have o1:=b.o1;have pl:=ys.2.2.2.1
   constructor
   ·rw [hk.order,hk.aF,ho];simp only [hc];exact o1
   ·rw [hk.order];exact b.o2
   ·rw [hk.order];exact b.o3
   ·rw [hk.aF];exact b.l1
   ·rw [hk.aF];exact b.l2
   ·rw [hk.aF];exact l3
   ·omega
   ·intro c;omega
   ·intro c;omega
   ·rw [hk.aF];intro c;omega
   ·intro c;omega
   ·intro c;omega
   ·intro _;rw [ys.1,ho];exact .inl s2
   ·rw [ys.1,hk.order];exact s4
   ·intro c;omega
   ·intro c;omega
   ·intro c;omega
   ·intro c;omega
   ·intro c;omega
   ·intro c;omega
  refine h.self hg ⟨L.mS kx (by omega) hk.ops hk.at_ (by rw [hk.status];exact st) (by rw [hk.token];exact tk) (by rw [hk.param];exact pm) (by omega) (by rw [ys.2.1,ei];simp) (by rw [ys.2.1,ei];simp) (by rw [ys.2.1,ei];simp) (by omega) h.jb pX,?_,vz kx dS (by omega) (by omega) ys.1,fun i d _ m=>hk.mt kx ys.1 m,fun i j w=>absurd w (nq i j),by unfold cX;omega,fun q=>by rw [ys.2.1];exact id,fun w=>absurd w.1 nw,fun w=>absurd w.1 nw⟩ hk.at_ (fun w=>by unfold cI at w;omega);intro ch;rw [mV dS (by unfold j6;rw [hk.aF];omega),mV kx (by unfold j6;omega),hk.aF]
end Sx
namespace Sx
variable {s t:ah} {g:Nat} {nc ns n:Int} {x y:Gr}
theorem MInv.zY (h:MInv s) (hg:g < s.gs.length) (k:(ag s g).kind=9) (px:28≤(aa s g).place∧(aa s g).place≤34∨(aa s g).place=13∨(aa s g).place=14) {i:Int} (i0:0≤i) (i1:i < (aa s g).ay.length) (v0:0≤aD (aa s g).ay i) :
  Own (aa s g) (aD (aa s g).ay i)∧aD (aa s g).ay i < s.aC.length∧(su s (aD (aa s g).ay i)).g=g∧(su s (aD (aa s g).ay i)).cs=i∧(su s (aD (aa s g).ay i)).ch=bV (aa s g) i∧(su s (aD (aa s g).ay i)).send=(cy (ag s g) i).send∧Match (aa s g) (aD (aa s g).ay i) (su s (aD (aa s g).ay i)):=by
 have kx:SE (aa s g):=k;have w:Own (aa s g) (aD (aa s g).ay i):=⟨v0,.inr ⟨kx,px,oK.2 ⟨i,i0,i1,rfl⟩⟩⟩
 have hO:=Inv.own h.v (g:Int) (by omega) (by omega) _ (by rw [fC];exact w);rw [fC] at hO;rcases hO.2.1 with m | m
 ·exact absurd kx m.1.ne
 ·have m':=m;obtain ⟨_,m1,m2,m3,m4,m5,m6,m7⟩:=m;have e:=m7 i i0 i1 rfl;rw [← e] at m4 m5;exact ⟨w,hO.1,hO.2.2.1,e.symm,m4,m5,.inr m'⟩
theorem MInv.lX (h:MInv s) (hg:g < s.gs.length) (st:(aa s g).status=0) (k:(ag s g).kind=9) (e:(aa s g).place=29):MInv (lX s g (ag s g)):=by
 have L:=h.loc hg;have kx:SE (aa s g):=k;have b:=h.j5 hg k (by unfold dQ;omega);have ei:=h.qU hg (by omega);have nw:¬ Wt (aa s g):=oJ (by omega);obtain ⟨pm,tk⟩:=L.vv nw;have dD:=b.hand (by omega);have k2:=b.k2 (by omega);have k0:=b.k0;have s2:=b.s2 (by omega);have s4:=b.s4;have s6:=b.s6 (by omega);have cc:=b.c1 (by omega);have l3:=b.l3;have eA:=fC s g;have tX:=zV k0 k2;unfold Sx.lX;simp only;have mh:(cy (ag s g) (aD (aa s g).order (aa s g).k)).ch=bV (aa s g) (aD (aa s g).order (aa s g).k):=rfl;rw [mh];generalize hi:aD (aa s g).order (aa s g).k=i at *;have kS:i < ((aa s g).ay.length:Int):=by rw [s2];exact dD.2.2.1
 have v0:=s6 i dD.1;obtain ⟨w,w1,w2,w3,w4,w5,w6⟩:=h.zY hg k (by omega) dD.2.1 kS v0;generalize hv:aD (aa s g).ay i=v at *;have fin:∀ (c':Cn) (y:Gr),jB (aa s g) y→y.ay=(aa s g).ay→y.an=(aa s g).an→y.res.code=(aa s g).res.code→(y.place=29∧y.k=(aa s g).k + 1∧(aa s g).k + 1 < (aa s g).order.length∨y.place=30∧y.k=(aa s g).aF.length∧(aa s g).k + 1=(aa s g).order.length) →
   c'.lock=(cn s (bV (aa s g) i)).lock→c'.cap=(cn s (bV (aa s g) i)).cap→c'.buf=(cn s (bV (aa s g) i)).buf→(c'.recv=if (su s v).send=true then (cn s (bV (aa s g) i)).recv else (cn s (bV (aa s g) i)).recv ++ [v])→(c'.send=if (su s v).send=true then (cn s (bV (aa s g) i)).send ++ [v] else (cn s (bV (aa s g) i)).send) →
   MInv (ai (aE s (bV (aa s g) i) c') g y):=by
  intro c' y hk jQ sO Cp hp e1 e2 e3 er es;have dS:SE y:=hk.se.2 kx;have pX:gB s.au.length s.aC.length y:=by
   have ho:=hk.aG;have hc:=hk.ch;have o1:=b.o1
   constructor
   ·rw [hk.order,hk.aF,ho];simp only [hc];exact o1
   ·rw [hk.order];exact b.o2
   ·rw [hk.order];exact b.o3
   ·rw [hk.aF];exact b.l1
   ·rw [hk.aF];exact b.l2
   ·rw [hk.aF];exact l3
   ·omega
   ·intro c;omega
   ·rw [hk.order];intro c;omega
   ·rw [hk.aF];intro c;omega
   ·intro c;omega
   ·intro _;rw [jQ,ho];exact s2
   ·intro _;rw [jQ,ho];exact .inl s2
   ·rw [jQ,hk.order];exact s4
   ·intro c;omega
   ·rw [jQ,hk.order];intro _;exact s6
   ·intro c;omega
   ·intro _;rw [Cp];exact cc
   ·intro c;omega
   ·intro c;omega
  have hold:∀ ch,bE y ch↔bE (aa s g) ch:=by
   intro ch;rw [mV dS (by unfold j6;rw [hk.aF];omega),mV kx (by unfold j6;omega),hk.aF]
  have r:Rest s (ai (aE s (bV (aa s g) i) c') g y):=(Rest.dJ s _ c').trans (Rest.dy _ hg hk.at_);refine h.rest r (V.of r (Inv.push h.v (g:=g) (i:=v) (x:=y) (c:=bV (aa s g) i) (c':=c') (by omega) (by omega) (by rw [eA];exact w) dD.2.2.2.2.1 dD.2.2.2.2.2 w4 (L.mS kx (by omega) hk.ops hk.at_ (by rw [hk.status];exact st) (by rw [hk.token];exact tk) (by rw [hk.param];exact pm) (by omega) (by rw [sO,ei];simp) (by rw [sO,ei];simp) (by rw [sO,ei];simp) (by omega) h.jb pX) ?_ ?_ ?_ ?_ ?_ ?_ ?_ ?_ ?_ ?_ e1 e2 e3 er es) (fun j j0=>sD hg rfl j j0) (fun ch q=>nF dD.2.2.2.2.1 dD.2.2.2.2.2 rfl ch q) (fun _ _=>rfl))
  ·intro ch;rw [eA];exact hold ch
  ·intro j;rw [eA];exact vz kx dS (by omega) (by omega) jQ j
  ·intro j q;have q2:=(vz kx dS (by omega) (by omega) jQ j).1 q;have hO:=Inv.own h.v (g:Int) (by omega) (by omega) j (by rw [eA];exact q2);rw [eA] at hO;exact hk.mt kx jQ hO.2.1
  ·rw [eA,w3]
   rintro (q | q)
   ·exact q.1.ne kx
   ·have q5:=q.2.2.2.2;have:i∈(aa s g).order.take (aa s g).k.toNat:=by
     rcases q5 with z | z | z | z | z | z
     ·exact z.2
     all_goals omega
    have nd:=b.o2;rw [← List.take_append_drop (aa s g).k.toNat (aa s g).order,Ck k0 k2,hi] at nd;exact (List.nodup_append.1 nd).2.2 i this i (by simp) rfl
  ·rw [eA];intro j l q;rcases q with q | q
   ·exact absurd kx q.1.ne
   ·obtain ⟨q1,q2,q3,q4,q5⟩:=q;refine .inr ⟨dS,q2,by rw [jQ];exact q3,by rw [jQ];exact q4,?_⟩;have q6:l∈(aa s g).order.take (aa s g).k.toNat:=by
     rcases q5 with z | z | z | z | z | z
     ·exact z.2
     all_goals omega
    rcases hp with hp | hp
    ·refine .inl ⟨hp.1,?_⟩;rw [hk.order,hp.2.1,tX];exact List.mem_append_left _ q6
    ·exact .inr (.inr (.inr (.inr (.inl ⟨hp.1,by rw [Cp];exact cc⟩))))
  ·rw [w3];refine .inr ⟨dS,dD.2.1,by rw [jQ];exact kS,by rw [jQ];exact hv,?_⟩;rcases hp with hp | hp
   ·refine .inl ⟨hp.1,?_⟩;rw [hk.order,hp.2.1,tX];simp
   ·exact .inr (.inr (.inr (.inr (.inl ⟨hp.1,by rw [Cp];exact cc⟩))))
  ·unfold cI;omega
  ·unfold cX;omega
  ·rw [eA];exact sO
  ·rw [eA];exact nw
 obtain ⟨c',vD⟩:∃ c',(if (cy (ag s g) i).send=true then { cn s (bV (aa s g) i) with send:=(cn s (bV (aa s g) i)).send ++ [v] } else { cn s (bV (aa s g) i) with recv:=(cn s (bV (aa s g) i)).recv ++ [v] })=c':=⟨_,rfl⟩
 rw [vD];have c1:c'.lock=(cn s (bV (aa s g) i)).lock:=by rw [← vD];split <;> rfl
 have c2:c'.cap=(cn s (bV (aa s g) i)).cap:=by rw [← vD];split <;> rfl
 have c3:c'.buf=(cn s (bV (aa s g) i)).buf:=by rw [← vD];split <;> rfl
 have c4:c'.recv=if (su s v).send=true then (cn s (bV (aa s g) i)).recv else (cn s (bV (aa s g) i)).recv ++ [v]:=by rw [← vD,w5];split <;> rfl
 have c5:c'.send=if (su s v).send=true then (cn s (bV (aa s g) i)).send ++ [v] else (cn s (bV (aa s g) i)).send:=by rw [← vD,w5];split <;> rfl
 clear vD;have gP:g < (aE s (bV (aa s g) i) c').gs.length:=hg
 by_cases c:(aa s g).k + 1 < (aa s g).order.length
 ·rw [if_pos c,Gu gP];have g0:aa (aE s (bV (aa s g) i) c') g=aa s g:=rfl;rw [g0,aB];exact fin c' _ ⟨rfl,rfl,rfl,rfl,rfl,rfl,rfl,rfl,rfl⟩ rfl rfl rfl (.inl ⟨e,rfl,c⟩) c1 c2 c3 c4 c5
 ·rw [if_neg c,Co gP];exact fin c' _ ⟨rfl,rfl,rfl,rfl,rfl,rfl,rfl,rfl,rfl⟩ rfl rfl rfl (.inr ⟨rfl,rfl,by omega⟩) c1 c2 c3 c4 c5
end Sx
namespace Sx
variable {s t:ah} {g:Nat} {nc ns n:Int} {x y:Gr}
theorem MInv.Wf (h:MInv s) (hg:g < s.gs.length) (st:(aa s g).status=0) (k:(ag s g).kind=9) (e:(aa s g).place=14):MInv (nj s g):=by
 have L:=h.loc hg;have kx:SE (aa s g):=k;have b:=h.j5 hg k (by unfold dQ;omega);have ei:=h.qU hg (by omega);have pm:=L.p1 e st;have pk:=L.p3 pm kx;have s2:=b.s2 (by omega);have s4:=b.s4;have s6:=b.s6 (by omega);have l3:=b.l3;have tk:(aa s g).token=false:=by
  cases c:(aa s g).token
  ·rfl
  ·exact absurd e (L.tk c).2.2
 unfold nj;simp only;obtain ⟨r,hr⟩:∃ r,(if (su s (aa s g).param).send=true∧(su s (aa s g).param).done=true then ({ (if (su s (aa s g).param).done=true then ({ eJ (su s (aa s g).param).v true with cs:=(su s (aa s g).param).cs }:Md.ak) else { eJ 0 false with cs:=(su s (aa s g).param).cs }) with v:=0 }:Md.ak) else if (su s (aa s g).param).send=true then ⟨3,(su s (aa s g).param).cs,0,false,0⟩ else (if (su s (aa s g).param).done=true then ({ eJ (su s (aa s g).param).v true with cs:=(su s (aa s g).param).cs }:Md.ak) else { eJ 0 false with cs:=(su s (aa s g).param).cs }))=r:=⟨_,rfl⟩
 rw [hr];clear hr;obtain ⟨y,hy⟩:∃ y,({ aa s g with res:=r,param:=-1,k:=0,place:=31 }:Gr)=y:=⟨_,rfl⟩
 rw [hy];have y1:y.ops=(aa s g).ops∧y.at_=(aa s g).at_∧y.status=(aa s g).status∧y.token=(aa s g).token∧y.bz=(aa s g).bz∧y.param=-1∧y.order=(aa s g).order∧y.aF=(aa s g).aF∧y.ay=(aa s g).ay∧y.an=(aa s g).an∧y.k=0∧y.place=31:=by
  rw [← hy];exact ⟨rfl,rfl,rfl,rfl,rfl,rfl,rfl,rfl,rfl,rfl,rfl,rfl⟩
 clear hy;obtain ⟨z1,z2,z3,z4,z5,z6,z7,z8,z9,Cq,Wg,Wh⟩:=y1;have ho:aG y=aG (aa s g):=by unfold aG;rw [z1,z2]
 have hc:∀ j,bV y j=bV (aa s g) j:=fun j=>by unfold bV;rw [ho]
 have dS:SE y:=by unfold SE;rw [ho];exact kx
 have o1:=b.o1;have pX:gB s.au.length s.aC.length y:=by
  constructor
  ·rw [z7,z8,ho];simp only [hc];exact o1
  ·rw [z7];exact b.o2
  ·rw [z7];exact b.o3
  ·rw [z8];exact b.l1
  ·rw [z8];exact b.l2
  ·rw [z8];exact l3
  ·omega
  ·rw [z8];intro c;omega
  ·intro c;omega
  ·intro c;omega
  ·intro c;omega
  ·intro _;rw [z9,ho];exact s2
  ·intro c;omega
  ·rw [z9,z7];exact s4
  ·intro c;omega
  ·rw [z9,z7];intro _;exact s6
  ·intro c;omega
  ·intro c;omega
  ·intro _;rw [z5];exact pk
  ·intro c;omega
 have Cr:∀ ch,¬ bE (aa s g) ch:=by
  intro ch w;rw [vw kx] at w;omega
 have Ct:∀ ch,¬ bE y ch:=by
  intro ch w;rw [vw dS] at w;rcases w with w | w
  ·omega
  ·rw [Wg] at w;simp at w
 refine h.self hg ⟨L.mS kx (by omega) z1 z2 (by rw [z3];exact st) (by rw [z4];exact tk) z6 (by omega) (by rw [Cq,ei];simp) (by rw [Cq,ei];simp) (by rw [Cq,ei];simp) (by omega) h.jb pX,fun ch=>⟨fun w=>absurd w (Ct ch),fun w=>absurd w (Cr ch)⟩,vz kx dS (by omega) (by omega) z9,?_,?_,by unfold cX;omega,fun q=>by rw [Cq];exact id,fun w=>absurd st (w.2.2.2 e),fun w=>by have:=w.2.1;omega⟩ z2 (fun w=>by unfold cI at w;omega)
 ·intro i d _ m;rcases m with m | m
  ·exact absurd kx m.1.ne
  ·exact .inr ⟨dS,by rw [z9,ho,z7,hc];exact m.2⟩
 ·intro i j q;rcases q with q | q
  ·exact absurd kx q.1.ne
  ·exact .inr ⟨dS,q.2.1,by rw [z9];exact q.2.2.1,by rw [z9];exact q.2.2.2.1,.inr (.inr (.inr (.inl Wh)))⟩
theorem Cu {s:ah} {g:Nat} (hg:g < s.gs.length):(dc s g).1=ai (aE s (aD (aa s g).aF ((aa s g).k - 1)) { cn s (aD (aa s g).aF ((aa s g).k - 1)) with lock:=-1 }) g { aa s g with k:=(aa s g).k - 1 }:=rfl
structure Gy (nc ns n:Int) (x y:Gr):Prop where
 kp:jB x y
 ay:y.ay=x.ay
 an:y.an=x.an
 code:y.res.code=x.res.code
 k:y.k=x.k - 1
 hp:(x.place=30∨x.place=33)∧y.place=x.place∧1≤y.k∨x.place=30∧x.res.code=0∧y.place=13∧y.k=0∨(x.place=33∨x.place=30∧x.res.code≠0∧x.ay≠[])∧y.place=34∧y.k=0 ∨
  x.place=30∧x.res.code≠0∧(∀ i∈x.ay,i < 0)∧y.k=0∧(y.place=17∧x.an≠[]∨y.place=18∧x.an=[])
theorem Gy.mS (f:Gy nc ns n x y) (b:gB nc ns x) (e:dQ y.place):gB nc ns y:=by
 have h:=f.kp;have hp:=f.hp;have fk:=f.k;have ho:=h.aG;have hc:=h.ch;have o1:=b.o1;have l3:=b.l3;have o3:=b.o3;have k0:=b.k0;have k3:1≤x.k∧x.k≤x.aF.length:=b.k3 (by omega);have lT:y.place=x.place∧1≤y.k∧(x.place=30∨x.place=33)∨y.place=13∧x.place=30∧x.res.code=0∨y.place=34∧y.k=0:=by unfold dQ at e;omega
 constructor
 ·rw [h.order,h.aF,ho];simp only [hc];exact o1
 ·rw [h.order];exact b.o2
 ·rw [h.order];exact o3
 ·rw [h.aF];exact b.l1
 ·rw [h.aF];exact b.l2
 ·rw [h.aF];exact l3
 ·omega
 ·intro c;omega
 ·rw [h.order];intro c;omega
 ·rw [h.aF];intro c;omega
 ·intro c;omega
 ·rw [f.ay,ho];intro c;rcases hp with w | w | w | w
  ·exact b.s2 (by omega)
  ·rcases b.s3 w.1 with z | z
   ·exact z
   ·exact absurd w.2.1 z.2
  ·rcases w.1 with q | q
   ·exact b.s2 (by omega)
   ·rcases b.s3 q.1 with z | z
    ·exact z
    ·exact absurd z.1 q.2.2
  ·omega
 ·rw [f.ay,ho,f.code];intro c;exact b.s3 (by omega)
 ·rw [f.ay,h.order];exact b.s4
 ·intro c;omega
 ·rw [f.ay,h.order,f.code];intro c;exact b.s6 (by omega)
 ·intro c j hj;rw [show y.k=0 by omega] at hj;simp at hj
 ·rw [f.code];intro c;rcases hp with w | w | w | w
  ·omega
  ·exact w.2.1
  ·omega
  ·omega
 ·rw [h.bz];intro c;exact b.c2 (by omega)
 ·intro c;omega
end Sx
namespace Sx
variable {s t:ah} {g:Nat} {nc ns n:Int} {x y:Gr}
theorem Loc.fin (L:Loc nc ns n x) (hs:SE x) (xp:x.place≠0) (h1:y.ops=x.ops) (h2:y.at_=x.at_) (st:y.status=0) (tk:y.token=false) (pm:y.param=-1) (hp:y.place=17∧y.an≠[]∨y.place=18∧y.an=[]) (w3:∀ p∈y.an,0≤p∧p < n) (w4:y.an.Nodup) (tZ:0≤ns):Loc nc ns n y:=by
 have ho:aG y=aG x:=by unfold aG;rw [h1,h2]
 have gj:=L.gj;have pl:=L.pl.resolve_left xp;have hk:(aG x).kind=9:=hs;have yp:y.place=17∨y.place=18:=by omega
 constructor
 ·rw [h1];exact L.oE
 ·rw [h1];exact gj
 ·rw [h2];exact L.a0
 ·rw [h1,h2];exact L.a1
 ·rw [h1,h2,ho];exact .inr ⟨pl.1,by unfold bF;omega⟩
 ·rw [ho];intro _ _ _ _ _;omega
 ·exact .inl st
 ·intro c;omega
 ·intro c;omega
 ·intro c;omega
 ·rw [tk];simp
 ·intro c;rcases hp with w | w
  ·exact .inr (.inl w.1)
  ·exact absurd w.2 c
 ·intro c;rcases hp with w | w
  ·exact w.2
  ·omega
 ·exact w3
 ·exact w4
 ·intro c;omega
 ·intro _ c d;omega
 ·rw [pm];omega
 ·intro c;omega
 ·rw [pm];intro c;exact absurd c (by decide)
 ·rw [pm];intro c;exact absurd c (by decide)
 ·intro _ c;unfold dQ at c;omega
theorem Loc.waits (L:Loc nc ns n x) (hs:SE x) (e:x.place=30) (ec:x.res.code=0) (h:jB x y) (eg:y.ay=x.ay) (ew:y.an=x.an) (eco:y.res.code=x.res.code) (yp:y.place=30∨y.place=13) (st:x.status=0) (ys:gB nc ns y):Loc nc ns n y:=by
 have ho:=h.aG;have gj:=L.gj;have pl:=L.pl.resolve_left (by omega);have hk:(aG x).kind=9:=hs;have hy:SE y:=h.se.2 hs;have wy:Wt y:=.inr ⟨hy,by omega⟩;have ei:x.an=[]:=by
  by_cases w:x.an=[]
  ·exact w
  ·have:=L.w1 w;omega
 constructor
 ·rw [h.ops];exact L.oE
 ·rw [h.ops];exact gj
 ·rw [h.at_];exact L.a0
 ·rw [h.ops,h.at_];exact L.a1
 ·rw [h.ops,h.at_,ho];exact .inr ⟨pl.1,by unfold bF;omega⟩
 ·rw [ho];intro _ _ _ _ _;omega
 ·rw [h.status];exact .inl st
 ·rw [h.status];intro c;omega
 ·intro c;omega
 ·rw [h.status];intro c;omega
 ·rw [h.token,h.param];intro c;exact ⟨wy,(L.tk c).2.1,by omega⟩
 ·rw [ew,ei];simp
 ·intro c;omega
 ·rw [ew,ei];simp
 ·rw [ew,ei];simp
 ·intro c;omega
 ·intro c;exact absurd hy c.ne
 ·rw [h.param];exact L.p0
 ·intro c;omega
 ·rw [h.param];intro c;exact ⟨wy,(vz hs hy (by omega) (by omega) eg _).2 (L.p2 c).2⟩
 ·rw [h.param,h.bz];intro c _;exact L.p3 c hs
 ·intro _ _;exact ys
theorem MInv.vE (h:MInv s) (hg:g < s.gs.length) (st:(aa s g).status=0) (k:(ag s g).kind=9) (e:(aa s g).place=30∨(aa s g).place=33) {y:Gr} (f:Gy s.au.length s.aC.length s.gs.length (aa s g) y):MInv (ai (aE s (aD (aa s g).aF ((aa s g).k - 1)) { cn s (aD (aa s g).aF ((aa s g).k - 1)) with lock:=-1 }) g y):=by
 have L:=h.loc hg;have kx:SE (aa s g):=k;have dS:SE y:=f.kp.se.2 kx;have b:=h.j5 hg k (by unfold dQ;omega);have k3:=b.k3 e;have hm:=rQ (l:=(aa s g).aF) (k:=(aa s g).k - 1) (by omega) (by omega);have sL:=b.l1 _ hm;have hp:=f.hp;have fk:=f.k;have hk:=f.kp;have ey:dQ y.place∨y.place=17∨y.place=18:=by unfold dQ;omega
 have Cv:=zV (l:=(aa s g).aF) (k:=(aa s g).k - 1) (by omega) (by omega);have Wi:(aa s g).k - 1 + 1=(aa s g).k:=by omega
 rw [Wi] at Cv;have Gn:aD (aa s g).aF ((aa s g).k - 1)∉(aa s g).aF.take ((aa s g).k - 1).toNat:=by
  intro w;have l2:=b.l2;rw [← List.take_append_drop (aa s g).k.toNat (aa s g).aF,Cv] at l2;have:=(List.pairwise_append.1 (List.pairwise_append.1 l2).1).2.2 _ w _ (List.mem_singleton.2 rfl);omega
 have Nf:∀ ch,bE (aa s g) ch↔ch∈(aa s g).aF.take (aa s g).k.toNat:=by
  intro ch;rw [vw kx]
  constructor
  ·rintro (w | w)
   ·omega
   ·exact w.2
  ·intro w;exact .inr ⟨by omega,w⟩
 have Wj:∀ ch,bE y ch↔ch∈(aa s g).aF.take ((aa s g).k - 1).toNat:=by
  intro ch;rw [vw dS,hk.aF,fk]
  constructor
  ·rintro (w | w)
   ·exfalso;omega
   ·exact w.2
  ·intro w;refine .inr ⟨?_,w⟩
   by_cases z:(aa s g).k - 1=0
   ·rw [z] at w;simp at w
   ·omega
 have wkx:(aa s g).place=33→(aa s g).an=[]:=fun c=>h.qU hg (by omega)
 have lE:(aa s g).place=33∨(aa s g).res.code≠0→¬ Wt (aa s g):=fun c=>oJ (by omega)
 have lx:Loc s.au.length s.aC.length s.gs.length y:=by
  by_cases cw:(aa s g).place=30∧(aa s g).res.code=0
  ·exact L.waits kx cw.1 cw.2 hk f.ay f.an f.code (by omega) st (f.mS b (by unfold dQ;omega))
  ·have nw:=lE (by omega);obtain ⟨pm,tk⟩:=L.vv nw;rcases ey with c | c
   ·have Wk:=f.mS b c;refine L.mS kx (by omega) hk.ops hk.at_ (by rw [hk.status];exact st) (by rw [hk.token];exact tk) (by rw [hk.param];exact pm) (by unfold dQ at c;omega) ?_ (by rw [f.an];exact L.w3) (by rw [f.an];exact L.w4) (by omega) h.jb Wk;rw [f.an,f.code];intro w;have:=L.w1 w;have z:y.place=(aa s g).place∨y.place=13∧(aa s g).place=30∧(aa s g).res.code=0∨y.place=34:=by
     rcases hp with q | q | q | q
     ·exact .inl q.2.1
     ·exact .inr (.inl ⟨q.2.2.1,q.1,q.2.1⟩)
     ·exact .inr (.inr q.2.1)
     ·exfalso;unfold dQ at c;omega
    omega
   ·refine L.fin kx (by omega) hk.ops hk.at_ (by rw [hk.status];exact st) (by rw [hk.token];exact tk) (by rw [hk.param];exact pm) ?_ (by rw [f.an];exact L.w3) (by rw [f.an];exact L.w4) h.jb;rw [f.an];rcases hp with w | w | w | w
    ·omega
    ·omega
    ·omega
    ·exact w.2.2.2.2
 have ow:∀ i,Own y i↔Own (aa s g) i:=by
  intro i;rcases ey with c | c
  ·exact vz kx dS (by omega) (by unfold dQ at c;omega) f.ay i
  ·constructor
   ·rintro ⟨_,w | w⟩
    ·exact absurd dS w.1.ne
    ·have:=w.2.1;omega
   ·rintro ⟨i0,w | w⟩
    ·exact absurd kx w.1.ne
    ·rcases hp with q | q | q | q
     ·omega
     ·omega
     ·omega
     ·have:=q.2.2.1 i w.2.2;omega
 refine h.chan hg sL.1 sL.2 lx ⟨.inr (.inr ⟨(Nf _).2 (by rw [Cv];simp),rfl,fun ch=>?_⟩),h.gE sL.1 sL.2,⟨List.Sublist.refl _,List.Sublist.refl _⟩,.inl ⟨rfl,rfl⟩⟩ ow (fun i d _ m=>hk.mt kx f.ay m) ?_ ?_ ?_ (fun q=>by rw [f.an];exact id) ?_ ?_ hk.at_
 ·rw [Nf,Wj,Cv,List.mem_append,List.mem_singleton]
  constructor
  ·intro w;exact ⟨.inl w,fun z=>Gn (z ▸ w)⟩
  ·rintro ⟨w | w,w2⟩
   ·exact w
   ·exact absurd w w2
 ·intro i j q ch _ _ _;rcases q with q | q
  ·exact absurd kx q.1.ne
  ·obtain ⟨q1,q2,q3,q4,q5⟩:=q;refine .inr ⟨dS,q2,by rw [f.ay];exact q3,by rw [f.ay];exact q4,?_⟩;have c:(aa s g).place=30∧(aa s g).res.code=0:=by omega
   rcases hp with w | w | w | w
   ·exact .inr (.inr (.inr (.inr (.inl ⟨by omega,by rw [f.code];exact c.2⟩))))
   ·exact .inr (.inl w.2.2.1)
   ·omega
   ·omega
 ·unfold cI;unfold dQ at ey;omega
 ·unfold cX;unfold dQ at ey;omega
 ·rintro ⟨w1,w2,w3,w4⟩
  have c:(aa s g).place=30∧(aa s g).res.code=0:=by
   by_cases z:(aa s g).place=30∧(aa s g).res.code=0
   ·exact z
   ·exact absurd w1 (lE (by omega))
  refine ⟨.inr ⟨dS,?_⟩,by rw [hk.param];exact w2,by rw [hk.token];exact w3,by intro z;omega⟩;have:y.place=30∨y.place=13:=by omega
  rcases this with z | z
  ·exact .inr (.inr ⟨z,by rw [f.code];exact c.2⟩)
  ·exact .inl z
 ·rintro ⟨w1,w2,w3⟩
  have c:(aa s g).place=30∧(aa s g).res.code=0:=by
   by_cases z:(aa s g).place=30∧(aa s g).res.code=0
   ·exact z
   ·exact absurd w1 (lE (by omega))
  refine ⟨⟨.inr ⟨dS,?_⟩,by rw [hk.param];exact w2,fun _=>by rw [hk.bz];exact w3 kx⟩,fun z=>absurd dS z.ne⟩;have:y.place=30∨y.place=13:=by omega
  rcases this with z | z
  ·exact .inr (.inr ⟨z,by rw [f.code];exact c.2⟩)
  ·exact .inl z
theorem Wl {s:ah} {g:Nat} (hg:g < s.gs.length):aa (dc s g).1 g={ aa s g with k:=(aa s g).k - 1 }:=by
 rw [Cu hg,iQ (by exact hg),if_pos rfl]
theorem zZ {s:ah} {g:Nat} {p:Int} (hg:g < s.gs.length):aI (dc s g).1 g p=ai (aE s (aD (aa s g).aF ((aa s g).k - 1)) { cn s (aD (aa s g).aF ((aa s g).k - 1)) with lock:=-1 }) g { aa s g with k:=(aa s g).k - 1,place:=p }:=by
 rw [Cu hg,oH _ _ _ _ (by exact hg)]
theorem Ng {l:List Int} (h:¬ nZ l=true):∀ i∈l,i < 0:=by
 intro i hi;unfold nZ at h
 by_cases c:0≤i
 ·exact absurd (List.any_eq_true.2 ⟨i,hi,by simpa using c⟩) h
 ·omega
theorem Wm {l:List Int} (h:nZ l=true):l≠[]:=by
 intro c;rw [c] at h;simp [nZ] at h
theorem MInv.Wn (h:MInv s) (hg:g < s.gs.length) (st:(aa s g).status=0) (k:(ag s g).kind=9) (e:(aa s g).place=30) :
  MInv (if (dc s g).2=true then (dc s g).1 else if (aa s g).res.code=0 then aI (dc s g).1 g 13 else if nZ (aa s g).ay=true then aI (dc s g).1 g 34 else an (dc s g).1 g):=by
 have b:=h.j5 hg k (by unfold dQ;omega);have k3:=b.k3 (by omega);have e2:(dc s g).2=decide (0 < (aa s g).k - 1):=rfl;have kp:∀ (kk p:Int),jB (aa s g) { aa s g with k:=kk,place:=p }:=fun _ _=>⟨rfl,rfl,rfl,rfl,rfl,rfl,rfl,rfl,rfl⟩
 rw [e2]
 split
 ·rename_i c;have c:0 < (aa s g).k - 1:=by simpa using c
  rw [Cu hg];exact h.vE hg st k (by omega) (y:={ aa s g with k:=(aa s g).k - 1 }) ⟨kp _ (aa s g).place,rfl,rfl,rfl,rfl,.inl ⟨.inl e,rfl,by simp only;omega⟩⟩
 rename_i c;have c:¬ 0 < (aa s g).k - 1:=by simpa using c
 split
 ·rename_i c2;rw [zZ hg];exact h.vE hg st k (by omega) ⟨kp _ _,rfl,rfl,rfl,rfl,.inr (.inl ⟨e,c2,rfl,by simp only;omega⟩)⟩
 rename_i c2
 split
 ·rename_i c3;rw [zZ hg];exact h.vE hg st k (by omega) ⟨kp _ _,rfl,rfl,rfl,rfl,.inr (.inr (.inl ⟨.inr ⟨e,c2,Wm c3⟩,rfl,by simp only;omega⟩))⟩
 rename_i c3;unfold an;rw [Wl hg]
 split
 ·rename_i c4;rw [zZ hg];exact h.vE hg st k (by omega) ⟨kp _ _,rfl,rfl,rfl,rfl,.inr (.inr (.inr ⟨e,c2,Ng c3,by simp only;omega,.inl ⟨rfl,List.length_pos_iff.1 c4⟩⟩))⟩
 ·rename_i c4;rw [zZ hg];exact h.vE hg st k (by omega) ⟨kp _ _,rfl,rfl,rfl,rfl,.inr (.inr (.inr ⟨e,c2,Ng c3,by simp only;omega,.inr ⟨rfl,List.length_eq_zero_iff.1 (by simp only at c4;omega)⟩⟩))⟩
theorem MInv.Wo (h:MInv s) (hg:g < s.gs.length) (st:(aa s g).status=0) (k:(ag s g).kind=9) (e:(aa s g).place=33):MInv (if (dc s g).2=true then (dc s g).1 else aI (dc s g).1 g 34):=by
 have b:=h.j5 hg k (by unfold dQ;omega);have k3:=b.k3 (by omega);have e2:(dc s g).2=decide (0 < (aa s g).k - 1):=rfl;have kp:∀ (kk p:Int),jB (aa s g) { aa s g with k:=kk,place:=p }:=fun _ _=>⟨rfl,rfl,rfl,rfl,rfl,rfl,rfl,rfl,rfl⟩
 rw [e2]
 split
 ·rename_i c;have c:0 < (aa s g).k - 1:=by simpa using c
  rw [Cu hg];exact h.vE hg st k (by omega) (y:={ aa s g with k:=(aa s g).k - 1 }) ⟨kp _ (aa s g).place,rfl,rfl,rfl,rfl,.inl ⟨.inr e,rfl,by simp only;omega⟩⟩
 ·rename_i c;have c:¬ 0 < (aa s g).k - 1:=by simpa using c
  rw [zZ hg];exact h.vE hg st k (by omega) ⟨kp _ _,rfl,rfl,rfl,rfl,.inr (.inr (.inl ⟨.inl e,rfl,by simp only;omega⟩))⟩
end Sx
namespace Sx
variable {s t:ah} {g:Nat} {nc ns n:Int} {x y:Gr}
end Sx
end Go.Proofs.YtofnbflkhgammaaGreat
