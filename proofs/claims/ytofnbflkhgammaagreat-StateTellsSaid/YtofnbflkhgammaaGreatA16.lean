/-
  What the laws need, part A16.
  Conditions: none.
-/
import Derived.Test.YtofnbflkhgammaaGreatA15
set_option linter.unusedVariables false
set_option linter.unusedSimpArgs false
set_option linter.unnecessarySimpa false
set_option maxHeartbeats 2000000
namespace Go.Proofs.YtofnbflkhgammaaGreat
namespace Sx
variable {s t:St} {g:Nat} {nc ns n:Int} {x y:Gr}
theorem uz (hz:SE x) (ch:Int):aY x ch↔(25≤x.place∧x.place≤29∨x.place=32)∧ch∈x.aC∨(x.place=24∨x.place=31∨x.place=30∨x.place=33)∧ch∈x.aC.take x.k.toNat:=by
 unfold aY;have:(aD x).kind=9:=hz
 constructor
 ·rintro (w | w)
  ·omega
  ·exact w.2
 ·intro w;exact .inr ⟨hz,w⟩
def jM (x:Gr):Prop:=25≤x.place∧x.place≤29∨x.place=32∨(x.place=30∨x.place=33)∧x.k=x.aC.length
theorem me (hz:SE x) (h:jM x) (ch:Int):aY x ch↔ch∈x.aC:=by
 rw [uz hz];rcases h with h | h | h
 ·constructor
  ·rintro (w | w)
   ·exact w.2
   ·omega
  ·intro w;exact .inl ⟨.inl h,w⟩
 ·constructor
  ·rintro (w | w)
   ·exact w.2
   ·omega
  ·intro w;exact .inl ⟨.inr h,w⟩
 ·rw [Kx h.2]
  constructor
  ·rintro (w | w) <;> exact w.2
  ·intro w;exact .inr ⟨by omega,w⟩
theorem MInv.qf (h:MInv s) (hg:g < s.gs.length) (e:24≤(gr s g).place∧(gr s g).place≤29∨31≤(gr s g).place∧(gr s g).place≤33∨(gr s g).place=14∨(gr s g).place=13∨(gr s g).place=30∧(gr s g).res.code=0):(gr s g).ah=[]:=by
 by_cases w:(gr s g).ah=[]
 ·exact w
 ·have:=(h.loc hg).w1 w;omega
theorem fY.polls (sV:0≤ns) (b:fY nc ns x) (h:je x y) (e:25≤x.place∧x.place≤27)
  (hp:(25≤y.place∧y.place≤27)∧0≤y.k∧y.k < x.order.length∧y.ak=[]∧y.res.code=0∨y.place=30∧y.k=x.aC.length∧y.ak=[]∧y.res.code≠0 ∨
   y.place=28∧y.k=0∧y.ak=List.replicate (aD x).cases.length (-1)∧y.res.code=0):fY nc ns y:=by
 have ho:=h.aD;have hc:=h.ch;have o1:=b.o1;have l3:=b.l3;have o3:=b.o3;have hk:0≤y.k∧(25≤y.place∧y.place≤29∨y.place=32∨y.place=34→y.k < x.order.length)∧(y.place=30∨y.place=33→1≤y.k∧y.k≤x.aC.length):=by omega
 have no:y.place≠24∧y.place≠29∧y.place≠31∧y.place≠32∧y.place≠33∧y.place≠34∧y.place≠13∧y.place≠14:=by omega
 have hs:y.ak=[]∨y.ak=List.replicate (aD x).cases.length (-1):=by
  rcases hp with w | w | w
  ·exact .inl w.2.2.2.1
  ·exact .inl w.2.2.1
  ·exact .inr w.2.2.1
 have rep:∀ j:Int,0≤j→j < y.ak.length→aA y.ak j=-1:=by
  intro j a c;rcases hs with w | w
  ·rw [w] at c;simp at c;omega
  ·rw [w] at c ⊢;simp only [List.length_replicate] at c;unfold aA;rw [List.getD_eq_getElem?_getD,List.getElem?_replicate];rw [if_pos (by omega)];rfl
 constructor
 ·rw [h.order,h.aC,ho];simp only [hc];exact o1
 ·rw [h.order];exact b.o2
 ·rw [h.order];exact b.o3
 ·rw [h.aC];exact b.l1
 ·rw [h.aC];exact b.l2
 ·rw [h.aC];exact b.l3
 ·exact hk.1
 ·intro c;omega
 ·rw [h.order];exact hk.2.1
 ·rw [h.aC];exact hk.2.2
 ·intro c;rcases hp with w | w | w
  ·exact w.2.2.2.1
  ·exact w.2.2.1
  ·omega
 ·intro c;rcases hp with w | w | w
  ·omega
  ·omega
  ·rw [w.2.2.1,ho,List.length_replicate]
 ·intro c;rcases hp with w | w | w
  ·omega
  ·exact .inr ⟨w.2.2.1,w.2.2.2⟩
  ·omega
 ·intro j a c;have:=rep j a c;rw [this];exact ⟨by decide,by omega,fun c=>absurd c (by decide)⟩
 ·intro c j hj;rw [h.order] at hj;have:=o1 j (List.mem_of_mem_drop hj);rcases hp with w | w | w
  ·omega
  ·omega
  ·exact rep j this.1 (by rw [w.2.2.1,List.length_replicate];exact this.2.1)
 ·intro c;rcases hp with w | w | w
  ·omega
  ·omega
  ·omega
 ·intro c;omega
 ·intro c;rcases hp with w | w | w
  ·exact w.2.2.2.2
  ·omega
  ·exact w.2.2.2
 ·intro c;omega
 ·intro c j hj;rcases hp with w | w | w
  ·omega
  ·omega
  ·rw [w.2.1] at hj;simp at hj
theorem vV {x:Gr} (hs:SE x) (h:24≤x.place∧x.place≤27∨x.ak=[]∨∀ i∈x.ak,i=-1) (i:Int):¬ Own x i:=by
 rintro ⟨w0,w | w⟩
 ·exact w.1.ne hs
 ·rcases h with h | h | h
  ·have:=w.2.1;omega
  ·rw [h] at w;simp at w
  ·have:=h i w.2.2;omega
theorem rB {x:Gr} (hs:SE x) (h:24≤x.place∧x.place≤28∨x.place=33∨x.place=34∨x.place=30∧x.res.code≠0) (i j:Int):¬ dP x i j:=by
 rintro (w | w)
 ·exact w.1.ne hs
 ·have:=w.2.2.2.2;omega
structure Poll (ns:Int) (x y:Gr):Prop where
 kp:je x y
 hp:(25≤y.place∧y.place≤27)∧0≤y.k∧y.k < x.order.length∧y.ak=[]∧y.res.code=0∨y.place=30∧y.k=x.aC.length∧y.ak=[]∧y.res.code≠0 ∨
   y.place=28∧y.k=0∧y.ak=List.replicate (aD x).cases.length (-1)∧y.res.code=0
 hd:y.place=26∨y.place=27→0≤y.hold∧y.hold < ns
theorem Poll.loc {x y:Gr} (f:Poll ns x y) (L:Loc nc ns n x) (b:fY nc ns x) (hs:SE x) (st:x.status=0) (e:25≤x.place∧x.place≤27) (wk:y.ah=[]) (sV:0≤ns):Loc nc ns n y:=by
 have hp:=f.hp;obtain ⟨pm,tk⟩:=L.uy (nZ (x:=x) (by omega));refine L.lY hs (by omega) f.kp.ops f.kp.at_ (by rw [f.kp.status];exact st) (by rw [f.kp.token];exact tk) (by rw [f.kp.param];exact pm) (by omega) (by rw [wk];simp) (by rw [wk];simp) (by rw [wk];simp) f.hd sV (b.polls sV f.kp e hp)
theorem Poll.jM {x y:Gr} (f:Poll ns x y):jM y:=by
 have hp:=f.hp;have:=f.kp.aC;unfold Sx.jM;rw [this];omega
theorem Poll.rH {x y:Gr} (f:Poll ns x y) (hs:SE x) (i:Int):¬ Own y i:=by
 refine vV (f.kp.se.2 hs) ?_ i;rcases f.hp with w | w | w
 ·exact .inr (.inl w.2.2.2.1)
 ·exact .inr (.inl w.2.2.1)
 ·refine .inr (.inr fun i hi=>?_);rw [w.2.2.1] at hi;exact (List.mem_replicate.1 hi).2
theorem Poll.holds {x y:Gr} (f:Poll ns x y) (hs:SE x) (e:25≤x.place∧x.place≤27) (ch:Int):aY y ch↔aY x ch:=by
 rw [me (f.kp.se.2 hs) f.jM,me hs (by unfold Sx.jM;omega),f.kp.aC]
theorem MInv.KB (h:MInv s) (hg:g < s.gs.length) (st:(gr s g).status=0) (k:(op s g).kind=9) (e:25≤(gr s g).place∧(gr s g).place≤27) {y:Gr} (f:Poll s.aB.length (gr s g) y) (wk:y.ah=(gr s g).ah) (n2:y.place≠26∧y.place≠27) {c:Int} {c':Cn} (c0:1≤c) (c1:c≤s.an.length)
  (e1:c'.lock=(cn s c).lock) (e2:0≤c'.cap∧c'.cap≤4∧(c'.buf.length:Int)≤c'.cap) (e3:c'.recv.Sublist (cn s c).recv∧c'.send.Sublist (cn s c).send) (e4:c'.recv=(cn s c).recv∧c'.send=(cn s c).send∨aY (gr s g) c):MInv (aa (av s c c') g y):=by
 have L:=h.loc hg;have kx:SE (gr s g):=k;have b:=h.jL hg k (by unfold dG;omega);have dQ:=h.qf hg (by omega);have nw:¬ Wt (gr s g):=nZ (by omega);exact h.chan hg c0 c1 (f.loc L b kx st e (wk.trans dQ) h.iL) ⟨.inl ⟨e1,f.holds kx e⟩,e2,e3,e4⟩ (fun i=>⟨fun w=>absurd w (f.rH kx i),fun w=>absurd w (vV kx (.inl ⟨by omega,by omega⟩) i)⟩) (fun i d w=>absurd w (f.rH kx i)) (fun i j w=>absurd w (rB kx (by omega) i j)) (by have:=f.hp;unfold cu;omega) (by have:=f.hp;unfold cO;omega) (fun q=>by rw [wk];exact id) (fun w=>absurd w.1 nw) (fun w=>absurd w.1 nw) f.kp.at_
theorem MInv.Bm (h:MInv s) (hg:g < s.gs.length) (st:(gr s g).status=0) (k:(op s g).kind=9) (e:25≤(gr s g).place∧(gr s g).place≤27) {y:Gr} (f:Poll s.aB.length (gr s g) y) (wk:y.ah=(gr s g).ah) (n2:y.place≠27)
  (wn:cu y→1≤(su s y.hold).ch∧(su s y.hold).ch≤s.an.length∧aY y (su s y.hold).ch∧(y.hold∈(cn s (su s y.hold).ch).recv∨y.hold∈(cn s (su s y.hold).ch).send)∧0≤(su s y.hold).cs):MInv (aa s g y):=by
 have L:=h.loc hg;have kx:SE (gr s g):=k;have b:=h.jL hg k (by unfold dG;omega);have dQ:=h.qf hg (by omega);have nw:¬ Wt (gr s g):=nZ (by omega);exact h.self hg ⟨f.loc L b kx st e (wk.trans dQ) h.iL,f.holds kx e,fun i=>⟨fun w=>absurd w (f.rH kx i),fun w=>absurd w (vV kx (.inl ⟨by omega,by omega⟩) i)⟩,fun i d w=>absurd w (f.rH kx i),fun i j w=>absurd w (rB kx (by omega) i j),by have:=f.hp;unfold cO;omega,fun q=>by rw [wk];exact id,fun w=>absurd w.1 nw,fun w=>absurd w.1 nw⟩ f.kp.at_ wn
theorem fY.hand (b:fY nc ns x) (k:25≤x.place∧x.place≤29∨x.place=32∨x.place=34):aA x.order x.k∈x.order∧0≤aA x.order x.k∧aA x.order x.k < (aD x).cases.length∧bP x (aA x.order x.k)∈x.aC∧1≤bP x (aA x.order x.k)∧bP x (aA x.order x.k)≤nc:=by
 have hm:=qP b.k0 (b.k2 k);have o:=b.o1 _ hm;have l:=b.l1 _ o.2.2;exact ⟨hm,o.1,o.2.1,o.2.2,l.1,l.2⟩
theorem TD {s:St} {g:Nat} {x:Gr} {r:Md.ai} {i:Int} (hg:g < s.gs.length):eV (aa s g x) g r i=aa s g { x with bG:=s.step,res:={ r with cs:=i },dh:=i,k:=x.aC.length,place:=30 }:=by
 unfold eV;simp only;rw [EX _ _ _ _ _ hg,iK s g g _ hg,if_pos rfl,mc];unfold unlock;rw [iK s g g _ hg,if_pos rfl,mc]
theorem KC {s:St} {g:Nat} (hg:g < s.gs.length):aa s g (gr s g)=s:=by
 unfold aa gr;rw [List.getD_eq_getElem?_getD,List.getElem?_eq_getElem hg];simp
theorem KD {s:St} {g:Nat} {r:Md.ai} {i:Int} (hg:g < s.gs.length):eV s g r i=aa s g { gr s g with bG:=s.step,res:={ r with cs:=i },dh:=i,k:=(gr s g).aC.length,place:=30 }:=by
 have:=TD (s:=s) (g:=g) (x:=gr s g) (r:=r) (i:=i) hg;rw [KC hg] at this;exact this
theorem TE {s:St} {g:Nat} {c:Int} {c':Cn} {r:Md.ai} {i:Int} (hg:g < s.gs.length):eV (av s c c') g r i=aa (av s c c') g { gr s g with bG:=s.step,res:={ r with cs:=i },dh:=i,k:=(gr s g).aC.length,place:=30 }:=by
 rw [KD (by exact hg)];rfl
theorem yz {s:St} {g:Nat} {x:Gr} {p:Int} (hg:g < s.gs.length):next (aa s g x) g p=aa s g (if x.k + 1=x.order.length then { x with k:=0,place:=p } else { x with k:=x.k + 1 }):=by
 unfold next;simp only;rw [iK s g g _ hg,if_pos rfl]
 split <;> rw [mc]
theorem E1 {s:St} {g:Nat} {p:Int} (hg:g < s.gs.length):next s g p=aa s g (if (gr s g).k + 1=(gr s g).order.length then { gr s g with k:=0,place:=p } else { gr s g with k:=(gr s g).k + 1 }):=by
 have:=yz (s:=s) (g:=g) (x:=gr s g) (p:=p) hg;rw [KC hg] at this;exact this
theorem Bo {s:St} {g:Nat} {x:Gr} (hg:g < s.gs.length):gy (aa s g x) g=aa s g (if x.place=27 then { x with dh:=aA x.order x.k } else x):=by
 unfold gy;simp only;rw [iK s g g _ hg,if_pos rfl]
 split <;> rw [mc]
theorem MInv.KF (h:MInv s) (hg:g < s.gs.length) (st:(gr s g).status=0) (k:(op s g).kind=9) (e:(gr s g).place=25) {i c:Int} (hc:c∈(gr s g).aC) (hq:i∈(cn s c).recv∨i∈(cn s c).send):MInv (gy (taken s g i 26 27) g):=by
 have L:=h.loc hg;have kx:SE (gr s g):=k;have b:=h.jL hg k (by unfold dG;omega);have dQ:=h.qf hg (by omega);have nw:¬ Wt (gr s g):=nZ (by omega);obtain ⟨c0,c1⟩:=b.l1 c hc;obtain ⟨o,q⟩:=h.vN (g:=g) c0 c1 hq;have nq:=rB kx (x:=gr s g) (by omega);have br:=q.ne h nq;have k2:=b.k2 (by omega);have s1:=b.s1 (by omega);have cc:=b.c1 (by omega)
 by_cases hn:0≤(su s i).cs
 ·rw [Ke hg hn,Bo hg,if_neg (by simp)];have f:Poll s.aB.length (gr s g) { gr s g with hold:=i,place:=26 }:=⟨⟨rfl,rfl,rfl,rfl,rfl,rfl,rfl,rfl,rfl⟩,.inl ⟨by simp,b.k0,k2,s1,cc⟩,fun _=>⟨q.i0,q.i1⟩⟩
  refine h.Bm hg st k (by omega) f rfl (by simp) (fun _=>?_);simp only;rw [q.ch];exact ⟨c0,c1,(f.holds kx (by omega) c).2 ((me kx (by unfold jM;omega) c).2 hc),hq,hn⟩
 ·rw [Kc hg q.g_ br q.ch c0 c1 hn];rw [Bo (by rw [gU];exact hg),if_pos rfl];have f:Poll s.aB.length (gr s g) { gr s g with hold:=i,t:=s.step,bG:=s.step,wi:=o,place:=27,dh:=aA (gr s g).order (gr s g).k }:=⟨⟨rfl,rfl,rfl,rfl,rfl,rfl,rfl,rfl,rfl⟩,.inl ⟨by simp,b.k0,k2,s1,cc⟩,fun _=>⟨q.i0,q.i1⟩⟩
  refine h.Bf hg q (f.loc L b kx st (by omega) dQ h.iL) ⟨.inl ⟨rfl,f.holds kx (by omega)⟩,h.gK c0 c1,⟨jd,jd⟩,.inr ?_⟩ (fun i=>⟨fun w=>absurd w (f.rH kx i),fun w=>absurd w (vV kx (.inl ⟨by omega,by omega⟩) i)⟩) (fun i d w=>absurd w (f.rH kx i)) nq (by unfold cu;simp) (fun q=>id) nw (.inr rfl) rfl c0 c1 ?_ hq ⟨rfl,rfl,rfl,rfl,rfl,rfl,rfl,rfl,rfl,rfl,rfl⟩ rfl rfl rfl (.inl ⟨by omega,nY,nY,rfl⟩) rfl
  ·exact (me kx (by unfold jM;omega) c).2 hc
  ·exact (f.holds kx (by omega) c).2 ((me kx (by unfold jM;omega) c).2 hc)
theorem MInv.TF (h:MInv s) (hg:g < s.gs.length) (st:(gr s g).status=0) (k:(op s g).kind=9) (e:(gr s g).place=26):MInv (gy (dy s g 25 27) g):=by
 have L:=h.loc hg;have kx:SE (gr s g):=k;have b:=h.jL hg k (by unfold dG;omega);have dQ:=h.qf hg (by omega);have nw:¬ Wt (gr s g):=nZ (by omega);have hd:=L.hd (by omega);have nq:=rB kx (x:=gr s g) (by omega);have k2:=b.k2 (by omega);have s1:=b.s1 (by omega);have cc:=b.c1 (by omega);obtain ⟨o,q,c0,c1,hh,hq,ji⟩:=h.EO hg (.inr (.inr e));have br:o≠g:=q.ne h nq
 cases hp:(gr s o).aX with
 | true =>
  rw [Kf (by rw [q.g_];exact hp),drop_eq rfl c0 c1,Bo (by exact hg),if_neg (by simp)];have f:Poll s.aB.length (gr s g) { gr s g with hold:=-1,place:=25 }:=⟨⟨rfl,rfl,rfl,rfl,rfl,rfl,rfl,rfl,rfl⟩,.inl ⟨by simp,b.k0,k2,s1,cc⟩,by simp⟩
  exact h.KB hg st k (by omega) f rfl (by simp) c0 c1 rfl (h.gK c0 c1) ⟨jd,jd⟩ (.inr hh)
 | false =>
  rw [Kg hg q.o1 q.g_ br hp,Bo (by rw [gU];exact hg),if_pos rfl];have f:Poll s.aB.length (gr s g) { gr s g with t:=s.step,bG:=s.step,wi:=o,place:=27,dh:=aA (gr s g).order (gr s g).k }:=⟨⟨rfl,rfl,rfl,rfl,rfl,rfl,rfl,rfl,rfl⟩,.inl ⟨by simp,b.k0,k2,s1,cc⟩,fun _=>hd⟩
  have:=h.Bf hg q (c':=cn s (su s (gr s g).hold).ch) (f.loc L b kx st (by omega) dQ h.iL) ⟨.inl ⟨rfl,f.holds kx (by omega)⟩,h.gK c0 c1,⟨List.Sublist.refl _,List.Sublist.refl _⟩,.inr hh⟩ (fun i=>⟨fun w=>absurd w (f.rH kx i),fun w=>absurd w (vV kx (.inl ⟨by omega,by omega⟩) i)⟩) (fun i d w=>absurd w (f.rH kx i)) nq (by unfold cu;simp) (fun q=>id) nw (.inr rfl) rfl c0 c1 ((f.holds kx (by omega) _).2 hh) hq (y:={ gr s o with aX:=true,bG:=s.step,wi:=g,dh:=(su s (gr s g).hold).cs }) ⟨rfl,rfl,rfl,rfl,rfl,rfl,rfl,rfl,rfl,rfl,rfl⟩ rfl rfl rfl (.inr ⟨ji,hp,rfl,hh⟩) rfl;rw [Ka c0 c1] at this;exact this
theorem MInv.jZ (h:MInv s) (hg:g < s.gs.length) (st:(gr s g).status=0) (k:(op s g).kind=9) (e:(gr s g).place=25):MInv (jZ s g (op s g)):=by
 have L:=h.loc hg;have kx:SE (gr s g):=k;have b:=h.jL hg k (by unfold dG;omega);have k2:=b.k2 (by omega);have s1:=b.s1 (by omega);have cc:=b.c1 (by omega);have k0:=b.k0;have l3:=b.l3;have hd:=b.hand (by omega);have ho:aD (gr s g)=op s g:=rfl;have pG:(bZ (op s g) (aA (gr s g).order (gr s g).k)).ch=bP (gr s g) (aA (gr s g).order (gr s g).k):=rfl;have KG:∀ (r:Md.ai) (i:Int),r.code≠0→Poll s.aB.length (gr s g) { gr s g with bG:=s.step,res:={ r with cs:=i },dh:=i,k:=(gr s g).aC.length,place:=30 }:=fun r i hr =>
  ⟨⟨rfl,rfl,rfl,rfl,rfl,rfl,rfl,rfl,rfl⟩,.inr (.inl ⟨rfl,rfl,s1,hr⟩),by simp⟩
 have E2:∀ (r:Md.ai) (i:Int),r.code≠0→MInv (eV s g r i):=fun r i hr=>by
  rw [KD hg];exact h.Bm hg st k (by omega) (KG r i hr) rfl (by simp) (fun w=>by unfold cu at w;simp at w)
 have KH:∀ (c:Int) (l:List Int) (r:Md.ai) (i:Int),1≤c→c≤s.an.length→(l.length:Int)≤(cn s c).cap→r.code≠0→MInv (eV (av s c { cn s c with buf:=l }) g r i):=fun c l r i c0 c1 hl hr=>by
  rw [TE hg];have AS:=h.gK c0 c1;exact h.KB hg st k (by omega) (KG r i hr) rfl (by simp) c0 c1 rfl ⟨AS.1,AS.2.1,hl⟩ ⟨List.Sublist.refl _,List.Sublist.refl _⟩ (.inl ⟨rfl,rfl⟩)
 unfold Sx.jZ;simp only;generalize hi:aA (gr s g).order (gr s g).k=i at *;rw [← ho];have oC:(bZ (aD (gr s g)) i).ch=bP (gr s g) i:=rfl;have TG:(iF s g i (bZ (aD (gr s g)) i)).2=true→MInv (iF s g i (bZ (aD (gr s g)) i)).1:=by
  unfold iF;simp only [oC]
  split
  ·intro _;exact E2 _ _ (by decide)
  split
  ·rename_i c;intro _;exact h.KF hg st k e hd.2.2.2.1 (.inl (vQ (by omega)))
  split
  ·rename_i c;intro _;exact KH _ _ _ _ hd.2.2.2.2.1 hd.2.2.2.2.2 (Km c) (by decide)
  ·intro c;cases c
 have TH:(jo s g i (bZ (aD (gr s g)) i)).2=true→MInv (jo s g i (bZ (aD (gr s g)) i)).1:=by
  unfold jo;simp only [oC]
  split
  ·rename_i c;intro _;exact h.KF hg st k e hd.2.2.2.1 (.inr (vQ (by omega)))
  split
  ·intro _;have AS:=h.gK hd.2.2.2.2.1 hd.2.2.2.2.2;exact KH _ _ _ _ hd.2.2.2.2.1 hd.2.2.2.2.2 (by have:=Kn (l:=(cn s (bP (gr s g) i)).buf);omega) (by unfold ee;simp)
  split
  ·intro _;exact E2 _ _ (by unfold ee;simp)
  ·intro c;cases c
 have KI:(gr s g).k + 1 < (gr s g).order.length→MInv (next s g 25):=by
  intro c;rw [E1 hg,ax];exact h.Bm hg st k (by omega) ⟨⟨rfl,rfl,rfl,rfl,rfl,rfl,rfl,rfl,rfl⟩,.inl ⟨by simp only;omega,by simp only;omega,c,s1,cc⟩,by simp only;omega⟩ rfl (by simp only;omega) (fun w=>by unfold cu at w;simp only at w;omega)
 have KJ:¬ (gr s g).k + 1 < (gr s g).order.length→MInv (next (aa s g { gr s g with ak:=List.replicate (aD (gr s g)).cases.length (-1) }) g 28):=by
  intro c;rw [yz hg,if_pos (by simp only;omega)];exact h.Bm hg st k (by omega) ⟨⟨rfl,rfl,rfl,rfl,rfl,rfl,rfl,rfl,rfl⟩,.inr (.inr ⟨rfl,rfl,rfl,cc⟩),by simp⟩ rfl (by simp) (fun w=>by unfold cu at w;simp at w)
 have KK:MInv (eV s g ⟨2,0,0,false,0⟩ (-1)):=E2 _ _ (by decide)
 by_cases yA:(bZ (aD (gr s g)) i).send=true
 ·rw [if_pos yA]
  by_cases c:(iF s g i (bZ (aD (gr s g)) i)).2=true
  ·rw [if_pos c];exact TG c
  rw [if_neg c]
  split
  ·rename_i c;exact KI c
  split
  ·exact KK
  ·rename_i c _;exact KJ c
 ·rw [if_neg yA]
  by_cases c:(jo s g i (bZ (aD (gr s g)) i)).2=true
  ·rw [if_pos c];exact TH c
  rw [if_neg c]
  split
  ·rename_i c;exact KI c
  split
  ·exact KK
  ·rename_i c _;exact KJ c
end Sx
namespace Sx
variable {s t:St} {g:Nat} {nc ns n:Int} {x y:Gr}
theorem MInv.E3 (h:MInv s) (hg:g < s.gs.length) (st:(gr s g).status=0) (k:(op s g).kind=9) (e:(gr s g).place=27) {o:Nat} {c i:Int} (hi:(gr s g).hold=i) (q:EP s g i c o) (other:∀ k:Nat,k < s.gs.length→k≠g→cO (gr s k)→(su s (gr s k).hold).g=o→False) (r:Md.ai) (hr:r.code≠0) (d:Su)
  (hd:d.g=(su s i).g∧d.ch=(su s i).ch∧d.cs=(su s i).cs∧d.send=(su s i).send∧d.live=(su s i).live) :
  MInv (aa (aF (aa (av s c (bX (cn s c) i)) o { gr s o with param:=i }) i d) g { gr s g with ah:=(gr s g).ah ++ [(o:Int)],hold:=-1,res:=r,k:=(gr s g).aC.length,place:=30 }):=by
 have L:=h.loc hg;have kx:SE (gr s g):=k;have b:=h.jL hg k (by unfold dG;omega);have dQ:=h.qf hg (by omega);have nw:¬ Wt (gr s g):=nZ (by omega);have nq:=rB kx (x:=gr s g) (by omega);have s1:=b.s1 (by omega);have f:Poll s.aB.length (gr s g) { gr s g with hold:=-1,res:=r,k:=(gr s g).aC.length,place:=30 }:=⟨⟨rfl,rfl,rfl,rfl,rfl,rfl,rfl,rfl,rfl⟩,.inr (.inl ⟨rfl,rfl,s1,hr⟩),by simp⟩
 have lz:=f.loc L b kx st (by omega) dQ h.iL;have lx:Loc s.an.length s.aB.length s.gs.length { gr s g with ah:=(gr s g).ah ++ [(o:Int)],hold:=-1,res:=r,k:=(gr s g).aC.length,place:=30 } :=
  lz.ET (.inr (.inr (.inr (.inr (.inr ⟨rfl,hr⟩))))) (by rw [dQ];have:=q.o1;simp;omega) (by rw [dQ];simp) (by simp)
 have KL:∀ i,¬ Own { gr s g with ah:=(gr s g).ah ++ [(o:Int)],hold:=-1,res:=r,k:=(gr s g).aC.length,place:=30 } i:=fun i w=>f.rH kx i w
 refine h.EN hg q.c0 q.c1 lx ⟨.inl ⟨rfl,fun ch=>f.holds kx (by omega) ch⟩,h.gK q.c0 q.c1,⟨jd,jd⟩,.inr q.hh⟩ (fun i=>⟨fun w=>absurd w (KL i),fun w=>absurd w (vV kx (.inl ⟨by omega,by omega⟩) i)⟩) (fun i d w=>absurd w (KL i)) nq (by unfold cu;simp) (by unfold cO;simp) (fun q hq=>?_) nw q.sc q.so q.o1 q.ne q.wt q.pm q.own (fun w=>q.se w) ⟨nY,nY⟩ other ⟨rfl,rfl,rfl,rfl,rfl,rfl,rfl,rfl,rfl,rfl,rfl⟩ rfl rfl rfl rfl hd;rcases List.mem_append.1 hq with w | w
 ·exact .inl w
 ·exact .inr (List.mem_singleton.1 w)
theorem Bp {s:St} {g:Nat} {x:Gr} {p:Int} (hg:g < s.gs.length):unlock (aa s g x) g p=aa s g { x with k:=x.aC.length,place:=p }:=by
 unfold unlock;rw [iK s g g _ hg,if_pos rfl,mc]
theorem TI {s:St} {g:Nat} {p:Int} (hg:g < s.gs.length):unlock s g p=aa s g { gr s g with k:=(gr s g).aC.length,place:=p }:=rfl
theorem TJ {s:St} {g o:Nat} {i c:Int} {d:Su} {r:Md.ai} {kk p:Int} (hg:g < s.gs.length) (ho:o < s.gs.length) (so:d.g=o) (br:o≠g) (i0:0≤i) (i1:i < s.aB.length) (hk:kk=(gr s g).aC.length) :
  unlock (aa (serve (aF (av s c (bX (cn s c) i)) i d) g i true) g { gr (serve (aF (av s c (bX (cn s c) i)) i d) g i true) g with res:=r }) g p =
  aa (aF (aa (av s c (bX (cn s c) i)) o { gr s o with param:=i }) i { d with done:=true }) g { gr s g with ah:=(gr s g).ah ++ [(o:Int)],hold:=-1,res:=r,k:=kk,place:=p }:=by
 have s1:su (aF (av s c (bX (cn s c) i)) i d) i=d:=Kh i0 i1;have e:=yw (s:=aF (av s c (bX (cn s c) i)) i d) (g:=g) (o:=o) (i:=i) (d:=true) hg ho (by rw [s1];exact so) br;have g1:gr (aF (av s c (bX (cn s c) i)) i d) g=gr s g:=rfl;have g2:gr (aF (av s c (bX (cn s c) i)) i d) o=gr s o:=rfl;rw [s1,g1,g2] at e;rw [e];have hl:∀ y:Gr,g < (aF (aa (aF (av s c (bX (cn s c) i)) i d) o y) i { d with done:=true }).gs.length:=fun y=>by show g < (aa _ _ _).gs.length;rw [gU];exact hg
 have g3:∀ y z,gr (aa (aF (aa (aF (av s c (bX (cn s c) i)) i d) o y) i { d with done:=true }) g z) g=z:=fun y z=>by
  rw [iz (hl y),if_pos rfl]
 rw [g3,mc,Bp (hl _),hk];unfold aa aF av;simp only [List.set_set]
theorem KM {s:St} {g o:Nat} {i c:Int} {r:Md.ai} {kk p:Int} (hg:g < s.gs.length) (ho:o < s.gs.length) (so:(su s i).g=o) (br:o≠g) (hk:kk=(gr s g).aC.length) :
  unlock (aa (serve (av s c (bX (cn s c) i)) g i true) g { gr (serve (av s c (bX (cn s c) i)) g i true) g with res:=r }) g p =
  aa (aF (aa (av s c (bX (cn s c) i)) o { gr s o with param:=i }) i { su s i with done:=true }) g { gr s g with ah:=(gr s g).ah ++ [(o:Int)],hold:=-1,res:=r,k:=kk,place:=p }:=by
 have e:=yw (s:=av s c (bX (cn s c) i)) (g:=g) (o:=o) (i:=i) (d:=true) hg ho so br;have g1:gr (av s c (bX (cn s c) i)) g=gr s g:=rfl;have g2:gr (av s c (bX (cn s c) i)) o=gr s o:=rfl;have g4:su (av s c (bX (cn s c) i)) i=su s i:=rfl;rw [g1,g2,g4] at e;rw [e];have hl:∀ y:Gr,g < (aF (aa (av s c (bX (cn s c) i)) o y) i { su s i with done:=true }).gs.length:=fun y=>by show g < (aa _ _ _).gs.length;rw [gU];exact hg
 have g3:∀ y z,gr (aa (aF (aa (av s c (bX (cn s c) i)) o y) i { su s i with done:=true }) g z) g=z:=fun y z=>by
  rw [iz (hl y),if_pos rfl]
 rw [g3,mc,Bp (hl _),hk]
theorem MInv.j4 (h:MInv s) (hg:g < s.gs.length) (st:(gr s g).status=0) (k:(op s g).kind=9) (e:(gr s g).place=27):MInv (j4 s g (op s g)):=by
 obtain ⟨o,q,sU⟩:=h.ES hg (.inr e);have L:=h.loc hg;have kx:SE (gr s g):=k;have b:=h.jL hg k (by unfold dG;omega);have dx:=b.hand (by omega);have hd:=L.hd (by omega);unfold Sx.j4;simp only;generalize hi:aA (gr s g).order (gr s g).k=j at *;have d0:=dx.2.2.2.2.1;have d1:=dx.2.2.2.2.2;have pG:(bZ (op s g) j).ch=bP (gr s g) j:=rfl;rw [drop_eq q.sc q.c0 q.c1]
 by_cases yA:(bZ (op s g) j).send=true
 ·simp only [if_pos yA];have e1:su (av s (su s (gr s g).hold).ch (bX (cn s (su s (gr s g).hold).ch) (gr s g).hold)) (gr s g).hold=su s (gr s g).hold:=rfl;rw [e1,TJ hg q.o1 (by exact q.so) q.ne hd.1 hd.2 rfl];exact h.E3 hg st k e rfl q sU _ (by simp) _ ⟨rfl,rfl,rfl,rfl,rfl⟩
 ·simp only [if_neg yA];rw [pG];obtain ⟨r,hr,iV⟩:∃ r,({ ee (hand (av s (su s (gr s g).hold).ch (bX (cn s (su s (gr s g).hold).ch) (gr s g).hold)) (bP (gr s g) j) (gr s g).hold).2 true with cs:=j }:Md.ai)=r∧r.code≠0:=⟨_,rfl,by simp [ee]⟩
  rw [hr];clear hr;unfold hand;simp only
  split
  ·rw [KM hg q.o1 q.so q.ne rfl];exact h.E3 hg st k e rfl q sU _ iV _ ⟨rfl,rfl,rfl,rfl,rfl⟩
  ·simp only;rw [Kj q.c0 q.c1 d0 d1];obtain ⟨bf,hb,gG⟩:∃ b,(gQ (cn (av s (su s (gr s g).hold).ch (bX (cn s (su s (gr s g).hold).ch) (gr s g).hold)) (bP (gr s g) j)).buf (cn (av s (su s (gr s g).hold).ch (bX (cn s (su s (gr s g).hold).ch) (gr s g).hold)) (bP (gr s g) j)).cap (su (av s (su s (gr s g).hold).ch (bX (cn s (su s (gr s g).hold).ch) (gr s g).hold)) (gr s g).hold).v).1=b∧b.length=(cn s (bP (gr s g) j)).buf.length:=by
    refine ⟨_,rfl,?_⟩;rw [Kk,mP q.c0 q.c1 rfl _ d0];unfold up
    split
    ·rename_i c;rw [c];rfl
    ·rfl
   rw [hb];have sH:=h.gK d0 d1;have h2:MInv (av s (bP (gr s g) j) { cn s (bP (gr s g) j) with buf:=bf }):=h.buf d0 d1 rfl rfl rfl ⟨sH.1,sH.2.1,by simp only;rw [gG];exact sH.2.2⟩;obtain ⟨s2,jy⟩:∃ s2,av s (bP (gr s g) j) { cn s (bP (gr s g) j) with buf:=bf }=s2:=⟨_,rfl⟩
   have eg:∀ j,gr s2 j=gr s j:=fun j=>by rw [← jy];rfl
   have es:∀ j,su s2 j=su s j:=fun j=>by rw [← jy];rfl
   have el:s2.gs.length=s.gs.length:=by rw [← jy];rfl
   have ec:s2.an.length=s.an.length:=by rw [← jy];simp [av]
   have eq:∀ ch,1≤ch→(cn s2 ch).recv=(cn s ch).recv∧(cn s2 ch).send=(cn s ch).send:=by
    intro ch a;rw [← jy,mP d0 d1 rfl ch a];unfold up
    split
    ·rename_i c;rw [c];exact ⟨rfl,rfl⟩
    ·exact ⟨rfl,rfl⟩
   rw [jy] at h2 ⊢;have eo:op s2 g=op s g:=by unfold op;rw [eg]
   rw [← es,← eg];rw [KM (by rw [el];exact hg) (by rw [el];exact q.o1) (by rw [es,eg];exact q.so) q.ne rfl];refine h2.E3 (by rw [el];exact hg) (by rw [eg];exact st) (by rw [eo];exact k) (by rw [eg];exact e) rfl ⟨?_,?_,rfl,?_,?_,q.ne,?_,?_,?_,?_,?_,?_⟩ ?_ _ iV _ ⟨rfl,rfl,rfl,rfl,rfl⟩
   ·rw [es,eg];exact q.c0
   ·rw [es,eg,ec];exact q.c1
   ·rw [es,eg];exact q.so
   ·rw [el];exact q.o1
   ·rw [es,eg];exact q.hh
   ·rw [eg];exact q.wt
   ·rw [eg];exact q.pm
   ·rw [eg,eg];exact q.own
   ·rw [eg];exact q.se
   ·rw [es,eg,eg,(eq _ q.c0).1,(eq _ q.c0).2];exact q.sr
   ·intro k a b;rw [eg,es];exact sU k (by rw [← el];exact a) b
end Sx
namespace Sx
variable {s t:St} {g:Nat} {nc ns n:Int} {x y:Gr}
theorem KO {l:List Int} {i j v:Int} (i0:0≤i) (j0:0≤j) (j1:j < l.length):aA (l.set i.toNat v) j=if j=i then v else aA l j:=by
 unfold aA;simp only [List.getD_eq_getElem?_getD,List.getElem?_set]
 by_cases c:j=i
 ·subst c;rw [if_pos rfl,if_pos rfl,if_pos (by omega)];rfl
 ·rw [if_neg c,ax]
theorem n9 {l:List Int} {v:Int}:v∈l↔∃ j:Int,0≤j∧j < l.length∧aA l j=v:=by
 constructor
 ·intro h;obtain ⟨k,hk,e⟩:=List.getElem_of_mem h;refine ⟨k,by omega,by omega,?_⟩;unfold aA;rw [List.getD_eq_getElem?_getD,Int.toNat_natCast,List.getElem?_eq_getElem hk,e];rfl
 ·rintro ⟨j,a,b,rfl⟩
  exact qP a b
theorem uA (hs:SE x) (hy:SE y) (px:28≤x.place∧x.place≤34∨x.place=13∨x.place=14) (py:28≤y.place∧y.place≤34∨y.place=13∨y.place=14) (e:y.ak=x.ak) (i:Int):Own y i↔Own x i:=by
 have nx:¬ SR x:=fun w=>w.ne hs
 have ny:¬ SR y:=fun w=>w.ne hy
 unfold Own;simp only [nx,ny,false_and,false_or,e]
 constructor
 ·intro w;exact ⟨w.1,hs,px,w.2.2.2⟩
 ·intro w;exact ⟨w.1,hy,py,w.2.2.2⟩
theorem je.mt (h:je x y) (hs:SE x) (e:y.ak=x.ak) {i:Int} {d:Su} (m:Match x i d):Match y i d:=by
 rcases m with m | m
 ·exact absurd hs m.1.ne
 ·exact .inr ⟨h.se.2 hs,by rw [e,h.aD,h.order,h.ch];exact m.2⟩
theorem MInv.aB (h:MInv s) (hg:g < s.gs.length) (st:(gr s g).status=0) (k:(op s g).kind=9) (e:(gr s g).place=28):MInv (aB s g (op s g)):=by
 have L:=h.loc hg;have kx:SE (gr s g):=k;have b:=h.jL hg k (by unfold dG;omega);have dQ:=h.qf hg (by omega);have nw:¬ Wt (gr s g):=nZ (by omega);obtain ⟨pm,tk⟩:=L.uy nw;have dx:=b.hand (by omega);have k2:=b.k2 (by omega);have k0:=b.k0;have s2:=b.s2 (by omega);have s4:=b.s4;have s5:=b.s5 e;have cc:=b.c1 (by omega);have l3:=b.l3;have nq:=rB kx (x:=gr s g) (by omega);unfold Sx.aB;simp only;have pG:(bZ (op s g) (aA (gr s g).order (gr s g).k)).ch=bP (gr s g) (aA (gr s g).order (gr s g).k):=rfl;rw [pG];have jG:=Bl k0 k2;have sS:=yy k0 k2;have s8:=b.s8 e;generalize hi:aA (gr s g).order (gr s g).k=i at *
 by_cases ok:(bu s g).2.2=true
 ·rw [if_pos ok];have T:=Bb h hg ok;generalize (bu s g).2.1=d at *;generalize (bu s g).1=t at *;have IW:g < (aF t d ⟨true,g,bP (gr s g) i,i,(bZ (op s g) i).send,(bZ (op s g) i).v,false⟩).gs.length:=by show g < t.gs.length;rw [T.gs];exact hg
  rw [yz IW];obtain ⟨y,hy⟩:∃ y,(if ({ gr s g with ak:=(gr s g).ak.set i.toNat d }:Gr).k + 1=(({ gr s g with ak:=(gr s g).ak.set i.toNat d }:Gr).order.length:Int) then ({ ({ gr s g with ak:=(gr s g).ak.set i.toNat d }:Gr) with k:=0,place:=29 }:Gr) else { ({ gr s g with ak:=(gr s g).ak.set i.toNat d }:Gr) with k:=({ gr s g with ak:=(gr s g).ak.set i.toNat d }:Gr).k + 1 })=y:=⟨_,rfl⟩
  rw [hy];have hk:je (gr s g) y:=by rw [← hy];split <;> exact ⟨rfl,rfl,rfl,rfl,rfl,rfl,rfl,rfl,rfl⟩
  have ys:y.ak=(gr s g).ak.set i.toNat d∧y.ah=(gr s g).ah∧y.res.code=0:=by rw [← hy];split <;> exact ⟨rfl,rfl,cc⟩
  have yp:(y.place=29∧y.k=0∧(gr s g).k + 1=(gr s g).order.length)∨(y.place=28∧y.k=(gr s g).k + 1∧(gr s g).k + 1 < (gr s g).order.length):=by
   rw [← hy]
   split
   ·rename_i c;exact .inl ⟨rfl,rfl,c⟩
   ·rename_i c;exact .inr ⟨e,rfl,by simp only at c;omega⟩
  clear hy;have dK:SE y:=hk.se.2 kx;have kB:i < ((gr s g).ak.length:Int):=by rw [s2];exact dx.2.2.1
  have ja:∀ j:Int,0≤j→j < (gr s g).ak.length→aA y.ak j=if j=i then d else aA (gr s g).ak j:=fun j a c=>by rw [ys.1,KO dx.2.1 a c]
  have jf:y.ak.length=(gr s g).ak.length:=by rw [ys.1,List.length_set]
  have TK:aA (gr s g).ak i=-1:=s5 i (by rw [jG];simp);have d0:=T.i0;have d1:=T.i1;have nodup:=b.o2;have oZ:fY s.an.length s.aB.length y:=by
   have ho:=hk.aD;have hc:=hk.ch;have o1:=b.o1;have o3:=b.o3;have kk:0≤y.k∧y.k < (gr s g).order.length:=by omega
   have yp2:y.place=28∨y.place=29:=by omega
   constructor
   ·rw [hk.order,hk.aC,ho];simp only [hc];exact o1
   ·rw [hk.order];exact b.o2
   ·rw [hk.order];exact o3
   ·rw [hk.aC];exact b.l1
   ·rw [hk.aC];exact b.l2
   ·rw [hk.aC];exact b.l3
   ·exact kk.1
   ·intro c;omega
   ·rw [hk.order];intro _;exact kk.2
   ·intro c;omega
   ·intro c;omega
   ·intro _;rw [jf,ho];exact s2
   ·intro c;omega
   ·intro j a c;rw [jf] at c;rw [ja j a c,hk.order]
    split
    ·rename_i z;rw [z];exact ⟨by omega,d1,fun _=>dx.1⟩
    ·exact s4 j a c
   ·intro c j hj;have lH:j∈(gr s g).order.drop ((gr s g).k + 1).toNat:=by
     rw [hk.order] at hj;rcases yp with w | w
     ·omega
     ·rw [w.2.1] at hj;exact hj
    have o9:=o1 j (List.mem_of_mem_drop lH);have lp:j≠i:=by
     intro z;have:=nodup;rw [← List.take_append_drop (gr s g).k.toNat (gr s g).order,jG] at this;have:=(List.nodup_append.1 this).2.1;exact (List.nodup_cons.1 this).1 (z ▸ lH)
    rw [ja j o9.1 (by rw [s2];exact o9.2.1),if_neg lp];exact s5 j (by rw [jG];exact List.mem_cons_of_mem _ lH)
   ·intro c j hj;rw [hk.order] at hj;have o9:=o1 j hj;rw [ja j o9.1 (by rw [s2];exact o9.2.1)]
    split
    ·exact d0
    ·rename_i z;refine s8 j ?_;rw [← List.take_append_drop (gr s g).k.toNat (gr s g).order,jG] at hj;rcases List.mem_append.1 hj with w | w
     ·exact w
     ·rcases List.mem_cons.1 w with w | w
      ·exact absurd w z
      ·have:(gr s g).order.drop ((gr s g).k + 1).toNat=[]:=List.drop_eq_nil_of_le (by omega);rw [this] at w;simp at w
   ·intro c;omega
   ·intro _;exact ys.2.2
   ·intro c;omega
   ·intro c j hj;have c2:y.k=(gr s g).k + 1:=by omega
    rw [hk.order,c2,sS] at hj;have o9:0≤j∧j < (aD (gr s g)).cases.length:=by
     rcases List.mem_append.1 hj with w | w
     ·have:=o1 j (List.mem_of_mem_take w);exact ⟨this.1,this.2.1⟩
     ·rw [List.mem_singleton.1 w];exact ⟨dx.2.1,dx.2.2.1⟩
    rw [ja j o9.1 (by rw [s2];exact o9.2)]
    split
    ·exact d0
    ·rename_i z;rcases List.mem_append.1 hj with w | w
     ·exact s8 j w
     ·exact absurd (List.mem_singleton.1 w) z
  have KP:∀ j,Own (gr s g) j→∃ c:Int,0≤c∧c < (gr s g).ak.length∧aA (gr s g).ak c=j∧c≠i:=by
   rintro j ⟨j0,w | w⟩
   ·exact absurd kx w.1.ne
   ·obtain ⟨c,c0,c1,c2⟩:=n9.1 w.2.2;exact ⟨c,c0,c1,c2,fun z=>by rw [z,TK] at c2;omega⟩
  refine h.take hg T (x:=y) (L.lY kx (by omega) hk.ops hk.at_ (by rw [hk.status];exact st) (by rw [hk.token];exact tk) (by rw [hk.param];exact pm) (by omega) (by rw [ys.2.1,dQ];simp) (by rw [ys.2.1,dQ];simp) (by rw [ys.2.1,dQ];simp) (by omega) h.iL oZ) ?_ ?_ ?_ ?_ rfl nq (by unfold cu;omega) (by unfold cO;omega) ys.2.1 nw hk.at_
  ·intro ch;rw [me dK (by unfold jM;omega),me kx (by unfold jM;omega),hk.aC]
  ·intro j
   constructor
   ·rintro ⟨j0,w | w⟩
    ·exact absurd dK w.1.ne
    ·obtain ⟨c,c0,c1,c2⟩:=n9.1 w.2.2;rw [jf] at c1;rw [ja c c0 c1] at c2
     split at c2
     ·exact .inr c2.symm
     ·exact .inl ⟨j0,.inr ⟨kx,by omega,n9.2 ⟨c,c0,c1,c2⟩⟩⟩
   ·rintro (w | w)
    ·obtain ⟨c,c0,c1,c2,c3⟩:=KP j w;refine ⟨w.1,.inr ⟨dK,by omega,n9.2 ⟨c,c0,by rw [jf];exact c1,?_⟩⟩⟩;rw [ja c c0 c1,if_neg c3];exact c2
    ·subst w;refine ⟨d0,.inr ⟨dK,by omega,n9.2 ⟨i,dx.2.1,by rw [jf];exact kB,?_⟩⟩⟩;rw [ja i dx.2.1 kB,if_pos rfl]
  ·intro j w;obtain ⟨c,c0,c1,c2,c3⟩:=KP j w;have hO:=Inv.own h.v (g:Int) (by omega) (by omega) j (by rw [fj];exact w);rw [fj] at hO;rcases hO.2.1 with m | m
   ·exact absurd kx m.1.ne
   ·obtain ⟨_,m1,m2,m3,m4,m5,m6,m7⟩:=m;have ec:=m7 c c0 c1 c2;refine .inr ⟨dK,m1,by rw [jf];exact m2,?_,by rw [hk.ch];exact m4,by rw [hk.aD];exact m5,by rw [hk.order];exact m6,?_⟩
    ·rw [ja _ m1 m2,if_neg (by rw [← ec];exact c3)];exact m3
    ·intro q q0 q1 q2;rw [jf] at q1;rw [ja q q0 q1] at q2
     split at q2
     ·exfalso
      have:=hO.2.2.2;rw [← q2] at this;rw [T.nl] at this;cases this
     ·exact m7 q q0 q1 q2
  ·refine .inr ⟨dK,dx.2.1,by rw [jf];exact kB,by rw [ja i dx.2.1 kB,if_pos rfl],by rw [hk.ch],by rw [hk.aD];rfl,by rw [hk.order];exact dx.1,?_⟩;intro q q0 q1 q2;rw [jf] at q1;rw [ja q q0 q1] at q2
   split at q2
   ·rename_i z;exact z
   ·exfalso
    have w:Own (gr s g) d:=⟨d0,.inr ⟨kx,by omega,n9.2 ⟨q,q0,q1,q2⟩⟩⟩
    have hO:=Inv.own h.v (g:Int) (by omega) (by omega) d (by rw [fj];exact w);have:=hO.2.2.2;rw [T.nl] at this;cases this
 ·rw [if_neg ok];have e1:(bu s g).1=s:=by
   unfold bu at ok ⊢
   split
   ·rename_i c;rw [if_pos c] at ok
    split
    ·rename_i c2;rw [if_pos c2] at ok;simp at ok
    ·rfl
   ·rename_i c;rw [if_neg c] at ok;simp at ok
  rw [e1,Bp hg];obtain ⟨y,hy⟩:∃ y,({ ({ gr s g with res:={ (gr s g).res with code:=6 } }:Gr) with k:=(({ gr s g with res:={ (gr s g).res with code:=6 } }:Gr).aC.length:Int),place:=30 }:Gr)=y:=⟨_,rfl⟩
  rw [hy];have hk:je (gr s g) y:=by rw [← hy];exact ⟨rfl,rfl,rfl,rfl,rfl,rfl,rfl,rfl,rfl⟩
  have ys:y.ak=(gr s g).ak∧y.ah=(gr s g).ah∧y.res.code=6∧y.place=30∧y.k=(gr s g).aC.length:=by rw [← hy];exact ⟨rfl,rfl,rfl,rfl,rfl⟩
  clear hy;have dK:SE y:=hk.se.2 kx;have oZ:fY s.an.length s.aB.length y:=by
   have ho:=hk.aD;have hc:=hk.ch;have o1:=b.o1;have pl:=ys.2.2.2.1
   constructor
   ·rw [hk.order,hk.aC,ho];simp only [hc];exact o1
   ·rw [hk.order];exact b.o2
   ·rw [hk.order];exact b.o3
   ·rw [hk.aC];exact b.l1
   ·rw [hk.aC];exact b.l2
   ·rw [hk.aC];exact l3
   ·omega
   ·intro c;omega
   ·intro c;omega
   ·rw [hk.aC];intro c;omega
   ·intro c;omega
   ·intro c;omega
   ·intro _;rw [ys.1,ho];exact .inl s2
   ·rw [ys.1,hk.order];exact s4
   ·intro c;omega
   ·intro c;omega
   ·intro c;omega
   ·intro c;omega
   ·intro c;omega
   ·intro c;omega
  refine h.self hg ⟨L.lY kx (by omega) hk.ops hk.at_ (by rw [hk.status];exact st) (by rw [hk.token];exact tk) (by rw [hk.param];exact pm) (by omega) (by rw [ys.2.1,dQ];simp) (by rw [ys.2.1,dQ];simp) (by rw [ys.2.1,dQ];simp) (by omega) h.iL oZ,?_,uA kx dK (by omega) (by omega) ys.1,fun i d _ m=>hk.mt kx ys.1 m,fun i j w=>absurd w (nq i j),by unfold cO;omega,fun q=>by rw [ys.2.1];exact id,fun w=>absurd w.1 nw,fun w=>absurd w.1 nw⟩ hk.at_ (fun w=>by unfold cu at w;omega);intro ch;rw [me dK (by unfold jM;rw [hk.aC];omega),me kx (by unfold jM;omega),hk.aC]
end Sx
namespace Sx
variable {s t:St} {g:Nat} {nc ns n:Int} {x y:Gr}
theorem MInv.yB (h:MInv s) (hg:g < s.gs.length) (k:(op s g).kind=9) (px:28≤(gr s g).place∧(gr s g).place≤34∨(gr s g).place=13∨(gr s g).place=14) {i:Int} (i0:0≤i) (i1:i < (gr s g).ak.length) (v0:0≤aA (gr s g).ak i) :
  Own (gr s g) (aA (gr s g).ak i)∧aA (gr s g).ak i < s.aB.length∧(su s (aA (gr s g).ak i)).g=g∧(su s (aA (gr s g).ak i)).cs=i∧(su s (aA (gr s g).ak i)).ch=bP (gr s g) i∧(su s (aA (gr s g).ak i)).send=(bZ (op s g) i).send∧Match (gr s g) (aA (gr s g).ak i) (su s (aA (gr s g).ak i)):=by
 have kx:SE (gr s g):=k;have w:Own (gr s g) (aA (gr s g).ak i):=⟨v0,.inr ⟨kx,px,n9.2 ⟨i,i0,i1,rfl⟩⟩⟩
 have hO:=Inv.own h.v (g:Int) (by omega) (by omega) _ (by rw [fj];exact w);rw [fj] at hO;rcases hO.2.1 with m | m
 ·exact absurd kx m.1.ne
 ·have m':=m;obtain ⟨_,m1,m2,m3,m4,m5,m6,m7⟩:=m;have e:=m7 i i0 i1 rfl;rw [← e] at m4 m5;exact ⟨w,hO.1,hO.2.2.1,e.symm,m4,m5,.inr m'⟩
theorem MInv.lA (h:MInv s) (hg:g < s.gs.length) (st:(gr s g).status=0) (k:(op s g).kind=9) (e:(gr s g).place=29):MInv (lA s g (op s g)):=by
 have L:=h.loc hg;have kx:SE (gr s g):=k;have b:=h.jL hg k (by unfold dG;omega);have dQ:=h.qf hg (by omega);have nw:¬ Wt (gr s g):=nZ (by omega);obtain ⟨pm,tk⟩:=L.uy nw;have dx:=b.hand (by omega);have k2:=b.k2 (by omega);have k0:=b.k0;have s2:=b.s2 (by omega);have s4:=b.s4;have s6:=b.s6 (by omega);have cc:=b.c1 (by omega);have l3:=b.l3;have eA:=fj s g;have sS:=yy k0 k2;unfold Sx.lA;simp only;have pG:(bZ (op s g) (aA (gr s g).order (gr s g).k)).ch=bP (gr s g) (aA (gr s g).order (gr s g).k):=rfl;rw [pG];generalize hi:aA (gr s g).order (gr s g).k=i at *;have kB:i < ((gr s g).ak.length:Int):=by rw [s2];exact dx.2.2.1
 have v0:=s6 i dx.1;obtain ⟨w,w1,w2,w3,w4,w5,w6⟩:=h.yB hg k (by omega) dx.2.1 kB v0;generalize hv:aA (gr s g).ak i=v at *;have fin:∀ (c':Cn) (y:Gr),je (gr s g) y→y.ak=(gr s g).ak→y.ah=(gr s g).ah→y.res.code=(gr s g).res.code→(y.place=29∧y.k=(gr s g).k + 1∧(gr s g).k + 1 < (gr s g).order.length∨y.place=30∧y.k=(gr s g).aC.length∧(gr s g).k + 1=(gr s g).order.length) →
   c'.lock=(cn s (bP (gr s g) i)).lock→c'.cap=(cn s (bP (gr s g) i)).cap→c'.buf=(cn s (bP (gr s g) i)).buf→(c'.recv=if (su s v).send=true then (cn s (bP (gr s g) i)).recv else (cn s (bP (gr s g) i)).recv ++ [v])→(c'.send=if (su s v).send=true then (cn s (bP (gr s g) i)).send ++ [v] else (cn s (bP (gr s g) i)).send) →
   MInv (aa (av s (bP (gr s g) i) c') g y):=by
  intro c' y hk jA rI Bq hp e1 e2 e3 er es;have dK:SE y:=hk.se.2 kx;have oZ:fY s.an.length s.aB.length y:=by
   have ho:=hk.aD;have hc:=hk.ch;have o1:=b.o1
   constructor
   ·rw [hk.order,hk.aC,ho];simp only [hc];exact o1
   ·rw [hk.order];exact b.o2
   ·rw [hk.order];exact b.o3
   ·rw [hk.aC];exact b.l1
   ·rw [hk.aC];exact b.l2
   ·rw [hk.aC];exact l3
   ·omega
   ·intro c;omega
   ·rw [hk.order];intro c;omega
   ·rw [hk.aC];intro c;omega
   ·intro c;omega
   ·intro _;rw [jA,ho];exact s2
   ·intro _;rw [jA,ho];exact .inl s2
   ·rw [jA,hk.order];exact s4
   ·intro c;omega
   ·rw [jA,hk.order];intro _;exact s6
   ·intro c;omega
   ·intro _;rw [Bq];exact cc
   ·intro c;omega
   ·intro c;omega
  have hold:∀ ch,aY y ch↔aY (gr s g) ch:=by
   intro ch;rw [me dK (by unfold jM;rw [hk.aC];omega),me kx (by unfold jM;omega),hk.aC]
  have r:Rest s (aa (av s (bP (gr s g) i) c') g y):=(Rest.av s _ c').trans (Rest.aa _ hg hk.at_);refine h.rest r (V.of r (Inv.push h.v (g:=g) (i:=v) (x:=y) (c:=bP (gr s g) i) (c':=c') (by omega) (by omega) (by rw [eA];exact w) dx.2.2.2.2.1 dx.2.2.2.2.2 w4 (L.lY kx (by omega) hk.ops hk.at_ (by rw [hk.status];exact st) (by rw [hk.token];exact tk) (by rw [hk.param];exact pm) (by omega) (by rw [rI,dQ];simp) (by rw [rI,dQ];simp) (by rw [rI,dQ];simp) (by omega) h.iL oZ) ?_ ?_ ?_ ?_ ?_ ?_ ?_ ?_ ?_ ?_ e1 e2 e3 er es) (fun j j0=>rz hg rfl j j0) (fun ch q=>mP dx.2.2.2.2.1 dx.2.2.2.2.2 rfl ch q) (fun _ _=>rfl))
  ·intro ch;rw [eA];exact hold ch
  ·intro j;rw [eA];exact uA kx dK (by omega) (by omega) jA j
  ·intro j q;have q2:=(uA kx dK (by omega) (by omega) jA j).1 q;have hO:=Inv.own h.v (g:Int) (by omega) (by omega) j (by rw [eA];exact q2);rw [eA] at hO;exact hk.mt kx jA hO.2.1
  ·rw [eA,w3]
   rintro (q | q)
   ·exact q.1.ne kx
   ·have q5:=q.2.2.2.2;have:i∈(gr s g).order.take (gr s g).k.toNat:=by
     rcases q5 with z | z | z | z | z | z
     ·exact z.2
     all_goals omega
    have nd:=b.o2;rw [← List.take_append_drop (gr s g).k.toNat (gr s g).order,Bl k0 k2,hi] at nd;exact (List.nodup_append.1 nd).2.2 i this i (by simp) rfl
  ·rw [eA];intro j l q;rcases q with q | q
   ·exact absurd kx q.1.ne
   ·obtain ⟨q1,q2,q3,q4,q5⟩:=q;refine .inr ⟨dK,q2,by rw [jA];exact q3,by rw [jA];exact q4,?_⟩;have q6:l∈(gr s g).order.take (gr s g).k.toNat:=by
     rcases q5 with z | z | z | z | z | z
     ·exact z.2
     all_goals omega
    rcases hp with hp | hp
    ·refine .inl ⟨hp.1,?_⟩;rw [hk.order,hp.2.1,sS];exact List.mem_append_left _ q6
    ·exact .inr (.inr (.inr (.inr (.inl ⟨hp.1,by rw [Bq];exact cc⟩))))
  ·rw [w3];refine .inr ⟨dK,dx.2.1,by rw [jA];exact kB,by rw [jA];exact hv,?_⟩;rcases hp with hp | hp
   ·refine .inl ⟨hp.1,?_⟩;rw [hk.order,hp.2.1,sS];simp
   ·exact .inr (.inr (.inr (.inr (.inl ⟨hp.1,by rw [Bq];exact cc⟩))))
  ·unfold cu;omega
  ·unfold cO;omega
  ·rw [eA];exact rI
  ·rw [eA];exact nw
 obtain ⟨c',uD⟩:∃ c',(if (bZ (op s g) i).send=true then { cn s (bP (gr s g) i) with send:=(cn s (bP (gr s g) i)).send ++ [v] } else { cn s (bP (gr s g) i) with recv:=(cn s (bP (gr s g) i)).recv ++ [v] })=c':=⟨_,rfl⟩
 rw [uD];have c1:c'.lock=(cn s (bP (gr s g) i)).lock:=by rw [← uD];split <;> rfl
 have c2:c'.cap=(cn s (bP (gr s g) i)).cap:=by rw [← uD];split <;> rfl
 have c3:c'.buf=(cn s (bP (gr s g) i)).buf:=by rw [← uD];split <;> rfl
 have c4:c'.recv=if (su s v).send=true then (cn s (bP (gr s g) i)).recv else (cn s (bP (gr s g) i)).recv ++ [v]:=by rw [← uD,w5];split <;> rfl
 have c5:c'.send=if (su s v).send=true then (cn s (bP (gr s g) i)).send ++ [v] else (cn s (bP (gr s g) i)).send:=by rw [← uD,w5];split <;> rfl
 clear uD;have gI:g < (av s (bP (gr s g) i) c').gs.length:=hg
 by_cases c:(gr s g).k + 1 < (gr s g).order.length
 ·rw [if_pos c,E1 gI];have g0:gr (av s (bP (gr s g) i) c') g=gr s g:=rfl;rw [g0,ax];exact fin c' _ ⟨rfl,rfl,rfl,rfl,rfl,rfl,rfl,rfl,rfl⟩ rfl rfl rfl (.inl ⟨e,rfl,c⟩) c1 c2 c3 c4 c5
 ·rw [if_neg c,Bp gI];exact fin c' _ ⟨rfl,rfl,rfl,rfl,rfl,rfl,rfl,rfl,rfl⟩ rfl rfl rfl (.inr ⟨rfl,rfl,by omega⟩) c1 c2 c3 c4 c5
end Sx
namespace Sx
variable {s t:St} {g:Nat} {nc ns n:Int} {x y:Gr}
theorem MInv.TM (h:MInv s) (hg:g < s.gs.length) (st:(gr s g).status=0) (k:(op s g).kind=9) (e:(gr s g).place=14):MInv (mE s g):=by
 have L:=h.loc hg;have kx:SE (gr s g):=k;have b:=h.jL hg k (by unfold dG;omega);have dQ:=h.qf hg (by omega);have pm:=L.p1 e st;have pk:=L.p3 pm kx;have s2:=b.s2 (by omega);have s4:=b.s4;have s6:=b.s6 (by omega);have l3:=b.l3;have tk:(gr s g).token=false:=by
  cases c:(gr s g).token
  ·rfl
  ·exact absurd e (L.tk c).2.2
 unfold mE;simp only;obtain ⟨r,hr⟩:∃ r,(if (su s (gr s g).param).send=true∧(su s (gr s g).param).done=true then ({ (if (su s (gr s g).param).done=true then ({ ee (su s (gr s g).param).v true with cs:=(su s (gr s g).param).cs }:Md.ai) else { ee 0 false with cs:=(su s (gr s g).param).cs }) with v:=0 }:Md.ai) else if (su s (gr s g).param).send=true then ⟨3,(su s (gr s g).param).cs,0,false,0⟩ else (if (su s (gr s g).param).done=true then ({ ee (su s (gr s g).param).v true with cs:=(su s (gr s g).param).cs }:Md.ai) else { ee 0 false with cs:=(su s (gr s g).param).cs }))=r:=⟨_,rfl⟩
 rw [hr];clear hr;obtain ⟨y,hy⟩:∃ y,({ gr s g with res:=r,param:=-1,k:=0,place:=31 }:Gr)=y:=⟨_,rfl⟩
 rw [hy];have y1:y.ops=(gr s g).ops∧y.at_=(gr s g).at_∧y.status=(gr s g).status∧y.token=(gr s g).token∧y.aX=(gr s g).aX∧y.param=-1∧y.order=(gr s g).order∧y.aC=(gr s g).aC∧y.ak=(gr s g).ak∧y.ah=(gr s g).ah∧y.k=0∧y.place=31:=by
  rw [← hy];exact ⟨rfl,rfl,rfl,rfl,rfl,rfl,rfl,rfl,rfl,rfl,rfl,rfl⟩
 clear hy;obtain ⟨z1,z2,z3,z4,z5,z6,z7,z8,z9,Br,TN,TO⟩:=y1;have ho:aD y=aD (gr s g):=by unfold aD;rw [z1,z2]
 have hc:∀ j,bP y j=bP (gr s g) j:=fun j=>by unfold bP;rw [ho]
 have dK:SE y:=by unfold SE;rw [ho];exact kx
 have o1:=b.o1;have oZ:fY s.an.length s.aB.length y:=by
  constructor
  ·rw [z7,z8,ho];simp only [hc];exact o1
  ·rw [z7];exact b.o2
  ·rw [z7];exact b.o3
  ·rw [z8];exact b.l1
  ·rw [z8];exact b.l2
  ·rw [z8];exact l3
  ·omega
  ·rw [z8];intro c;omega
  ·intro c;omega
  ·intro c;omega
  ·intro c;omega
  ·intro _;rw [z9,ho];exact s2
  ·intro c;omega
  ·rw [z9,z7];exact s4
  ·intro c;omega
  ·rw [z9,z7];intro _;exact s6
  ·intro c;omega
  ·intro c;omega
  ·intro _;rw [z5];exact pk
  ·intro c;omega
 have Bs:∀ ch,¬ aY (gr s g) ch:=by
  intro ch w;rw [uz kx] at w;omega
 have Bt:∀ ch,¬ aY y ch:=by
  intro ch w;rw [uz dK] at w;rcases w with w | w
  ·omega
  ·rw [TN] at w;simp at w
 refine h.self hg ⟨L.lY kx (by omega) z1 z2 (by rw [z3];exact st) (by rw [z4];exact tk) z6 (by omega) (by rw [Br,dQ];simp) (by rw [Br,dQ];simp) (by rw [Br,dQ];simp) (by omega) h.iL oZ,fun ch=>⟨fun w=>absurd w (Bt ch),fun w=>absurd w (Bs ch)⟩,uA kx dK (by omega) (by omega) z9,?_,?_,by unfold cO;omega,fun q=>by rw [Br];exact id,fun w=>absurd st (w.2.2.2 e),fun w=>by have:=w.2.1;omega⟩ z2 (fun w=>by unfold cu at w;omega)
 ·intro i d _ m;rcases m with m | m
  ·exact absurd kx m.1.ne
  ·exact .inr ⟨dK,by rw [z9,ho,z7,hc];exact m.2⟩
 ·intro i j q;rcases q with q | q
  ·exact absurd kx q.1.ne
  ·exact .inr ⟨dK,q.2.1,by rw [z9];exact q.2.2.1,by rw [z9];exact q.2.2.2.1,.inr (.inr (.inr (.inl TO)))⟩
theorem Bu {s:St} {g:Nat} (hg:g < s.gs.length):(cX s g).1=aa (av s (aA (gr s g).aC ((gr s g).k - 1)) { cn s (aA (gr s g).aC ((gr s g).k - 1)) with lock:=-1 }) g { gr s g with k:=(gr s g).k - 1 }:=rfl
structure E4 (nc ns n:Int) (x y:Gr):Prop where
 kp:je x y
 ak:y.ak=x.ak
 ah:y.ah=x.ah
 code:y.res.code=x.res.code
 k:y.k=x.k - 1
 hp:(x.place=30∨x.place=33)∧y.place=x.place∧1≤y.k∨x.place=30∧x.res.code=0∧y.place=13∧y.k=0∨(x.place=33∨x.place=30∧x.res.code≠0∧x.ak≠[])∧y.place=34∧y.k=0 ∨
  x.place=30∧x.res.code≠0∧(∀ i∈x.ak,i < 0)∧y.k=0∧(y.place=17∧x.ah≠[]∨y.place=18∧x.ah=[])
theorem E4.lY (f:E4 nc ns n x y) (b:fY nc ns x) (e:dG y.place):fY nc ns y:=by
 have h:=f.kp;have hp:=f.hp;have fk:=f.k;have ho:=h.aD;have hc:=h.ch;have o1:=b.o1;have l3:=b.l3;have o3:=b.o3;have k0:=b.k0;have k3:1≤x.k∧x.k≤x.aC.length:=b.k3 (by omega);have lf:y.place=x.place∧1≤y.k∧(x.place=30∨x.place=33)∨y.place=13∧x.place=30∧x.res.code=0∨y.place=34∧y.k=0:=by unfold dG at e;omega
 constructor
 ·rw [h.order,h.aC,ho];simp only [hc];exact o1
 ·rw [h.order];exact b.o2
 ·rw [h.order];exact o3
 ·rw [h.aC];exact b.l1
 ·rw [h.aC];exact b.l2
 ·rw [h.aC];exact l3
 ·omega
 ·intro c;omega
 ·rw [h.order];intro c;omega
 ·rw [h.aC];intro c;omega
 ·intro c;omega
 ·rw [f.ak,ho];intro c;rcases hp with w | w | w | w
  ·exact b.s2 (by omega)
  ·rcases b.s3 w.1 with z | z
   ·exact z
   ·exact absurd w.2.1 z.2
  ·rcases w.1 with q | q
   ·exact b.s2 (by omega)
   ·rcases b.s3 q.1 with z | z
    ·exact z
    ·exact absurd z.1 q.2.2
  ·omega
 ·rw [f.ak,ho,f.code];intro c;exact b.s3 (by omega)
 ·rw [f.ak,h.order];exact b.s4
 ·intro c;omega
 ·rw [f.ak,h.order,f.code];intro c;exact b.s6 (by omega)
 ·intro c j hj;rw [show y.k=0 by omega] at hj;simp at hj
 ·rw [f.code];intro c;rcases hp with w | w | w | w
  ·omega
  ·exact w.2.1
  ·omega
  ·omega
 ·rw [h.aX];intro c;exact b.c2 (by omega)
 ·intro c;omega
end Sx
namespace Sx
variable {s t:St} {g:Nat} {nc ns n:Int} {x y:Gr}
theorem Loc.fin (L:Loc nc ns n x) (hs:SE x) (xp:x.place≠0) (h1:y.ops=x.ops) (h2:y.at_=x.at_) (st:y.status=0) (tk:y.token=false) (pm:y.param=-1) (hp:y.place=17∧y.ah≠[]∨y.place=18∧y.ah=[]) (w3:∀ p∈y.ah,0≤p∧p < n) (w4:y.ah.Nodup) (sV:0≤ns):Loc nc ns n y:=by
 have ho:aD y=aD x:=by unfold aD;rw [h1,h2]
 have gO:=L.gO;have pl:=L.pl.resolve_left xp;have hk:(aD x).kind=9:=hs;have yp:y.place=17∨y.place=18:=by omega
 constructor
 ·rw [h1];exact L.nV
 ·rw [h1];exact gO
 ·rw [h2];exact L.a0
 ·rw [h1,h2];exact L.a1
 ·rw [h1,h2,ho];exact .inr ⟨pl.1,by unfold aZ;omega⟩
 ·rw [ho];intro _ _ _ _ _;omega
 ·exact .inl st
 ·intro c;omega
 ·intro c;omega
 ·intro c;omega
 ·rw [tk];simp
 ·intro c;rcases hp with w | w
  ·exact .inr (.inl w.1)
  ·exact absurd w.2 c
 ·intro c;rcases hp with w | w
  ·exact w.2
  ·omega
 ·exact w3
 ·exact w4
 ·intro c;omega
 ·intro _ c d;omega
 ·rw [pm];omega
 ·intro c;omega
 ·rw [pm];intro c;exact absurd c (by decide)
 ·rw [pm];intro c;exact absurd c (by decide)
 ·intro _ c;unfold dG at c;omega
theorem Loc.waits (L:Loc nc ns n x) (hs:SE x) (e:x.place=30) (ec:x.res.code=0) (h:je x y) (eg:y.ak=x.ak) (ew:y.ah=x.ah) (eco:y.res.code=x.res.code) (yp:y.place=30∨y.place=13) (st:x.status=0) (ys:fY nc ns y):Loc nc ns n y:=by
 have ho:=h.aD;have gO:=L.gO;have pl:=L.pl.resolve_left (by omega);have hk:(aD x).kind=9:=hs;have hy:SE y:=h.se.2 hs;have wy:Wt y:=.inr ⟨hy,by omega⟩;have dQ:x.ah=[]:=by
  by_cases w:x.ah=[]
  ·exact w
  ·have:=L.w1 w;omega
 constructor
 ·rw [h.ops];exact L.nV
 ·rw [h.ops];exact gO
 ·rw [h.at_];exact L.a0
 ·rw [h.ops,h.at_];exact L.a1
 ·rw [h.ops,h.at_,ho];exact .inr ⟨pl.1,by unfold aZ;omega⟩
 ·rw [ho];intro _ _ _ _ _;omega
 ·rw [h.status];exact .inl st
 ·rw [h.status];intro c;omega
 ·intro c;omega
 ·rw [h.status];intro c;omega
 ·rw [h.token,h.param];intro c;exact ⟨wy,(L.tk c).2.1,by omega⟩
 ·rw [ew,dQ];simp
 ·intro c;omega
 ·rw [ew,dQ];simp
 ·rw [ew,dQ];simp
 ·intro c;omega
 ·intro c;exact absurd hy c.ne
 ·rw [h.param];exact L.p0
 ·intro c;omega
 ·rw [h.param];intro c;exact ⟨wy,(uA hs hy (by omega) (by omega) eg _).2 (L.p2 c).2⟩
 ·rw [h.param,h.aX];intro c _;exact L.p3 c hs
 ·intro _ _;exact ys
theorem MInv.uE (h:MInv s) (hg:g < s.gs.length) (st:(gr s g).status=0) (k:(op s g).kind=9) (e:(gr s g).place=30∨(gr s g).place=33) {y:Gr} (f:E4 s.an.length s.aB.length s.gs.length (gr s g) y):MInv (aa (av s (aA (gr s g).aC ((gr s g).k - 1)) { cn s (aA (gr s g).aC ((gr s g).k - 1)) with lock:=-1 }) g y):=by
 have L:=h.loc hg;have kx:SE (gr s g):=k;have dK:SE y:=f.kp.se.2 kx;have b:=h.jL hg k (by unfold dG;omega);have k3:=b.k3 e;have hm:=qP (l:=(gr s g).aC) (k:=(gr s g).k - 1) (by omega) (by omega);have rG:=b.l1 _ hm;have hp:=f.hp;have fk:=f.k;have hk:=f.kp;have ey:dG y.place∨y.place=17∨y.place=18:=by unfold dG;omega
 have Bv:=yy (l:=(gr s g).aC) (k:=(gr s g).k - 1) (by omega) (by omega);have TS:(gr s g).k - 1 + 1=(gr s g).k:=by omega
 rw [TS] at Bv;have EV:aA (gr s g).aC ((gr s g).k - 1)∉(gr s g).aC.take ((gr s g).k - 1).toNat:=by
  intro w;have l2:=b.l2;rw [← List.take_append_drop (gr s g).k.toNat (gr s g).aC,Bv] at l2;have:=(List.pairwise_append.1 (List.pairwise_append.1 l2).1).2.2 _ w _ (List.mem_singleton.2 rfl);omega
 have KQ:∀ ch,aY (gr s g) ch↔ch∈(gr s g).aC.take (gr s g).k.toNat:=by
  intro ch;rw [uz kx]
  constructor
  ·rintro (w | w)
   ·omega
   ·exact w.2
  ·intro w;exact .inr ⟨by omega,w⟩
 have TT:∀ ch,aY y ch↔ch∈(gr s g).aC.take ((gr s g).k - 1).toNat:=by
  intro ch;rw [uz dK,hk.aC,fk]
  constructor
  ·rintro (w | w)
   ·exfalso;omega
   ·exact w.2
  ·intro w;refine .inr ⟨?_,w⟩
   by_cases z:(gr s g).k - 1=0
   ·rw [z] at w;simp at w
   ·omega
 have wkx:(gr s g).place=33→(gr s g).ah=[]:=fun c=>h.qf hg (by omega)
 have kN:(gr s g).place=33∨(gr s g).res.code≠0→¬ Wt (gr s g):=fun c=>nZ (by omega)
 have lx:Loc s.an.length s.aB.length s.gs.length y:=by
  by_cases cw:(gr s g).place=30∧(gr s g).res.code=0
  ·exact L.waits kx cw.1 cw.2 hk f.ak f.ah f.code (by omega) st (f.lY b (by unfold dG;omega))
  ·have nw:=kN (by omega);obtain ⟨pm,tk⟩:=L.uy nw;rcases ey with c | c
   ·have TU:=f.lY b c;refine L.lY kx (by omega) hk.ops hk.at_ (by rw [hk.status];exact st) (by rw [hk.token];exact tk) (by rw [hk.param];exact pm) (by unfold dG at c;omega) ?_ (by rw [f.ah];exact L.w3) (by rw [f.ah];exact L.w4) (by omega) h.iL TU;rw [f.ah,f.code];intro w;have:=L.w1 w;have z:y.place=(gr s g).place∨y.place=13∧(gr s g).place=30∧(gr s g).res.code=0∨y.place=34:=by
     rcases hp with q | q | q | q
     ·exact .inl q.2.1
     ·exact .inr (.inl ⟨q.2.2.1,q.1,q.2.1⟩)
     ·exact .inr (.inr q.2.1)
     ·exfalso;unfold dG at c;omega
    omega
   ·refine L.fin kx (by omega) hk.ops hk.at_ (by rw [hk.status];exact st) (by rw [hk.token];exact tk) (by rw [hk.param];exact pm) ?_ (by rw [f.ah];exact L.w3) (by rw [f.ah];exact L.w4) h.iL;rw [f.ah];rcases hp with w | w | w | w
    ·omega
    ·omega
    ·omega
    ·exact w.2.2.2.2
 have ow:∀ i,Own y i↔Own (gr s g) i:=by
  intro i;rcases ey with c | c
  ·exact uA kx dK (by omega) (by unfold dG at c;omega) f.ak i
  ·constructor
   ·rintro ⟨_,w | w⟩
    ·exact absurd dK w.1.ne
    ·have:=w.2.1;omega
   ·rintro ⟨i0,w | w⟩
    ·exact absurd kx w.1.ne
    ·rcases hp with q | q | q | q
     ·omega
     ·omega
     ·omega
     ·have:=q.2.2.1 i w.2.2;omega
 refine h.chan hg rG.1 rG.2 lx ⟨.inr (.inr ⟨(KQ _).2 (by rw [Bv];simp),rfl,fun ch=>?_⟩),h.gK rG.1 rG.2,⟨List.Sublist.refl _,List.Sublist.refl _⟩,.inl ⟨rfl,rfl⟩⟩ ow (fun i d _ m=>hk.mt kx f.ak m) ?_ ?_ ?_ (fun q=>by rw [f.ah];exact id) ?_ ?_ hk.at_
 ·rw [KQ,TT,Bv,List.mem_append,List.mem_singleton]
  constructor
  ·intro w;exact ⟨.inl w,fun z=>EV (z ▸ w)⟩
  ·rintro ⟨w | w,w2⟩
   ·exact w
   ·exact absurd w w2
 ·intro i j q ch _ _ _;rcases q with q | q
  ·exact absurd kx q.1.ne
  ·obtain ⟨q1,q2,q3,q4,q5⟩:=q;refine .inr ⟨dK,q2,by rw [f.ak];exact q3,by rw [f.ak];exact q4,?_⟩;have c:(gr s g).place=30∧(gr s g).res.code=0:=by omega
   rcases hp with w | w | w | w
   ·exact .inr (.inr (.inr (.inr (.inl ⟨by omega,by rw [f.code];exact c.2⟩))))
   ·exact .inr (.inl w.2.2.1)
   ·omega
   ·omega
 ·unfold cu;unfold dG at ey;omega
 ·unfold cO;unfold dG at ey;omega
 ·rintro ⟨w1,w2,w3,w4⟩
  have c:(gr s g).place=30∧(gr s g).res.code=0:=by
   by_cases z:(gr s g).place=30∧(gr s g).res.code=0
   ·exact z
   ·exact absurd w1 (kN (by omega))
  refine ⟨.inr ⟨dK,?_⟩,by rw [hk.param];exact w2,by rw [hk.token];exact w3,by intro z;omega⟩;have:y.place=30∨y.place=13:=by omega
  rcases this with z | z
  ·exact .inr (.inr ⟨z,by rw [f.code];exact c.2⟩)
  ·exact .inl z
 ·rintro ⟨w1,w2,w3⟩
  have c:(gr s g).place=30∧(gr s g).res.code=0:=by
   by_cases z:(gr s g).place=30∧(gr s g).res.code=0
   ·exact z
   ·exact absurd w1 (kN (by omega))
  refine ⟨⟨.inr ⟨dK,?_⟩,by rw [hk.param];exact w2,fun _=>by rw [hk.aX];exact w3 kx⟩,fun z=>absurd dK z.ne⟩;have:y.place=30∨y.place=13:=by omega
  rcases this with z | z
  ·exact .inr (.inr ⟨z,by rw [f.code];exact c.2⟩)
  ·exact .inl z
theorem TV {s:St} {g:Nat} (hg:g < s.gs.length):gr (cX s g).1 g={ gr s g with k:=(gr s g).k - 1 }:=by
 rw [Bu hg,iz (by exact hg),if_pos rfl]
theorem yC {s:St} {g:Nat} {p:Int} (hg:g < s.gs.length):aE (cX s g).1 g p=aa (av s (aA (gr s g).aC ((gr s g).k - 1)) { cn s (aA (gr s g).aC ((gr s g).k - 1)) with lock:=-1 }) g { gr s g with k:=(gr s g).k - 1,place:=p }:=by
 rw [Bu hg,nX _ _ _ _ (by exact hg)]
theorem KS {l:List Int} (h:¬ nv l=true):∀ i∈l,i < 0:=by
 intro i hi;unfold nv at h
 by_cases c:0≤i
 ·exact absurd (List.any_eq_true.2 ⟨i,hi,by simpa using c⟩) h
 ·omega
theorem TW {l:List Int} (h:nv l=true):l≠[]:=by
 intro c;rw [c] at h;simp [nv] at h
theorem MInv.TX (h:MInv s) (hg:g < s.gs.length) (st:(gr s g).status=0) (k:(op s g).kind=9) (e:(gr s g).place=30) :
  MInv (if (cX s g).2=true then (cX s g).1 else if (gr s g).res.code=0 then aE (cX s g).1 g 13 else if nv (gr s g).ak=true then aE (cX s g).1 g 34 else ah (cX s g).1 g):=by
 have b:=h.jL hg k (by unfold dG;omega);have k3:=b.k3 (by omega);have e2:(cX s g).2=decide (0 < (gr s g).k - 1):=rfl;have kp:∀ (kk p:Int),je (gr s g) { gr s g with k:=kk,place:=p }:=fun _ _=>⟨rfl,rfl,rfl,rfl,rfl,rfl,rfl,rfl,rfl⟩
 rw [e2]
 split
 ·rename_i c;have c:0 < (gr s g).k - 1:=by simpa using c
  rw [Bu hg];exact h.uE hg st k (by omega) (y:={ gr s g with k:=(gr s g).k - 1 }) ⟨kp _ (gr s g).place,rfl,rfl,rfl,rfl,.inl ⟨.inl e,rfl,by simp only;omega⟩⟩
 rename_i c;have c:¬ 0 < (gr s g).k - 1:=by simpa using c
 split
 ·rename_i c2;rw [yC hg];exact h.uE hg st k (by omega) ⟨kp _ _,rfl,rfl,rfl,rfl,.inr (.inl ⟨e,c2,rfl,by simp only;omega⟩)⟩
 rename_i c2
 split
 ·rename_i c3;rw [yC hg];exact h.uE hg st k (by omega) ⟨kp _ _,rfl,rfl,rfl,rfl,.inr (.inr (.inl ⟨.inr ⟨e,c2,TW c3⟩,rfl,by simp only;omega⟩))⟩
 rename_i c3;unfold ah;rw [TV hg]
 split
 ·rename_i c4;rw [yC hg];exact h.uE hg st k (by omega) ⟨kp _ _,rfl,rfl,rfl,rfl,.inr (.inr (.inr ⟨e,c2,KS c3,by simp only;omega,.inl ⟨rfl,List.length_pos_iff.1 c4⟩⟩))⟩
 ·rename_i c4;rw [yC hg];exact h.uE hg st k (by omega) ⟨kp _ _,rfl,rfl,rfl,rfl,.inr (.inr (.inr ⟨e,c2,KS c3,by simp only;omega,.inr ⟨rfl,List.length_eq_zero_iff.1 (by simp only at c4;omega)⟩⟩))⟩
theorem MInv.TY (h:MInv s) (hg:g < s.gs.length) (st:(gr s g).status=0) (k:(op s g).kind=9) (e:(gr s g).place=33):MInv (if (cX s g).2=true then (cX s g).1 else aE (cX s g).1 g 34):=by
 have b:=h.jL hg k (by unfold dG;omega);have k3:=b.k3 (by omega);have e2:(cX s g).2=decide (0 < (gr s g).k - 1):=rfl;have kp:∀ (kk p:Int),je (gr s g) { gr s g with k:=kk,place:=p }:=fun _ _=>⟨rfl,rfl,rfl,rfl,rfl,rfl,rfl,rfl,rfl⟩
 rw [e2]
 split
 ·rename_i c;have c:0 < (gr s g).k - 1:=by simpa using c
  rw [Bu hg];exact h.uE hg st k (by omega) (y:={ gr s g with k:=(gr s g).k - 1 }) ⟨kp _ (gr s g).place,rfl,rfl,rfl,rfl,.inl ⟨.inr e,rfl,by simp only;omega⟩⟩
 ·rename_i c;have c:¬ 0 < (gr s g).k - 1:=by simpa using c
  rw [yC hg];exact h.uE hg st k (by omega) ⟨kp _ _,rfl,rfl,rfl,rfl,.inr (.inr (.inl ⟨.inl e,rfl,by simp only;omega⟩))⟩
end Sx
namespace Sx
variable {s t:St} {g:Nat} {nc ns n:Int} {x y:Gr}
end Sx
end Go.Proofs.YtofnbflkhgammaaGreat
