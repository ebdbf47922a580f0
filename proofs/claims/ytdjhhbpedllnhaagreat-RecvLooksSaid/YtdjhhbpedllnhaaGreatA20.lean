/-
  What the laws need, part A20.
  Conditions: none.
-/
import Derived.Test.YtdjhhbpedllnhaaGreatA19
set_option linter.unusedVariables false
set_option linter.unusedSimpArgs false
set_option linter.unnecessarySimpa false
set_option maxHeartbeats 2000000
namespace Go.Proofs.YtdjhhbpedllnhaaGreat
namespace Sx
variable {s t:ah} {g:Nat} {nc ns n:Int} {x y:Gr}
theorem gN.lock (b:gN nc ns x) (h:jG x y) (e:x.place=24∨x.place=31) (es:y.ax=x.ax) (ec:y.res.code=x.res.code)
  (hp:y.place=x.place∧y.k=x.k + 1∧x.k + 1 < x.aF.length∨y.place=x.place + 1∧y.k=0∧x.k + 1=x.aF.length):gN nc ns y:=by
 have ho:=h.aH;have hc:=h.ch;have o1:=b.o1;have ab:24≤y.place∧y.place≤27→24≤x.place∧x.place≤27:=by omega
 have kk:0≤y.k∧(y.place=24∨y.place=31→y.k < x.aF.length):=by have:=b.k0;omega
 have uc:∀ {P:Prop},y.place=28∨y.place=29∨y.place=30∨y.place=33∨y.place=34∨y.place=13∨y.place=14→P:=fun c=>by omega
 have Gk:31≤y.place∧y.place≤33→31≤x.place∧x.place≤33:=by omega
 have k2:25≤y.place∧y.place≤29∨y.place=32∨y.place=34→y.k=0:=by omega
 constructor
 ·rw [h.order,h.aF,ho];simp only [hc];exact o1
 ·rw [h.order];exact b.o2
 ·rw [h.order];exact b.o3
 ·rw [h.aF];exact b.l1
 ·rw [h.aF];exact b.l2
 ·rw [h.aF];exact b.l3
 ·exact kk.1
 ·rw [h.aF];exact kk.2
 ·rw [h.order];intro c;rw [k2 c];have:=b.o3;omega
 ·intro c;exact uc (by omega)
 ·rw [es];intro c;exact b.s1 (ab c)
 ·rw [es,ho];intro c
  by_cases d:31≤y.place∧y.place≤33
  ·have:=Gk d;exact b.s2 (.inr (.inl ⟨this.1,by omega⟩))
  ·exact uc (by omega)
 ·intro c;exact uc (by omega)
 ·rw [es,h.order];exact b.s4
 ·intro c;exact uc (by omega)
 ·rw [es,h.order];intro c
  by_cases d:31≤y.place∧y.place≤33
  ·exact b.s6 (.inl (Gk d))
  ·exact uc (by omega)
 ·intro c;exact uc (by omega)
 ·rw [ec];intro c
  by_cases d:24≤y.place∧y.place≤27
  ·have:=ab d;exact b.c1 (.inl ⟨this.1,by omega⟩)
  ·exact uc (by omega)
 ·rw [h.aU];intro c;exact b.c2 (Gk c)
 ·intro c;exact uc (by omega)
theorem MInv.ko (h:MInv s) (hg:g < s.gs.length) (k:(ag s g).kind=9) (e:dV (aa s g).place):gN s.au.length s.aB.length (aa s g):=(h.loc hg).se k e
theorem MInv.MA (h:MInv s) (hg:g < s.gs.length) (st:(aa s g).status=0) (k:(ag s g).kind=9) (p:Int) (e:(aa s g).place=24∧p=25∨(aa s g).place=31∧p=32):MInv (lock s g p):=by
 have L:=h.loc hg;have b:=h.ko hg k (by unfold dV;omega);have kx:SE (aa s g):=k;unfold lock;simp only;have k1:=b.k1 (by omega);have sL:=b.l1 _ (rR b.k0 k1);have nw:¬ Wt (aa s g):=oK (by omega);obtain ⟨pm,tk⟩:=L.vz nw;have wk:(aa s g).ak=[]:=by
  by_cases w:(aa s g).ak=[]
  ·exact w
  ·have:=L.w1 w;omega
 unfold tryLock
 by_cases hl:(cn s (aE (aa s g).aF (aa s g).k)).lock=-1
 ·rw [if_pos hl];simp only [if_true];have key:∀ y,jG (aa s g) y→y.ak=(aa s g).ak→y.ax=(aa s g).ax→y.res.code=(aa s g).res.code→(y.place=(aa s g).place∧y.k=(aa s g).k + 1∧(aa s g).k + 1 < (aa s g).aF.length∨y.place=(aa s g).place + 1∧y.k=0∧(aa s g).k + 1=(aa s g).aF.length) →
    MInv (ai (aA s (aE (aa s g).aF (aa s g).k) { cn s (aE (aa s g).aF (aa s g).k) with lock:=g }) g y):=by
   intro y hk hw hs hc hp;have ys:=b.lock hk (by omega) hs hc hp;have ei:SE y:=hk.se.2 kx;refine h.chan hg sL.1 sL.2 (L.mZ kx (by omega) hk.ops hk.at_ (by rw [hk.status];exact st) (by rw [hk.token];exact tk) (by rw [hk.param];exact pm) (by omega) (by rw [hw,wk];simp) (by rw [hw,wk];simp) (by rw [hw,wk];simp) (by omega) h.jg ys) ⟨.inr (.inl ⟨hl,rfl,fun ch=>?_⟩),h.g9 sL.1 sL.2,⟨List.Sublist.refl _,List.Sublist.refl _⟩,.inl ⟨rfl,rfl⟩⟩ ?_ ?_ ?_ ?_ ?_ ?_ (fun w=>absurd w.1 nw) (fun w=>absurd w.1 nw) hk.at_
   ·-- it has one lock more
    have MB:∀ z:Gr,SE z→(bH z ch↔(25≤z.place∧z.place≤29∨z.place=32)∧ch∈z.aF∨(z.place=24∨z.place=31∨z.place=30∨z.place=33)∧ch∈z.aF.take z.k.toNat):=by
     intro z hz;unfold bH;have:(aH z).kind=9:=hz
     constructor
     ·rintro (w | w)
      ·omega
      ·exact w.2
     ·intro w;exact .inr ⟨hz,w⟩
    rw [MB y ei,MB _ kx,hk.aF];have tk:=zS b.k0 k1;rcases hp with hp | hp
    ·rw [hp.1,hp.2.1,tk,List.mem_append,List.mem_singleton]
     constructor
     ·rintro (w | w)
      ·omega
      ·rcases w.2 with w2 | w2
       ·exact .inl (.inr ⟨w.1,w2⟩)
       ·exact .inr w2
     ·rintro ((w | w) | w)
      ·omega
      ·exact .inr ⟨w.1,.inl w.2⟩
      ·exact .inr ⟨by omega,.inr w⟩
    ·have V4:(aa s g).aF=(aa s g).aF.take (aa s g).k.toNat ++ [aE (aa s g).aF (aa s g).k]:=by rw [← tk,Mz hp.2.2]
     constructor
     ·rintro (w | w)
      ·have w2:=w.2;rw [V4,List.mem_append,List.mem_singleton] at w2;rcases w2 with w2 | w2
       ·exact .inl (.inr ⟨by omega,w2⟩)
       ·exact .inr w2
      ·omega
     ·rintro ((w | w) | w)
      ·omega
      ·exact .inl ⟨by omega,List.mem_of_mem_take w.2⟩
      ·exact .inl ⟨by omega,w ▸ rR b.k0 k1⟩
   ·intro i;unfold Own;rw [hk.se,hs];have n1:¬ SR y:=fun c=>c.ne ei
    have n2:¬ SR (aa s g):=fun c=>c.ne kx
    simp only [n1,n2,false_and,false_or]
    constructor
    ·intro w;exact ⟨w.1,w.2.1,by omega,w.2.2.2⟩
    ·intro w;exact ⟨w.1,w.2.1,by omega,w.2.2.2⟩
   ·intro i d _ m;rcases m with m | m
    ·exact absurd kx m.1.ne
    ·exact .inr ⟨ei,by rw [hs,hk.aH,hk.order,hk.ch];exact m.2⟩
   ·intro i j q ch a0 b0 hi;have gG:0≤i:=by
     have:i∈(cn s ch).recv∨i∈(cn s ch).send:=by
      unfold up at hi
      split at hi
      ·rename_i c;subst c;exact hi
      ·exact hi
     obtain ⟨o,z⟩:=h.vw (g:=g) a0 b0 this;exact z.i0
    rcases q with q | q
    ·exact absurd kx q.1.ne
    ·obtain ⟨q1,q2,q3,q4,q5⟩:=q;have xy:(aa s g).place=31:=by omega
     have hj:=(b.s4 j q2 q3).2.2 (by omega);refine .inr ⟨ei,q2,by rw [hs];exact q3,by rw [hs];exact q4,?_⟩;rcases hp with hp | hp
     ·exact .inr (.inr (.inr (.inl (by omega))))
     ·refine .inr (.inr (.inr (.inr (.inr ⟨by omega,?_⟩))));rw [hk.order,hp.2.1];simpa using hj
   ·unfold cQ;omega
   ·unfold c7;omega
   ·intro q;rw [hw];exact id
  split
  ·rename_i c;exact key _ ⟨rfl,rfl,rfl,rfl,rfl,rfl,rfl,rfl,rfl⟩ rfl rfl rfl (.inr ⟨by simp only;omega,rfl,c⟩)
  ·rename_i c;exact key _ ⟨rfl,rfl,rfl,rfl,rfl,rfl,rfl,rfl,rfl⟩ rfl rfl rfl (.inl ⟨rfl,rfl,by omega⟩)
 ·rw [if_neg hl];simp only [Bool.false_eq_true,if_false];exact h
end Sx
namespace Sx
variable {s t:ah} {g:Nat} {nc ns n:Int} {x y:Gr}
theorem vD (hz:SE x) (ch:Int):bH x ch↔(25≤x.place∧x.place≤29∨x.place=32)∧ch∈x.aF∨(x.place=24∨x.place=31∨x.place=30∨x.place=33)∧ch∈x.aF.take x.k.toNat:=by
 unfold bH;have:(aH x).kind=9:=hz
 constructor
 ·rintro (w | w)
  ·omega
  ·exact w.2
 ·intro w;exact .inr ⟨hz,w⟩
def kq (x:Gr):Prop:=25≤x.place∧x.place≤29∨x.place=32∨(x.place=30∨x.place=33)∧x.k=x.aF.length
theorem nj (hz:SE x) (h:kq x) (ch:Int):bH x ch↔ch∈x.aF:=by
 rw [vD hz];rcases h with h | h | h
 ·constructor
  ·rintro (w | w)
   ·exact w.2
   ·omega
  ·intro w;exact .inl ⟨.inl h,w⟩
 ·constructor
  ·rintro (w | w)
   ·exact w.2
   ·omega
  ·intro w;exact .inl ⟨.inr h,w⟩
 ·rw [Mz h.2]
  constructor
  ·rintro (w | w) <;> exact w.2
  ·intro w;exact .inr ⟨by omega,w⟩
theorem MInv.qR (h:MInv s) (hg:g < s.gs.length) (e:24≤(aa s g).place∧(aa s g).place≤29∨31≤(aa s g).place∧(aa s g).place≤33∨(aa s g).place=14∨(aa s g).place=13∨(aa s g).place=30∧(aa s g).res.code=0):(aa s g).ak=[]:=by
 by_cases w:(aa s g).ak=[]
 ·exact w
 ·have:=(h.loc hg).w1 w;omega
theorem gN.polls (ua:0≤ns) (b:gN nc ns x) (h:jG x y) (e:25≤x.place∧x.place≤27)
  (hp:(25≤y.place∧y.place≤27)∧0≤y.k∧y.k < x.order.length∧y.ax=[]∧y.res.code=0∨y.place=30∧y.k=x.aF.length∧y.ax=[]∧y.res.code≠0 ∨
   y.place=28∧y.k=0∧y.ax=List.replicate (aH x).cases.length (-1)∧y.res.code=0):gN nc ns y:=by
 have ho:=h.aH;have hc:=h.ch;have o1:=b.o1;have l3:=b.l3;have o3:=b.o3;have hk:0≤y.k∧(25≤y.place∧y.place≤29∨y.place=32∨y.place=34→y.k < x.order.length)∧(y.place=30∨y.place=33→1≤y.k∧y.k≤x.aF.length):=by omega
 have no:y.place≠24∧y.place≠29∧y.place≠31∧y.place≠32∧y.place≠33∧y.place≠34∧y.place≠13∧y.place≠14:=by omega
 have hs:y.ax=[]∨y.ax=List.replicate (aH x).cases.length (-1):=by
  rcases hp with w | w | w
  ·exact .inl w.2.2.2.1
  ·exact .inl w.2.2.1
  ·exact .inr w.2.2.1
 have rep:∀ j:Int,0≤j→j < y.ax.length→aE y.ax j=-1:=by
  intro j a c;rcases hs with w | w
  ·rw [w] at c;simp at c;omega
  ·rw [w] at c ⊢;simp only [List.length_replicate] at c;unfold aE;rw [List.getD_eq_getElem?_getD,List.getElem?_replicate];rw [if_pos (by omega)];rfl
 constructor
 ·rw [h.order,h.aF,ho];simp only [hc];exact o1
 ·rw [h.order];exact b.o2
 ·rw [h.order];exact b.o3
 ·rw [h.aF];exact b.l1
 ·rw [h.aF];exact b.l2
 ·rw [h.aF];exact b.l3
 ·exact hk.1
 ·intro c;omega
 ·rw [h.order];exact hk.2.1
 ·rw [h.aF];exact hk.2.2
 ·intro c;rcases hp with w | w | w
  ·exact w.2.2.2.1
  ·exact w.2.2.1
  ·omega
 ·intro c;rcases hp with w | w | w
  ·omega
  ·omega
  ·rw [w.2.2.1,ho,List.length_replicate]
 ·intro c;rcases hp with w | w | w
  ·omega
  ·exact .inr ⟨w.2.2.1,w.2.2.2⟩
  ·omega
 ·intro j a c;have:=rep j a c;rw [this];exact ⟨by decide,by omega,fun c=>absurd c (by decide)⟩
 ·intro c j hj;rw [h.order] at hj;have:=o1 j (List.mem_of_mem_drop hj);rcases hp with w | w | w
  ·omega
  ·omega
  ·exact rep j this.1 (by rw [w.2.2.1,List.length_replicate];exact this.2.1)
 ·intro c;rcases hp with w | w | w
  ·omega
  ·omega
  ·omega
 ·intro c;omega
 ·intro c;rcases hp with w | w | w
  ·exact w.2.2.2.2
  ·omega
  ·exact w.2.2.2
 ·intro c;omega
 ·intro c j hj;rcases hp with w | w | w
  ·omega
  ·omega
  ·rw [w.2.1] at hj;simp at hj
theorem xz {x:Gr} (hs:SE x) (h:24≤x.place∧x.place≤27∨x.ax=[]∨∀ i∈x.ax,i=-1) (i:Int):¬ Own x i:=by
 rintro ⟨w0,w | w⟩
 ·exact w.1.ne hs
 ·rcases h with h | h | h
  ·have:=w.2.1;omega
  ·rw [h] at w;simp at w
  ·have:=h i w.2.2;omega
theorem sF {x:Gr} (hs:SE x) (h:24≤x.place∧x.place≤28∨x.place=33∨x.place=34∨x.place=30∧x.res.code≠0) (i j:Int):¬ dI x i j:=by
 rintro (w | w)
 ·exact w.1.ne hs
 ·have:=w.2.2.2.2;omega
structure Poll (ns:Int) (x y:Gr):Prop where
 kp:jG x y
 hp:(25≤y.place∧y.place≤27)∧0≤y.k∧y.k < x.order.length∧y.ax=[]∧y.res.code=0∨y.place=30∧y.k=x.aF.length∧y.ax=[]∧y.res.code≠0 ∨
   y.place=28∧y.k=0∧y.ax=List.replicate (aH x).cases.length (-1)∧y.res.code=0
 hd:y.place=26∨y.place=27→0≤y.hold∧y.hold < ns
theorem Poll.loc {x y:Gr} (f:Poll ns x y) (L:Loc nc ns n x) (b:gN nc ns x) (hs:SE x) (st:x.status=0) (e:25≤x.place∧x.place≤27) (wk:y.ak=[]) (ua:0≤ns):Loc nc ns n y:=by
 have hp:=f.hp;obtain ⟨pm,tk⟩:=L.vz (oK (x:=x) (by omega));refine L.mZ hs (by omega) f.kp.ops f.kp.at_ (by rw [f.kp.status];exact st) (by rw [f.kp.token];exact tk) (by rw [f.kp.param];exact pm) (by omega) (by rw [wk];simp) (by rw [wk];simp) (by rw [wk];simp) f.hd ua (b.polls ua f.kp e hp)
theorem Poll.kq {x y:Gr} (f:Poll ns x y):kq y:=by
 have hp:=f.hp;have:=f.kp.aF;unfold Sx.kq;rw [this];omega
theorem Poll.sM {x y:Gr} (f:Poll ns x y) (hs:SE x) (i:Int):¬ Own y i:=by
 refine xz (f.kp.se.2 hs) ?_ i;rcases f.hp with w | w | w
 ·exact .inr (.inl w.2.2.2.1)
 ·exact .inr (.inl w.2.2.1)
 ·refine .inr (.inr fun i hi=>?_);rw [w.2.2.1] at hi;exact (List.mem_replicate.1 hi).2
theorem Poll.holds {x y:Gr} (f:Poll ns x y) (hs:SE x) (e:25≤x.place∧x.place≤27) (ch:Int):bH y ch↔bH x ch:=by
 rw [nj (f.kp.se.2 hs) f.kq,nj hs (by unfold Sx.kq;omega),f.kp.aF]
theorem MInv.MC (h:MInv s) (hg:g < s.gs.length) (st:(aa s g).status=0) (k:(ag s g).kind=9) (e:25≤(aa s g).place∧(aa s g).place≤27) {y:Gr} (f:Poll s.aB.length (aa s g) y) (wk:y.ak=(aa s g).ak) (n2:y.place≠26∧y.place≠27) {c:Int} {c':Cn} (c0:1≤c) (c1:c≤s.au.length)
  (e1:c'.lock=(cn s c).lock) (e2:0≤c'.cap∧c'.cap≤4∧(c'.buf.length:Int)≤c'.cap) (e3:c'.recv.Sublist (cn s c).recv∧c'.send.Sublist (cn s c).send) (e4:c'.recv=(cn s c).recv∧c'.send=(cn s c).send∨bH (aa s g) c):MInv (ai (aA s c c') g y):=by
 have L:=h.loc hg;have kx:SE (aa s g):=k;have b:=h.ko hg k (by unfold dV;omega);have eB:=h.qR hg (by omega);have nw:¬ Wt (aa s g):=oK (by omega);exact h.chan hg c0 c1 (f.loc L b kx st e (wk.trans eB) h.jg) ⟨.inl ⟨e1,f.holds kx e⟩,e2,e3,e4⟩ (fun i=>⟨fun w=>absurd w (f.sM kx i),fun w=>absurd w (xz kx (.inl ⟨by omega,by omega⟩) i)⟩) (fun i d w=>absurd w (f.sM kx i)) (fun i j w=>absurd w (sF kx (by omega) i j)) (by have:=f.hp;unfold cQ;omega) (by have:=f.hp;unfold c7;omega) (fun q=>by rw [wk];exact id) (fun w=>absurd w.1 nw) (fun w=>absurd w.1 nw) f.kp.at_
theorem MInv.Cj (h:MInv s) (hg:g < s.gs.length) (st:(aa s g).status=0) (k:(ag s g).kind=9) (e:25≤(aa s g).place∧(aa s g).place≤27) {y:Gr} (f:Poll s.aB.length (aa s g) y) (wk:y.ak=(aa s g).ak) (n2:y.place≠27)
  (wn:cQ y→1≤(su s y.hold).ch∧(su s y.hold).ch≤s.au.length∧bH y (su s y.hold).ch∧(y.hold∈(cn s (su s y.hold).ch).recv∨y.hold∈(cn s (su s y.hold).ch).send)∧0≤(su s y.hold).cs):MInv (ai s g y):=by
 have L:=h.loc hg;have kx:SE (aa s g):=k;have b:=h.ko hg k (by unfold dV;omega);have eB:=h.qR hg (by omega);have nw:¬ Wt (aa s g):=oK (by omega);exact h.self hg ⟨f.loc L b kx st e (wk.trans eB) h.jg,f.holds kx e,fun i=>⟨fun w=>absurd w (f.sM kx i),fun w=>absurd w (xz kx (.inl ⟨by omega,by omega⟩) i)⟩,fun i d w=>absurd w (f.sM kx i),fun i j w=>absurd w (sF kx (by omega) i j),by have:=f.hp;unfold c7;omega,fun q=>by rw [wk];exact id,fun w=>absurd w.1 nw,fun w=>absurd w.1 nw⟩ f.kp.at_ wn
theorem gN.hand (b:gN nc ns x) (k:25≤x.place∧x.place≤29∨x.place=32∨x.place=34):aE x.order x.k∈x.order∧0≤aE x.order x.k∧aE x.order x.k < (aH x).cases.length∧bU x (aE x.order x.k)∈x.aF∧1≤bU x (aE x.order x.k)∧bU x (aE x.order x.k)≤nc:=by
 have hm:=rR b.k0 (b.k2 k);have o:=b.o1 _ hm;have l:=b.l1 _ o.2.2;exact ⟨hm,o.1,o.2.1,o.2.2,l.1,l.2⟩
theorem V5 {s:ah} {g:Nat} {x:Gr} {r:Md.an} {i:Int} (hg:g < s.gs.length):fC (ai s g x) g r i=ai s g { x with bE:=s.step,res:={ r with cs:=i },dJ:=i,k:=x.aF.length,place:=30 }:=by
 unfold fC;simp only;rw [Gi _ _ _ _ _ hg,je s g g _ hg,if_pos rfl,ni];unfold unlock;rw [je s g g _ hg,if_pos rfl,ni]
theorem MD {s:ah} {g:Nat} (hg:g < s.gs.length):ai s g (aa s g)=s:=by
 unfold ai aa;rw [List.getD_eq_getElem?_getD,List.getElem?_eq_getElem hg];simp
theorem ME {s:ah} {g:Nat} {r:Md.an} {i:Int} (hg:g < s.gs.length):fC s g r i=ai s g { aa s g with bE:=s.step,res:={ r with cs:=i },dJ:=i,k:=(aa s g).aF.length,place:=30 }:=by
 have:=V5 (s:=s) (g:=g) (x:=aa s g) (r:=r) (i:=i) hg;rw [MD hg] at this;exact this
theorem V6 {s:ah} {g:Nat} {c:Int} {c':Cn} {r:Md.an} {i:Int} (hg:g < s.gs.length):fC (aA s c c') g r i=ai (aA s c c') g { aa s g with bE:=s.step,res:={ r with cs:=i },dJ:=i,k:=(aa s g).aF.length,place:=30 }:=by
 rw [ME (by exact hg)];rfl
theorem zT {s:ah} {g:Nat} {x:Gr} {p:Int} (hg:g < s.gs.length):next (ai s g x) g p=ai s g (if x.k + 1=x.order.length then { x with k:=0,place:=p } else { x with k:=x.k + 1 }):=by
 unfold next;simp only;rw [je s g g _ hg,if_pos rfl]
 split <;> rw [ni]
theorem Gl {s:ah} {g:Nat} {p:Int} (hg:g < s.gs.length):next s g p=ai s g (if (aa s g).k + 1=(aa s g).order.length then { aa s g with k:=0,place:=p } else { aa s g with k:=(aa s g).k + 1 }):=by
 have:=zT (s:=s) (g:=g) (x:=aa s g) (p:=p) hg;rw [MD hg] at this;exact this
theorem Ck {s:ah} {g:Nat} {x:Gr} (hg:g < s.gs.length):gY (ai s g x) g=ai s g (if x.place=27 then { x with dJ:=aE x.order x.k } else x):=by
 unfold gY;simp only;rw [je s g g _ hg,if_pos rfl]
 split <;> rw [ni]
theorem MInv.MF (h:MInv s) (hg:g < s.gs.length) (st:(aa s g).status=0) (k:(ag s g).kind=9) (e:(aa s g).place=25) {i c:Int} (hc:c∈(aa s g).aF) (hq:i∈(cn s c).recv∨i∈(cn s c).send):MInv (gY (taken s g i 26 27) g):=by
 have L:=h.loc hg;have kx:SE (aa s g):=k;have b:=h.ko hg k (by unfold dV;omega);have eB:=h.qR hg (by omega);have nw:¬ Wt (aa s g):=oK (by omega);obtain ⟨c0,c1⟩:=b.l1 c hc;obtain ⟨o,q⟩:=h.vw (g:=g) c0 c1 hq;have nq:=sF kx (x:=aa s g) (by omega);have bG:=q.ne h nq;have k2:=b.k2 (by omega);have s1:=b.s1 (by omega);have cc:=b.c1 (by omega)
 by_cases hn:0≤(su s i).cs
 ·rw [Mf hg hn,Ck hg,if_neg (by simp)];have f:Poll s.aB.length (aa s g) { aa s g with hold:=i,place:=26 }:=⟨⟨rfl,rfl,rfl,rfl,rfl,rfl,rfl,rfl,rfl⟩,.inl ⟨by simp,b.k0,k2,s1,cc⟩,fun _=>⟨q.i0,q.i1⟩⟩
  refine h.Cj hg st k (by omega) f rfl (by simp) (fun _=>?_);simp only;rw [q.ch];exact ⟨c0,c1,(f.holds kx (by omega) c).2 ((nj kx (by unfold kq;omega) c).2 hc),hq,hn⟩
 ·rw [Me hg q.g_ bG q.ch c0 c1 hn];rw [Ck (by rw [eV];exact hg),if_pos rfl];have f:Poll s.aB.length (aa s g) { aa s g with hold:=i,t:=s.step,bE:=s.step,wi:=o,place:=27,dJ:=aE (aa s g).order (aa s g).k }:=⟨⟨rfl,rfl,rfl,rfl,rfl,rfl,rfl,rfl,rfl⟩,.inl ⟨by simp,b.k0,k2,s1,cc⟩,fun _=>⟨q.i0,q.i1⟩⟩
  refine h.Cc hg q (f.loc L b kx st (by omega) eB h.jg) ⟨.inl ⟨rfl,f.holds kx (by omega)⟩,h.g9 c0 c1,⟨iG,iG⟩,.inr ?_⟩ (fun i=>⟨fun w=>absurd w (f.sM kx i),fun w=>absurd w (xz kx (.inl ⟨by omega,by omega⟩) i)⟩) (fun i d w=>absurd w (f.sM kx i)) nq (by unfold cQ;simp) (fun q=>id) nw (.inr rfl) rfl c0 c1 ?_ hq ⟨rfl,rfl,rfl,rfl,rfl,rfl,rfl,rfl,rfl,rfl,rfl⟩ rfl rfl rfl (.inl ⟨by omega,ng,ng,rfl⟩) rfl
  ·exact (nj kx (by unfold kq;omega) c).2 hc
  ·exact (f.holds kx (by omega) c).2 ((nj kx (by unfold kq;omega) c).2 hc)
theorem MInv.V7 (h:MInv s) (hg:g < s.gs.length) (st:(aa s g).status=0) (k:(ag s g).kind=9) (e:(aa s g).place=26):MInv (gY (cU s g 25 27) g):=by
 have L:=h.loc hg;have kx:SE (aa s g):=k;have b:=h.ko hg k (by unfold dV;omega);have eB:=h.qR hg (by omega);have nw:¬ Wt (aa s g):=oK (by omega);have hd:=L.hd (by omega);have nq:=sF kx (x:=aa s g) (by omega);have k2:=b.k2 (by omega);have s1:=b.s1 (by omega);have cc:=b.c1 (by omega);obtain ⟨o,q,c0,c1,hh,hq,jm⟩:=h.Cd hg (.inr (.inr e));have bG:o≠g:=q.ne h nq
 cases hp:(aa s o).aU with
 | true =>
  rw [Mg (by rw [q.g_];exact hp),drop_eq rfl c0 c1,Ck (by exact hg),if_neg (by simp)];have f:Poll s.aB.length (aa s g) { aa s g with hold:=-1,place:=25 }:=⟨⟨rfl,rfl,rfl,rfl,rfl,rfl,rfl,rfl,rfl⟩,.inl ⟨by simp,b.k0,k2,s1,cc⟩,by simp⟩
  exact h.MC hg st k (by omega) f rfl (by simp) c0 c1 rfl (h.g9 c0 c1) ⟨iG,iG⟩ (.inr hh)
 | false =>
  rw [Mh hg q.o1 q.g_ bG hp,Ck (by rw [eV];exact hg),if_pos rfl];have f:Poll s.aB.length (aa s g) { aa s g with t:=s.step,bE:=s.step,wi:=o,place:=27,dJ:=aE (aa s g).order (aa s g).k }:=⟨⟨rfl,rfl,rfl,rfl,rfl,rfl,rfl,rfl,rfl⟩,.inl ⟨by simp,b.k0,k2,s1,cc⟩,fun _=>hd⟩
  have:=h.Cc hg q (c':=cn s (su s (aa s g).hold).ch) (f.loc L b kx st (by omega) eB h.jg) ⟨.inl ⟨rfl,f.holds kx (by omega)⟩,h.g9 c0 c1,⟨List.Sublist.refl _,List.Sublist.refl _⟩,.inr hh⟩ (fun i=>⟨fun w=>absurd w (f.sM kx i),fun w=>absurd w (xz kx (.inl ⟨by omega,by omega⟩) i)⟩) (fun i d w=>absurd w (f.sM kx i)) nq (by unfold cQ;simp) (fun q=>id) nw (.inr rfl) rfl c0 c1 ((f.holds kx (by omega) _).2 hh) hq (y:={ aa s o with aU:=true,bE:=s.step,wi:=g,dJ:=(su s (aa s g).hold).cs }) ⟨rfl,rfl,rfl,rfl,rfl,rfl,rfl,rfl,rfl,rfl,rfl⟩ rfl rfl rfl (.inr ⟨jm,hp,rfl,hh⟩) rfl;rw [Mb c0 c1] at this;exact this
theorem MInv.kG (h:MInv s) (hg:g < s.gs.length) (st:(aa s g).status=0) (k:(ag s g).kind=9) (e:(aa s g).place=25):MInv (kG s g (ag s g)):=by
 have L:=h.loc hg;have kx:SE (aa s g):=k;have b:=h.ko hg k (by unfold dV;omega);have k2:=b.k2 (by omega);have s1:=b.s1 (by omega);have cc:=b.c1 (by omega);have k0:=b.k0;have l3:=b.l3;have hd:=b.hand (by omega);have ho:aH (aa s g)=ag s g:=rfl;have rB:(cD (ag s g) (aE (aa s g).order (aa s g).k)).ch=bU (aa s g) (aE (aa s g).order (aa s g).k):=rfl;have MG:∀ (r:Md.an) (i:Int),r.code≠0→Poll s.aB.length (aa s g) { aa s g with bE:=s.step,res:={ r with cs:=i },dJ:=i,k:=(aa s g).aF.length,place:=30 }:=fun r i hr =>
  ⟨⟨rfl,rfl,rfl,rfl,rfl,rfl,rfl,rfl,rfl⟩,.inr (.inl ⟨rfl,rfl,s1,hr⟩),by simp⟩
 have Gm:∀ (r:Md.an) (i:Int),r.code≠0→MInv (fC s g r i):=fun r i hr=>by
  rw [ME hg];exact h.Cj hg st k (by omega) (MG r i hr) rfl (by simp) (fun w=>by unfold cQ at w;simp at w)
 have MH:∀ (c:Int) (l:List Int) (r:Md.an) (i:Int),1≤c→c≤s.au.length→(l.length:Int)≤(cn s c).cap→r.code≠0→MInv (fC (aA s c { cn s c with buf:=l }) g r i):=fun c l r i c0 c1 hl hr=>by
  rw [V6 hg];have BU:=h.g9 c0 c1;exact h.MC hg st k (by omega) (MG r i hr) rfl (by simp) c0 c1 rfl ⟨BU.1,BU.2.1,hl⟩ ⟨List.Sublist.refl _,List.Sublist.refl _⟩ (.inl ⟨rfl,rfl⟩)
 unfold Sx.kG;simp only;generalize hi:aE (aa s g).order (aa s g).k=i at *;rw [← ho];have mD:(cD (aH (aa s g)) i).ch=bU (aa s g) i:=rfl;have V8:(iX s g i (cD (aH (aa s g)) i)).2=true→MInv (iX s g i (cD (aH (aa s g)) i)).1:=by
  unfold iX;simp only [mD]
  split
  ·intro _;exact Gm _ _ (by decide)
  split
  ·rename_i c;intro _;exact h.MF hg st k e hd.2.2.2.1 (.inl (tZ (by omega)))
  split
  ·rename_i c;intro _;exact MH _ _ _ _ hd.2.2.2.2.1 hd.2.2.2.2.2 (Mo c) (by decide)
  ·intro c;cases c
 have V9:(jP s g i (cD (aH (aa s g)) i)).2=true→MInv (jP s g i (cD (aH (aa s g)) i)).1:=by
  unfold jP;simp only [mD]
  split
  ·rename_i c;intro _;exact h.MF hg st k e hd.2.2.2.1 (.inr (tZ (by omega)))
  split
  ·intro _;have BU:=h.g9 hd.2.2.2.2.1 hd.2.2.2.2.2;exact MH _ _ _ _ hd.2.2.2.2.1 hd.2.2.2.2.2 (by have:=Mp (l:=(cn s (bU (aa s g) i)).buf);omega) (by unfold cZ;simp)
  split
  ·intro _;exact Gm _ _ (by unfold cZ;simp)
  ·intro c;cases c
 have MI:(aa s g).k + 1 < (aa s g).order.length→MInv (next s g 25):=by
  intro c;rw [Gl hg,az];exact h.Cj hg st k (by omega) ⟨⟨rfl,rfl,rfl,rfl,rfl,rfl,rfl,rfl,rfl⟩,.inl ⟨by simp only;omega,by simp only;omega,c,s1,cc⟩,by simp only;omega⟩ rfl (by simp only;omega) (fun w=>by unfold cQ at w;simp only at w;omega)
 have MJ:¬ (aa s g).k + 1 < (aa s g).order.length→MInv (next (ai s g { aa s g with ax:=List.replicate (aH (aa s g)).cases.length (-1) }) g 28):=by
  intro c;rw [zT hg,if_pos (by simp only;omega)];exact h.Cj hg st k (by omega) ⟨⟨rfl,rfl,rfl,rfl,rfl,rfl,rfl,rfl,rfl⟩,.inr (.inr ⟨rfl,rfl,rfl,cc⟩),by simp⟩ rfl (by simp) (fun w=>by unfold cQ at w;simp at w)
 have MK:MInv (fC s g ⟨2,0,0,false,0⟩ (-1)):=Gm _ _ (by decide)
 by_cases vE:(cD (aH (aa s g)) i).send=true
 ·rw [if_pos vE]
  by_cases c:(iX s g i (cD (aH (aa s g)) i)).2=true
  ·rw [if_pos c];exact V8 c
  rw [if_neg c]
  split
  ·rename_i c;exact MI c
  split
  ·exact MK
  ·rename_i c _;exact MJ c
 ·rw [if_neg vE]
  by_cases c:(jP s g i (cD (aH (aa s g)) i)).2=true
  ·rw [if_pos c];exact V9 c
  rw [if_neg c]
  split
  ·rename_i c;exact MI c
  split
  ·exact MK
  ·rename_i c _;exact MJ c
end Sx
namespace Sx
variable {s t:ah} {g:Nat} {nc ns n:Int} {x y:Gr}
theorem MInv.Gn (h:MInv s) (hg:g < s.gs.length) (st:(aa s g).status=0) (k:(ag s g).kind=9) (e:(aa s g).place=27) {o:Nat} {c i:Int} (hi:(aa s g).hold=i) (q:Gc s g i c o) (other:∀ k:Nat,k < s.gs.length→k≠g→c7 (aa s k)→(su s (aa s k).hold).g=o→False) (r:Md.an) (hr:r.code≠0) (d:Su)
  (hd:d.g=(su s i).g∧d.ch=(su s i).ch∧d.cs=(su s i).cs∧d.send=(su s i).send∧d.live=(su s i).live) :
  MInv (ai (aN (ai (aA s c (bN (cn s c) i)) o { aa s o with param:=i }) i d) g { aa s g with ak:=(aa s g).ak ++ [(o:Int)],hold:=-1,res:=r,k:=(aa s g).aF.length,place:=30 }):=by
 have L:=h.loc hg;have kx:SE (aa s g):=k;have b:=h.ko hg k (by unfold dV;omega);have eB:=h.qR hg (by omega);have nw:¬ Wt (aa s g):=oK (by omega);have nq:=sF kx (x:=aa s g) (by omega);have s1:=b.s1 (by omega);have f:Poll s.aB.length (aa s g) { aa s g with hold:=-1,res:=r,k:=(aa s g).aF.length,place:=30 }:=⟨⟨rfl,rfl,rfl,rfl,rfl,rfl,rfl,rfl,rfl⟩,.inr (.inl ⟨rfl,rfl,s1,hr⟩),by simp⟩
 have lz:=f.loc L b kx st (by omega) eB h.jg;have lx:Loc s.au.length s.aB.length s.gs.length { aa s g with ak:=(aa s g).ak ++ [(o:Int)],hold:=-1,res:=r,k:=(aa s g).aF.length,place:=30 } :=
  lz.Ge (.inr (.inr (.inr (.inr (.inr ⟨rfl,hr⟩))))) (by rw [eB];have:=q.o1;simp;omega) (by rw [eB];simp) (by simp)
 have ML:∀ i,¬ Own { aa s g with ak:=(aa s g).ak ++ [(o:Int)],hold:=-1,res:=r,k:=(aa s g).aF.length,place:=30 } i:=fun i w=>f.sM kx i w
 refine h.Gb hg q.c0 q.c1 lx ⟨.inl ⟨rfl,fun ch=>f.holds kx (by omega) ch⟩,h.g9 q.c0 q.c1,⟨iG,iG⟩,.inr q.hh⟩ (fun i=>⟨fun w=>absurd w (ML i),fun w=>absurd w (xz kx (.inl ⟨by omega,by omega⟩) i)⟩) (fun i d w=>absurd w (ML i)) nq (by unfold cQ;simp) (by unfold c7;simp) (fun q hq=>?_) nw q.sc q.so q.o1 q.ne q.wt q.pm q.own (fun w=>q.se w) ⟨ng,ng⟩ other ⟨rfl,rfl,rfl,rfl,rfl,rfl,rfl,rfl,rfl,rfl,rfl⟩ rfl rfl rfl rfl hd;rcases List.mem_append.1 hq with w | w
 ·exact .inl w
 ·exact .inr (List.mem_singleton.1 w)
theorem Cl {s:ah} {g:Nat} {x:Gr} {p:Int} (hg:g < s.gs.length):unlock (ai s g x) g p=ai s g { x with k:=x.aF.length,place:=p }:=by
 unfold unlock;rw [je s g g _ hg,if_pos rfl,ni]
theorem Wa {s:ah} {g:Nat} {p:Int} (hg:g < s.gs.length):unlock s g p=ai s g { aa s g with k:=(aa s g).aF.length,place:=p }:=rfl
theorem Wb {s:ah} {g o:Nat} {i c:Int} {d:Su} {r:Md.an} {kk p:Int} (hg:g < s.gs.length) (ho:o < s.gs.length) (so:d.g=o) (bG:o≠g) (i0:0≤i) (i1:i < s.aB.length) (hk:kk=(aa s g).aF.length) :
  unlock (ai (serve (aN (aA s c (bN (cn s c) i)) i d) g i true) g { aa (serve (aN (aA s c (bN (cn s c) i)) i d) g i true) g with res:=r }) g p =
  ai (aN (ai (aA s c (bN (cn s c) i)) o { aa s o with param:=i }) i { d with done:=true }) g { aa s g with ak:=(aa s g).ak ++ [(o:Int)],hold:=-1,res:=r,k:=kk,place:=p }:=by
 have s1:su (aN (aA s c (bN (cn s c) i)) i d) i=d:=Mi i0 i1;have e:=zP (s:=aN (aA s c (bN (cn s c) i)) i d) (g:=g) (o:=o) (i:=i) (d:=true) hg ho (by rw [s1];exact so) bG;have g1:aa (aN (aA s c (bN (cn s c) i)) i d) g=aa s g:=rfl;have g2:aa (aN (aA s c (bN (cn s c) i)) i d) o=aa s o:=rfl;rw [s1,g1,g2] at e;rw [e];have hl:∀ y:Gr,g < (aN (ai (aN (aA s c (bN (cn s c) i)) i d) o y) i { d with done:=true }).gs.length:=fun y=>by show g < (ai _ _ _).gs.length;rw [eV];exact hg
 have g3:∀ y z,aa (ai (aN (ai (aN (aA s c (bN (cn s c) i)) i d) o y) i { d with done:=true }) g z) g=z:=fun y z=>by
  rw [fj (hl y),if_pos rfl]
 rw [g3,ni,Cl (hl _),hk];unfold ai aN aA;simp only [List.set_set]
theorem MM {s:ah} {g o:Nat} {i c:Int} {r:Md.an} {kk p:Int} (hg:g < s.gs.length) (ho:o < s.gs.length) (so:(su s i).g=o) (bG:o≠g) (hk:kk=(aa s g).aF.length) :
  unlock (ai (serve (aA s c (bN (cn s c) i)) g i true) g { aa (serve (aA s c (bN (cn s c) i)) g i true) g with res:=r }) g p =
  ai (aN (ai (aA s c (bN (cn s c) i)) o { aa s o with param:=i }) i { su s i with done:=true }) g { aa s g with ak:=(aa s g).ak ++ [(o:Int)],hold:=-1,res:=r,k:=kk,place:=p }:=by
 have e:=zP (s:=aA s c (bN (cn s c) i)) (g:=g) (o:=o) (i:=i) (d:=true) hg ho so bG;have g1:aa (aA s c (bN (cn s c) i)) g=aa s g:=rfl;have g2:aa (aA s c (bN (cn s c) i)) o=aa s o:=rfl;have g4:su (aA s c (bN (cn s c) i)) i=su s i:=rfl;rw [g1,g2,g4] at e;rw [e];have hl:∀ y:Gr,g < (aN (ai (aA s c (bN (cn s c) i)) o y) i { su s i with done:=true }).gs.length:=fun y=>by show g < (ai _ _ _).gs.length;rw [eV];exact hg
 have g3:∀ y z,aa (ai (aN (ai (aA s c (bN (cn s c) i)) o y) i { su s i with done:=true }) g z) g=z:=fun y z=>by
  rw [fj (hl y),if_pos rfl]
 rw [g3,ni,Cl (hl _),hk]
theorem MInv.kH (h:MInv s) (hg:g < s.gs.length) (st:(aa s g).status=0) (k:(ag s g).kind=9) (e:(aa s g).place=27):MInv (kH s g (ag s g)):=by
 obtain ⟨o,q,tY⟩:=h.Gd hg (.inr e);have L:=h.loc hg;have kx:SE (aa s g):=k;have b:=h.ko hg k (by unfold dV;omega);have dN:=b.hand (by omega);have hd:=L.hd (by omega);unfold Sx.kH;simp only;generalize hi:aE (aa s g).order (aa s g).k=j at *;have d0:=dN.2.2.2.2.1;have d1:=dN.2.2.2.2.2;have rB:(cD (ag s g) j).ch=bU (aa s g) j:=rfl;rw [drop_eq q.sc q.c0 q.c1]
 by_cases vE:(cD (ag s g) j).send=true
 ·simp only [if_pos vE];have e1:su (aA s (su s (aa s g).hold).ch (bN (cn s (su s (aa s g).hold).ch) (aa s g).hold)) (aa s g).hold=su s (aa s g).hold:=rfl;rw [e1,Wb hg q.o1 (by exact q.so) q.ne hd.1 hd.2 rfl];exact h.Gn hg st k e rfl q tY _ (by simp) _ ⟨rfl,rfl,rfl,rfl,rfl⟩
 ·simp only [if_neg vE];rw [rB];obtain ⟨r,hr,jw⟩:∃ r,({ cZ (hand (aA s (su s (aa s g).hold).ch (bN (cn s (su s (aa s g).hold).ch) (aa s g).hold)) (bU (aa s g) j) (aa s g).hold).2 true with cs:=j }:Md.an)=r∧r.code≠0:=⟨_,rfl,by simp [cZ]⟩
  rw [hr];clear hr;unfold hand;simp only
  split
  ·rw [MM hg q.o1 q.so q.ne rfl];exact h.Gn hg st k e rfl q tY _ jw _ ⟨rfl,rfl,rfl,rfl,rfl⟩
  ·simp only;rw [Ml q.c0 q.c1 d0 d1];obtain ⟨bf,hb,dU⟩:∃ b,(eF (cn (aA s (su s (aa s g).hold).ch (bN (cn s (su s (aa s g).hold).ch) (aa s g).hold)) (bU (aa s g) j)).buf (cn (aA s (su s (aa s g).hold).ch (bN (cn s (su s (aa s g).hold).ch) (aa s g).hold)) (bU (aa s g) j)).cap (su (aA s (su s (aa s g).hold).ch (bN (cn s (su s (aa s g).hold).ch) (aa s g).hold)) (aa s g).hold).v).1=b∧b.length=(cn s (bU (aa s g) j)).buf.length:=by
    refine ⟨_,rfl,?_⟩;rw [Mm,m8 q.c0 q.c1 rfl _ d0];unfold up
    split
    ·rename_i c;rw [c];rfl
    ·rfl
   rw [hb];have r9:=h.g9 d0 d1;have h2:MInv (aA s (bU (aa s g) j) { cn s (bU (aa s g) j) with buf:=bf }):=h.buf d0 d1 rfl rfl rfl ⟨r9.1,r9.2.1,by simp only;rw [dU];exact r9.2.2⟩;obtain ⟨s2,jf⟩:∃ s2,aA s (bU (aa s g) j) { cn s (bU (aa s g) j) with buf:=bf }=s2:=⟨_,rfl⟩
   have eg:∀ j,aa s2 j=aa s j:=fun j=>by rw [← jf];rfl
   have es:∀ j,su s2 j=su s j:=fun j=>by rw [← jf];rfl
   have el:s2.gs.length=s.gs.length:=by rw [← jf];rfl
   have ec:s2.au.length=s.au.length:=by rw [← jf];simp [aA]
   have eq:∀ ch,1≤ch→(cn s2 ch).recv=(cn s ch).recv∧(cn s2 ch).send=(cn s ch).send:=by
    intro ch a;rw [← jf,m8 d0 d1 rfl ch a];unfold up
    split
    ·rename_i c;rw [c];exact ⟨rfl,rfl⟩
    ·exact ⟨rfl,rfl⟩
   rw [jf] at h2 ⊢;have eo:ag s2 g=ag s g:=by unfold ag;rw [eg]
   rw [← es,← eg];rw [MM (by rw [el];exact hg) (by rw [el];exact q.o1) (by rw [es,eg];exact q.so) q.ne rfl];refine h2.Gn (by rw [el];exact hg) (by rw [eg];exact st) (by rw [eo];exact k) (by rw [eg];exact e) rfl ⟨?_,?_,rfl,?_,?_,q.ne,?_,?_,?_,?_,?_,?_⟩ ?_ _ jw _ ⟨rfl,rfl,rfl,rfl,rfl⟩
   ·rw [es,eg];exact q.c0
   ·rw [es,eg,ec];exact q.c1
   ·rw [es,eg];exact q.so
   ·rw [el];exact q.o1
   ·rw [es,eg];exact q.hh
   ·rw [eg];exact q.wt
   ·rw [eg];exact q.pm
   ·rw [eg,eg];exact q.own
   ·rw [eg];exact q.se
   ·rw [es,eg,eg,(eq _ q.c0).1,(eq _ q.c0).2];exact q.sr
   ·intro k a b;rw [eg,es];exact tY k (by rw [← el];exact a) b
end Sx
namespace Sx
variable {s t:ah} {g:Nat} {nc ns n:Int} {x y:Gr}
theorem MN {l:List Int} {i j v:Int} (i0:0≤i) (j0:0≤j) (j1:j < l.length):aE (l.set i.toNat v) j=if j=i then v else aE l j:=by
 unfold aE;simp only [List.getD_eq_getElem?_getD,List.getElem?_set]
 by_cases c:j=i
 ·subst c;rw [if_pos rfl,if_pos rfl,if_pos (by omega)];rfl
 ·rw [if_neg c,az]
theorem oL {l:List Int} {v:Int}:v∈l↔∃ j:Int,0≤j∧j < l.length∧aE l j=v:=by
 constructor
 ·intro h;obtain ⟨k,hk,e⟩:=List.getElem_of_mem h;refine ⟨k,by omega,by omega,?_⟩;unfold aE;rw [List.getD_eq_getElem?_getD,Int.toNat_natCast,List.getElem?_eq_getElem hk,e];rfl
 ·rintro ⟨j,a,b,rfl⟩
  exact rR a b
theorem vF (hs:SE x) (hy:SE y) (px:28≤x.place∧x.place≤34∨x.place=13∨x.place=14) (py:28≤y.place∧y.place≤34∨y.place=13∨y.place=14) (e:y.ax=x.ax) (i:Int):Own y i↔Own x i:=by
 have nx:¬ SR x:=fun w=>w.ne hs
 have ny:¬ SR y:=fun w=>w.ne hy
 unfold Own;simp only [nx,ny,false_and,false_or,e]
 constructor
 ·intro w;exact ⟨w.1,hs,px,w.2.2.2⟩
 ·intro w;exact ⟨w.1,hy,py,w.2.2.2⟩
theorem jG.mt (h:jG x y) (hs:SE x) (e:y.ax=x.ax) {i:Int} {d:Su} (m:Match x i d):Match y i d:=by
 rcases m with m | m
 ·exact absurd hs m.1.ne
 ·exact .inr ⟨h.se.2 hs,by rw [e,h.aH,h.order,h.ch];exact m.2⟩
theorem MInv.aB (h:MInv s) (hg:g < s.gs.length) (st:(aa s g).status=0) (k:(ag s g).kind=9) (e:(aa s g).place=28):MInv (aB s g (ag s g)):=by
 have L:=h.loc hg;have kx:SE (aa s g):=k;have b:=h.ko hg k (by unfold dV;omega);have eB:=h.qR hg (by omega);have nw:¬ Wt (aa s g):=oK (by omega);obtain ⟨pm,tk⟩:=L.vz nw;have dN:=b.hand (by omega);have k2:=b.k2 (by omega);have k0:=b.k0;have s2:=b.s2 (by omega);have s4:=b.s4;have s5:=b.s5 e;have cc:=b.c1 (by omega);have l3:=b.l3;have nq:=sF kx (x:=aa s g) (by omega);unfold Sx.aB;simp only;have rB:(cD (ag s g) (aE (aa s g).order (aa s g).k)).ch=bU (aa s g) (aE (aa s g).order (aa s g).k):=rfl;rw [rB];have kT:=Ci k0 k2;have tX:=zS k0 k2;have s8:=b.s8 e;generalize hi:aE (aa s g).order (aa s g).k=i at *
 by_cases ok:(aQ s g).2.2=true
 ·rw [if_pos ok];have T:=B9 h hg ok;generalize (aQ s g).2.1=d at *;generalize (aQ s g).1=t at *;have JY:g < (aN t d ⟨true,g,bU (aa s g) i,i,(cD (ag s g) i).send,(cD (ag s g) i).v,false⟩).gs.length:=by show g < t.gs.length;rw [T.gs];exact hg
  rw [zT JY];obtain ⟨y,hy⟩:∃ y,(if ({ aa s g with ax:=(aa s g).ax.set i.toNat d }:Gr).k + 1=(({ aa s g with ax:=(aa s g).ax.set i.toNat d }:Gr).order.length:Int) then ({ ({ aa s g with ax:=(aa s g).ax.set i.toNat d }:Gr) with k:=0,place:=29 }:Gr) else { ({ aa s g with ax:=(aa s g).ax.set i.toNat d }:Gr) with k:=({ aa s g with ax:=(aa s g).ax.set i.toNat d }:Gr).k + 1 })=y:=⟨_,rfl⟩
  rw [hy];have hk:jG (aa s g) y:=by rw [← hy];split <;> exact ⟨rfl,rfl,rfl,rfl,rfl,rfl,rfl,rfl,rfl⟩
  have ys:y.ax=(aa s g).ax.set i.toNat d∧y.ak=(aa s g).ak∧y.res.code=0:=by rw [← hy];split <;> exact ⟨rfl,rfl,cc⟩
  have yp:(y.place=29∧y.k=0∧(aa s g).k + 1=(aa s g).order.length)∨(y.place=28∧y.k=(aa s g).k + 1∧(aa s g).k + 1 < (aa s g).order.length):=by
   rw [← hy]
   split
   ·rename_i c;exact .inl ⟨rfl,rfl,c⟩
   ·rename_i c;exact .inr ⟨e,rfl,by simp only at c;omega⟩
  clear hy;have ei:SE y:=hk.se.2 kx;have lu:i < ((aa s g).ax.length:Int):=by rw [s2];exact dN.2.2.1
  have jE:∀ j:Int,0≤j→j < (aa s g).ax.length→aE y.ax j=if j=i then d else aE (aa s g).ax j:=fun j a c=>by rw [ys.1,MN dN.2.1 a c]
  have jB:y.ax.length=(aa s g).ax.length:=by rw [ys.1,List.length_set]
  have Wc:aE (aa s g).ax i=-1:=s5 i (by rw [kT];simp);have d0:=T.i0;have d1:=T.i1;have nodup:=b.o2;have pU:gN s.au.length s.aB.length y:=by
   have ho:=hk.aH;have hc:=hk.ch;have o1:=b.o1;have o3:=b.o3;have kk:0≤y.k∧y.k < (aa s g).order.length:=by omega
   have yp2:y.place=28∨y.place=29:=by omega
   constructor
   ·rw [hk.order,hk.aF,ho];simp only [hc];exact o1
   ·rw [hk.order];exact b.o2
   ·rw [hk.order];exact o3
   ·rw [hk.aF];exact b.l1
   ·rw [hk.aF];exact b.l2
   ·rw [hk.aF];exact b.l3
   ·exact kk.1
   ·intro c;omega
   ·rw [hk.order];intro _;exact kk.2
   ·intro c;omega
   ·intro c;omega
   ·intro _;rw [jB,ho];exact s2
   ·intro c;omega
   ·intro j a c;rw [jB] at c;rw [jE j a c,hk.order]
    split
    ·rename_i z;rw [z];exact ⟨by omega,d1,fun _=>dN.1⟩
    ·exact s4 j a c
   ·intro c j hj;have mE:j∈(aa s g).order.drop ((aa s g).k + 1).toNat:=by
     rw [hk.order] at hj;rcases yp with w | w
     ·omega
     ·rw [w.2.1] at hj;exact hj
    have pV:=o1 j (List.mem_of_mem_drop mE);have mh:j≠i:=by
     intro z;have:=nodup;rw [← List.take_append_drop (aa s g).k.toNat (aa s g).order,kT] at this;have:=(List.nodup_append.1 this).2.1;exact (List.nodup_cons.1 this).1 (z ▸ mE)
    rw [jE j pV.1 (by rw [s2];exact pV.2.1),if_neg mh];exact s5 j (by rw [kT];exact List.mem_cons_of_mem _ mE)
   ·intro c j hj;rw [hk.order] at hj;have pV:=o1 j hj;rw [jE j pV.1 (by rw [s2];exact pV.2.1)]
    split
    ·exact d0
    ·rename_i z;refine s8 j ?_;rw [← List.take_append_drop (aa s g).k.toNat (aa s g).order,kT] at hj;rcases List.mem_append.1 hj with w | w
     ·exact w
     ·rcases List.mem_cons.1 w with w | w
      ·exact absurd w z
      ·have:(aa s g).order.drop ((aa s g).k + 1).toNat=[]:=List.drop_eq_nil_of_le (by omega);rw [this] at w;simp at w
   ·intro c;omega
   ·intro _;exact ys.2.2
   ·intro c;omega
   ·intro c j hj;have c2:y.k=(aa s g).k + 1:=by omega
    rw [hk.order,c2,tX] at hj;have pV:0≤j∧j < (aH (aa s g)).cases.length:=by
     rcases List.mem_append.1 hj with w | w
     ·have:=o1 j (List.mem_of_mem_take w);exact ⟨this.1,this.2.1⟩
     ·rw [List.mem_singleton.1 w];exact ⟨dN.2.1,dN.2.2.1⟩
    rw [jE j pV.1 (by rw [s2];exact pV.2)]
    split
    ·exact d0
    ·rename_i z;rcases List.mem_append.1 hj with w | w
     ·exact s8 j w
     ·exact absurd (List.mem_singleton.1 w) z
  have MO:∀ j,Own (aa s g) j→∃ c:Int,0≤c∧c < (aa s g).ax.length∧aE (aa s g).ax c=j∧c≠i:=by
   rintro j ⟨j0,w | w⟩
   ·exact absurd kx w.1.ne
   ·obtain ⟨c,c0,c1,c2⟩:=oL.1 w.2.2;exact ⟨c,c0,c1,c2,fun z=>by rw [z,Wc] at c2;omega⟩
  refine h.take hg T (x:=y) (L.mZ kx (by omega) hk.ops hk.at_ (by rw [hk.status];exact st) (by rw [hk.token];exact tk) (by rw [hk.param];exact pm) (by omega) (by rw [ys.2.1,eB];simp) (by rw [ys.2.1,eB];simp) (by rw [ys.2.1,eB];simp) (by omega) h.jg pU) ?_ ?_ ?_ ?_ rfl nq (by unfold cQ;omega) (by unfold c7;omega) ys.2.1 nw hk.at_
  ·intro ch;rw [nj ei (by unfold kq;omega),nj kx (by unfold kq;omega),hk.aF]
  ·intro j
   constructor
   ·rintro ⟨j0,w | w⟩
    ·exact absurd ei w.1.ne
    ·obtain ⟨c,c0,c1,c2⟩:=oL.1 w.2.2;rw [jB] at c1;rw [jE c c0 c1] at c2
     split at c2
     ·exact .inr c2.symm
     ·exact .inl ⟨j0,.inr ⟨kx,by omega,oL.2 ⟨c,c0,c1,c2⟩⟩⟩
   ·rintro (w | w)
    ·obtain ⟨c,c0,c1,c2,c3⟩:=MO j w;refine ⟨w.1,.inr ⟨ei,by omega,oL.2 ⟨c,c0,by rw [jB];exact c1,?_⟩⟩⟩;rw [jE c c0 c1,if_neg c3];exact c2
    ·subst w;refine ⟨d0,.inr ⟨ei,by omega,oL.2 ⟨i,dN.2.1,by rw [jB];exact lu,?_⟩⟩⟩;rw [jE i dN.2.1 lu,if_pos rfl]
  ·intro j w;obtain ⟨c,c0,c1,c2,c3⟩:=MO j w;have hO:=Inv.own h.v (g:Int) (by omega) (by omega) j (by rw [fz];exact w);rw [fz] at hO;rcases hO.2.1 with m | m
   ·exact absurd kx m.1.ne
   ·obtain ⟨_,m1,m2,m3,m4,m5,m6,m7⟩:=m;have ec:=m7 c c0 c1 c2;refine .inr ⟨ei,m1,by rw [jB];exact m2,?_,by rw [hk.ch];exact m4,by rw [hk.aH];exact m5,by rw [hk.order];exact m6,?_⟩
    ·rw [jE _ m1 m2,if_neg (by rw [← ec];exact c3)];exact m3
    ·intro q q0 q1 q2;rw [jB] at q1;rw [jE q q0 q1] at q2
     split at q2
     ·exfalso
      have:=hO.2.2.2;rw [← q2] at this;rw [T.nl] at this;cases this
     ·exact m7 q q0 q1 q2
  ·refine .inr ⟨ei,dN.2.1,by rw [jB];exact lu,by rw [jE i dN.2.1 lu,if_pos rfl],by rw [hk.ch],by rw [hk.aH];rfl,by rw [hk.order];exact dN.1,?_⟩;intro q q0 q1 q2;rw [jB] at q1;rw [jE q q0 q1] at q2
   split at q2
   ·rename_i z;exact z
   ·exfalso
    have w:Own (aa s g) d:=⟨d0,.inr ⟨kx,by omega,oL.2 ⟨q,q0,q1,q2⟩⟩⟩
    have hO:=Inv.own h.v (g:Int) (by omega) (by omega) d (by rw [fz];exact w);have:=hO.2.2.2;rw [T.nl] at this;cases this
 ·rw [if_neg ok];have e1:(aQ s g).1=s:=by
   unfold aQ at ok ⊢
   split
   ·rename_i c;rw [if_pos c] at ok
    split
    ·rename_i c2;rw [if_pos c2] at ok;simp at ok
    ·rfl
   ·rename_i c;rw [if_neg c] at ok;simp at ok
  rw [e1,Cl hg];obtain ⟨y,hy⟩:∃ y,({ ({ aa s g with res:={ (aa s g).res with code:=6 } }:Gr) with k:=(({ aa s g with res:={ (aa s g).res with code:=6 } }:Gr).aF.length:Int),place:=30 }:Gr)=y:=⟨_,rfl⟩
  rw [hy];have hk:jG (aa s g) y:=by rw [← hy];exact ⟨rfl,rfl,rfl,rfl,rfl,rfl,rfl,rfl,rfl⟩
  have ys:y.ax=(aa s g).ax∧y.ak=(aa s g).ak∧y.res.code=6∧y.place=30∧y.k=(aa s g).aF.length:=by rw [← hy];exact ⟨rfl,rfl,rfl,rfl,rfl⟩
  clear hy;have ei:SE y:=hk.se.2 kx;have pU:gN s.au.length s.aB.length y:=by
   have ho:=hk.aH;have hc:=hk.ch;have o1:=b.o1;have pl:=ys.2.2.2.1
   constructor
   ·rw [hk.order,hk.aF,ho];simp only [hc];exact o1
   ·rw [hk.order];exact b.o2
   ·rw [hk.order];exact b.o3
   ·rw [hk.aF];exact b.l1
   ·rw [hk.aF];exact b.l2
   ·rw [hk.aF];exact l3
   ·omega
   ·intro c;omega
   ·intro c;omega
   ·rw [hk.aF];intro c;omega
   ·intro c;omega
   ·intro c;omega
   ·intro _;rw [ys.1,ho];exact .inl s2
   ·rw [ys.1,hk.order];exact s4
   ·intro c;omega
   ·intro c;omega
   ·intro c;omega
   ·intro c;omega
   ·intro c;omega
   ·intro c;omega
  refine h.self hg ⟨L.mZ kx (by omega) hk.ops hk.at_ (by rw [hk.status];exact st) (by rw [hk.token];exact tk) (by rw [hk.param];exact pm) (by omega) (by rw [ys.2.1,eB];simp) (by rw [ys.2.1,eB];simp) (by rw [ys.2.1,eB];simp) (by omega) h.jg pU,?_,vF kx ei (by omega) (by omega) ys.1,fun i d _ m=>hk.mt kx ys.1 m,fun i j w=>absurd w (nq i j),by unfold c7;omega,fun q=>by rw [ys.2.1];exact id,fun w=>absurd w.1 nw,fun w=>absurd w.1 nw⟩ hk.at_ (fun w=>by unfold cQ at w;omega);intro ch;rw [nj ei (by unfold kq;rw [hk.aF];omega),nj kx (by unfold kq;omega),hk.aF]
end Sx
namespace Sx
variable {s t:ah} {g:Nat} {nc ns n:Int} {x y:Gr}
theorem MInv.zU (h:MInv s) (hg:g < s.gs.length) (k:(ag s g).kind=9) (px:28≤(aa s g).place∧(aa s g).place≤34∨(aa s g).place=13∨(aa s g).place=14) {i:Int} (i0:0≤i) (i1:i < (aa s g).ax.length) (v0:0≤aE (aa s g).ax i) :
  Own (aa s g) (aE (aa s g).ax i)∧aE (aa s g).ax i < s.aB.length∧(su s (aE (aa s g).ax i)).g=g∧(su s (aE (aa s g).ax i)).cs=i∧(su s (aE (aa s g).ax i)).ch=bU (aa s g) i∧(su s (aE (aa s g).ax i)).send=(cD (ag s g) i).send∧Match (aa s g) (aE (aa s g).ax i) (su s (aE (aa s g).ax i)):=by
 have kx:SE (aa s g):=k;have w:Own (aa s g) (aE (aa s g).ax i):=⟨v0,.inr ⟨kx,px,oL.2 ⟨i,i0,i1,rfl⟩⟩⟩
 have hO:=Inv.own h.v (g:Int) (by omega) (by omega) _ (by rw [fz];exact w);rw [fz] at hO;rcases hO.2.1 with m | m
 ·exact absurd kx m.1.ne
 ·have m':=m;obtain ⟨_,m1,m2,m3,m4,m5,m6,m7⟩:=m;have e:=m7 i i0 i1 rfl;rw [← e] at m4 m5;exact ⟨w,hO.1,hO.2.2.1,e.symm,m4,m5,.inr m'⟩
theorem MInv.mj (h:MInv s) (hg:g < s.gs.length) (st:(aa s g).status=0) (k:(ag s g).kind=9) (e:(aa s g).place=29):MInv (mj s g (ag s g)):=by
 have L:=h.loc hg;have kx:SE (aa s g):=k;have b:=h.ko hg k (by unfold dV;omega);have eB:=h.qR hg (by omega);have nw:¬ Wt (aa s g):=oK (by omega);obtain ⟨pm,tk⟩:=L.vz nw;have dN:=b.hand (by omega);have k2:=b.k2 (by omega);have k0:=b.k0;have s2:=b.s2 (by omega);have s4:=b.s4;have s6:=b.s6 (by omega);have cc:=b.c1 (by omega);have l3:=b.l3;have eA:=fz s g;have tX:=zS k0 k2;unfold Sx.mj;simp only;have rB:(cD (ag s g) (aE (aa s g).order (aa s g).k)).ch=bU (aa s g) (aE (aa s g).order (aa s g).k):=rfl;rw [rB];generalize hi:aE (aa s g).order (aa s g).k=i at *;have lu:i < ((aa s g).ax.length:Int):=by rw [s2];exact dN.2.2.1
 have v0:=s6 i dN.1;obtain ⟨w,w1,w2,w3,w4,w5,w6⟩:=h.zU hg k (by omega) dN.2.1 lu v0;generalize hv:aE (aa s g).ax i=v at *;have fin:∀ (c':Cn) (y:Gr),jG (aa s g) y→y.ax=(aa s g).ax→y.ak=(aa s g).ak→y.res.code=(aa s g).res.code→(y.place=29∧y.k=(aa s g).k + 1∧(aa s g).k + 1 < (aa s g).order.length∨y.place=30∧y.k=(aa s g).aF.length∧(aa s g).k + 1=(aa s g).order.length) →
   c'.lock=(cn s (bU (aa s g) i)).lock→c'.cap=(cn s (bU (aa s g) i)).cap→c'.buf=(cn s (bU (aa s g) i)).buf→(c'.recv=if (su s v).send=true then (cn s (bU (aa s g) i)).recv else (cn s (bU (aa s g) i)).recv ++ [v])→(c'.send=if (su s v).send=true then (cn s (bU (aa s g) i)).send ++ [v] else (cn s (bU (aa s g) i)).send) →
   MInv (ai (aA s (bU (aa s g) i) c') g y):=by
  intro c' y hk jW sO Cm hp e1 e2 e3 er es;have ei:SE y:=hk.se.2 kx;have pU:gN s.au.length s.aB.length y:=by
   have ho:=hk.aH;have hc:=hk.ch;have o1:=b.o1
   constructor
   ·rw [hk.order,hk.aF,ho];simp only [hc];exact o1
   ·rw [hk.order];exact b.o2
   ·rw [hk.order];exact b.o3
   ·rw [hk.aF];exact b.l1
   ·rw [hk.aF];exact b.l2
   ·rw [hk.aF];exact l3
   ·omega
   ·intro c;omega
   ·rw [hk.order];intro c;omega
   ·rw [hk.aF];intro c;omega
   ·intro c;omega
   ·intro _;rw [jW,ho];exact s2
   ·intro _;rw [jW,ho];exact .inl s2
   ·rw [jW,hk.order];exact s4
   ·intro c;omega
   ·rw [jW,hk.order];intro _;exact s6
   ·intro c;omega
   ·intro _;rw [Cm];exact cc
   ·intro c;omega
   ·intro c;omega
  have hold:∀ ch,bH y ch↔bH (aa s g) ch:=by
   intro ch;rw [nj ei (by unfold kq;rw [hk.aF];omega),nj kx (by unfold kq;omega),hk.aF]
  have r:Rest s (ai (aA s (bU (aa s g) i) c') g y):=(Rest.dQ s _ c').trans (Rest.dK _ hg hk.at_);refine h.rest r (V.of r (Inv.push h.v (g:=g) (i:=v) (x:=y) (c:=bU (aa s g) i) (c':=c') (by omega) (by omega) (by rw [eA];exact w) dN.2.2.2.2.1 dN.2.2.2.2.2 w4 (L.mZ kx (by omega) hk.ops hk.at_ (by rw [hk.status];exact st) (by rw [hk.token];exact tk) (by rw [hk.param];exact pm) (by omega) (by rw [sO,eB];simp) (by rw [sO,eB];simp) (by rw [sO,eB];simp) (by omega) h.jg pU) ?_ ?_ ?_ ?_ ?_ ?_ ?_ ?_ ?_ ?_ e1 e2 e3 er es) (fun j j0=>sD hg rfl j j0) (fun ch q=>m8 dN.2.2.2.2.1 dN.2.2.2.2.2 rfl ch q) (fun _ _=>rfl))
  ·intro ch;rw [eA];exact hold ch
  ·intro j;rw [eA];exact vF kx ei (by omega) (by omega) jW j
  ·intro j q;have q2:=(vF kx ei (by omega) (by omega) jW j).1 q;have hO:=Inv.own h.v (g:Int) (by omega) (by omega) j (by rw [eA];exact q2);rw [eA] at hO;exact hk.mt kx jW hO.2.1
  ·rw [eA,w3]
   rintro (q | q)
   ·exact q.1.ne kx
   ·have q5:=q.2.2.2.2;have:i∈(aa s g).order.take (aa s g).k.toNat:=by
     rcases q5 with z | z | z | z | z | z
     ·exact z.2
     all_goals omega
    have nd:=b.o2;rw [← List.take_append_drop (aa s g).k.toNat (aa s g).order,Ci k0 k2,hi] at nd;exact (List.nodup_append.1 nd).2.2 i this i (by simp) rfl
  ·rw [eA];intro j l q;rcases q with q | q
   ·exact absurd kx q.1.ne
   ·obtain ⟨q1,q2,q3,q4,q5⟩:=q;refine .inr ⟨ei,q2,by rw [jW];exact q3,by rw [jW];exact q4,?_⟩;have q6:l∈(aa s g).order.take (aa s g).k.toNat:=by
     rcases q5 with z | z | z | z | z | z
     ·exact z.2
     all_goals omega
    rcases hp with hp | hp
    ·refine .inl ⟨hp.1,?_⟩;rw [hk.order,hp.2.1,tX];exact List.mem_append_left _ q6
    ·exact .inr (.inr (.inr (.inr (.inl ⟨hp.1,by rw [Cm];exact cc⟩))))
  ·rw [w3];refine .inr ⟨ei,dN.2.1,by rw [jW];exact lu,by rw [jW];exact hv,?_⟩;rcases hp with hp | hp
   ·refine .inl ⟨hp.1,?_⟩;rw [hk.order,hp.2.1,tX];simp
   ·exact .inr (.inr (.inr (.inr (.inl ⟨hp.1,by rw [Cm];exact cc⟩))))
  ·unfold cQ;omega
  ·unfold c7;omega
  ·rw [eA];exact sO
  ·rw [eA];exact nw
 obtain ⟨c',vH⟩:∃ c',(if (cD (ag s g) i).send=true then { cn s (bU (aa s g) i) with send:=(cn s (bU (aa s g) i)).send ++ [v] } else { cn s (bU (aa s g) i) with recv:=(cn s (bU (aa s g) i)).recv ++ [v] })=c':=⟨_,rfl⟩
 rw [vH];have c1:c'.lock=(cn s (bU (aa s g) i)).lock:=by rw [← vH];split <;> rfl
 have c2:c'.cap=(cn s (bU (aa s g) i)).cap:=by rw [← vH];split <;> rfl
 have c3:c'.buf=(cn s (bU (aa s g) i)).buf:=by rw [← vH];split <;> rfl
 have c4:c'.recv=if (su s v).send=true then (cn s (bU (aa s g) i)).recv else (cn s (bU (aa s g) i)).recv ++ [v]:=by rw [← vH,w5];split <;> rfl
 have c5:c'.send=if (su s v).send=true then (cn s (bU (aa s g) i)).send ++ [v] else (cn s (bU (aa s g) i)).send:=by rw [← vH,w5];split <;> rfl
 clear vH;have fY:g < (aA s (bU (aa s g) i) c').gs.length:=hg
 by_cases c:(aa s g).k + 1 < (aa s g).order.length
 ·rw [if_pos c,Gl fY];have g0:aa (aA s (bU (aa s g) i) c') g=aa s g:=rfl;rw [g0,az];exact fin c' _ ⟨rfl,rfl,rfl,rfl,rfl,rfl,rfl,rfl,rfl⟩ rfl rfl rfl (.inl ⟨e,rfl,c⟩) c1 c2 c3 c4 c5
 ·rw [if_neg c,Cl fY];exact fin c' _ ⟨rfl,rfl,rfl,rfl,rfl,rfl,rfl,rfl,rfl⟩ rfl rfl rfl (.inr ⟨rfl,rfl,by omega⟩) c1 c2 c3 c4 c5
end Sx
namespace Sx
variable {s t:ah} {g:Nat} {nc ns n:Int} {x y:Gr}
theorem MInv.Wd (h:MInv s) (hg:g < s.gs.length) (st:(aa s g).status=0) (k:(ag s g).kind=9) (e:(aa s g).place=14):MInv (mq s g):=by
 have L:=h.loc hg;have kx:SE (aa s g):=k;have b:=h.ko hg k (by unfold dV;omega);have eB:=h.qR hg (by omega);have pm:=L.p1 e st;have pk:=L.p3 pm kx;have s2:=b.s2 (by omega);have s4:=b.s4;have s6:=b.s6 (by omega);have l3:=b.l3;have tk:(aa s g).token=false:=by
  cases c:(aa s g).token
  ·rfl
  ·exact absurd e (L.tk c).2.2
 unfold mq;simp only;obtain ⟨r,hr⟩:∃ r,(if (su s (aa s g).param).send=true∧(su s (aa s g).param).done=true then ({ (if (su s (aa s g).param).done=true then ({ cZ (su s (aa s g).param).v true with cs:=(su s (aa s g).param).cs }:Md.an) else { cZ 0 false with cs:=(su s (aa s g).param).cs }) with v:=0 }:Md.an) else if (su s (aa s g).param).send=true then ⟨3,(su s (aa s g).param).cs,0,false,0⟩ else (if (su s (aa s g).param).done=true then ({ cZ (su s (aa s g).param).v true with cs:=(su s (aa s g).param).cs }:Md.an) else { cZ 0 false with cs:=(su s (aa s g).param).cs }))=r:=⟨_,rfl⟩
 rw [hr];clear hr;obtain ⟨y,hy⟩:∃ y,({ aa s g with res:=r,param:=-1,k:=0,place:=31 }:Gr)=y:=⟨_,rfl⟩
 rw [hy];have y1:y.ops=(aa s g).ops∧y.at_=(aa s g).at_∧y.status=(aa s g).status∧y.token=(aa s g).token∧y.aU=(aa s g).aU∧y.param=-1∧y.order=(aa s g).order∧y.aF=(aa s g).aF∧y.ax=(aa s g).ax∧y.ak=(aa s g).ak∧y.k=0∧y.place=31:=by
  rw [← hy];exact ⟨rfl,rfl,rfl,rfl,rfl,rfl,rfl,rfl,rfl,rfl,rfl,rfl⟩
 clear hy;obtain ⟨z1,z2,z3,z4,z5,z6,z7,z8,z9,Co,We,Wf⟩:=y1;have ho:aH y=aH (aa s g):=by unfold aH;rw [z1,z2]
 have hc:∀ j,bU y j=bU (aa s g) j:=fun j=>by unfold bU;rw [ho]
 have ei:SE y:=by unfold SE;rw [ho];exact kx
 have o1:=b.o1;have pU:gN s.au.length s.aB.length y:=by
  constructor
  ·rw [z7,z8,ho];simp only [hc];exact o1
  ·rw [z7];exact b.o2
  ·rw [z7];exact b.o3
  ·rw [z8];exact b.l1
  ·rw [z8];exact b.l2
  ·rw [z8];exact l3
  ·omega
  ·rw [z8];intro c;omega
  ·intro c;omega
  ·intro c;omega
  ·intro c;omega
  ·intro _;rw [z9,ho];exact s2
  ·intro c;omega
  ·rw [z9,z7];exact s4
  ·intro c;omega
  ·rw [z9,z7];intro _;exact s6
  ·intro c;omega
  ·intro c;omega
  ·intro _;rw [z5];exact pk
  ·intro c;omega
 have Cp:∀ ch,¬ bH (aa s g) ch:=by
  intro ch w;rw [vD kx] at w;omega
 have Cq:∀ ch,¬ bH y ch:=by
  intro ch w;rw [vD ei] at w;rcases w with w | w
  ·omega
  ·rw [We] at w;simp at w
 refine h.self hg ⟨L.mZ kx (by omega) z1 z2 (by rw [z3];exact st) (by rw [z4];exact tk) z6 (by omega) (by rw [Co,eB];simp) (by rw [Co,eB];simp) (by rw [Co,eB];simp) (by omega) h.jg pU,fun ch=>⟨fun w=>absurd w (Cq ch),fun w=>absurd w (Cp ch)⟩,vF kx ei (by omega) (by omega) z9,?_,?_,by unfold c7;omega,fun q=>by rw [Co];exact id,fun w=>absurd st (w.2.2.2 e),fun w=>by have:=w.2.1;omega⟩ z2 (fun w=>by unfold cQ at w;omega)
 ·intro i d _ m;rcases m with m | m
  ·exact absurd kx m.1.ne
  ·exact .inr ⟨ei,by rw [z9,ho,z7,hc];exact m.2⟩
 ·intro i j q;rcases q with q | q
  ·exact absurd kx q.1.ne
  ·exact .inr ⟨ei,q.2.1,by rw [z9];exact q.2.2.1,by rw [z9];exact q.2.2.2.1,.inr (.inr (.inr (.inl Wf)))⟩
theorem Cr {s:ah} {g:Nat} (hg:g < s.gs.length):(dy s g).1=ai (aA s (aE (aa s g).aF ((aa s g).k - 1)) { cn s (aE (aa s g).aF ((aa s g).k - 1)) with lock:=-1 }) g { aa s g with k:=(aa s g).k - 1 }:=rfl
structure Gp (nc ns n:Int) (x y:Gr):Prop where
 kp:jG x y
 ax:y.ax=x.ax
 ak:y.ak=x.ak
 code:y.res.code=x.res.code
 k:y.k=x.k - 1
 hp:(x.place=30∨x.place=33)∧y.place=x.place∧1≤y.k∨x.place=30∧x.res.code=0∧y.place=13∧y.k=0∨(x.place=33∨x.place=30∧x.res.code≠0∧x.ax≠[])∧y.place=34∧y.k=0 ∨
  x.place=30∧x.res.code≠0∧(∀ i∈x.ax,i < 0)∧y.k=0∧(y.place=17∧x.ak≠[]∨y.place=18∧x.ak=[])
end Sx
end Go.Proofs.YtdjhhbpedllnhaaGreat
