/-
  What the laws need, part A21.
  Conditions: none.
-/
import Derived.Test.YtdjhhbpedllnhaaGreatA20
set_option linter.unusedVariables false
set_option linter.unusedSimpArgs false
set_option linter.unnecessarySimpa false
set_option maxHeartbeats 2000000
namespace Go.Proofs.YtdjhhbpedllnhaaGreat
namespace Sx
variable {s t:ah} {g:Nat} {nc ns n:Int} {x y:Gr}
theorem Gp.mZ (f:Gp nc ns n x y) (b:gN nc ns x) (e:dV y.place):gN nc ns y:=by
 have h:=f.kp;have hp:=f.hp;have fk:=f.k;have ho:=h.aH;have hc:=h.ch;have o1:=b.o1;have l3:=b.l3;have o3:=b.o3;have k0:=b.k0;have k3:1≤x.k∧x.k≤x.aF.length:=b.k3 (by omega);have mg:y.place=x.place∧1≤y.k∧(x.place=30∨x.place=33)∨y.place=13∧x.place=30∧x.res.code=0∨y.place=34∧y.k=0:=by unfold dV at e;omega
 constructor
 ·rw [h.order,h.aF,ho];simp only [hc];exact o1
 ·rw [h.order];exact b.o2
 ·rw [h.order];exact o3
 ·rw [h.aF];exact b.l1
 ·rw [h.aF];exact b.l2
 ·rw [h.aF];exact l3
 ·omega
 ·intro c;omega
 ·rw [h.order];intro c;omega
 ·rw [h.aF];intro c;omega
 ·intro c;omega
 ·rw [f.ax,ho];intro c;rcases hp with w | w | w | w
  ·exact b.s2 (by omega)
  ·rcases b.s3 w.1 with z | z
   ·exact z
   ·exact absurd w.2.1 z.2
  ·rcases w.1 with q | q
   ·exact b.s2 (by omega)
   ·rcases b.s3 q.1 with z | z
    ·exact z
    ·exact absurd z.1 q.2.2
  ·omega
 ·rw [f.ax,ho,f.code];intro c;exact b.s3 (by omega)
 ·rw [f.ax,h.order];exact b.s4
 ·intro c;omega
 ·rw [f.ax,h.order,f.code];intro c;exact b.s6 (by omega)
 ·intro c j hj;rw [show y.k=0 by omega] at hj;simp at hj
 ·rw [f.code];intro c;rcases hp with w | w | w | w
  ·omega
  ·exact w.2.1
  ·omega
  ·omega
 ·rw [h.aU];intro c;exact b.c2 (by omega)
 ·intro c;omega
end Sx
namespace Sx
variable {s t:ah} {g:Nat} {nc ns n:Int} {x y:Gr}
theorem Loc.fin (L:Loc nc ns n x) (hs:SE x) (xp:x.place≠0) (h1:y.ops=x.ops) (h2:y.at_=x.at_) (st:y.status=0) (tk:y.token=false) (pm:y.param=-1) (hp:y.place=17∧y.ak≠[]∨y.place=18∧y.ak=[]) (w3:∀ p∈y.ak,0≤p∧p < n) (w4:y.ak.Nodup) (ua:0≤ns):Loc nc ns n y:=by
 have ho:aH y=aH x:=by unfold aH;rw [h1,h2]
 have iC:=L.iC;have pl:=L.pl.resolve_left xp;have hk:(aH x).kind=9:=hs;have yp:y.place=17∨y.place=18:=by omega
 constructor
 ·rw [h1];exact L.oI
 ·rw [h1];exact iC
 ·rw [h2];exact L.a0
 ·rw [h1,h2];exact L.a1
 ·rw [h1,h2,ho];exact .inr ⟨pl.1,by unfold bJ;omega⟩
 ·rw [ho];intro _ _ _ _ _;omega
 ·exact .inl st
 ·intro c;omega
 ·intro c;omega
 ·intro c;omega
 ·rw [tk];simp
 ·intro c;rcases hp with w | w
  ·exact .inr (.inl w.1)
  ·exact absurd w.2 c
 ·intro c;rcases hp with w | w
  ·exact w.2
  ·omega
 ·exact w3
 ·exact w4
 ·intro c;omega
 ·intro _ c d;omega
 ·rw [pm];omega
 ·intro c;omega
 ·rw [pm];intro c;exact absurd c (by decide)
 ·rw [pm];intro c;exact absurd c (by decide)
 ·intro _ c;unfold dV at c;omega
theorem Loc.waits (L:Loc nc ns n x) (hs:SE x) (e:x.place=30) (ec:x.res.code=0) (h:jG x y) (eg:y.ax=x.ax) (ew:y.ak=x.ak) (eco:y.res.code=x.res.code) (yp:y.place=30∨y.place=13) (st:x.status=0) (ys:gN nc ns y):Loc nc ns n y:=by
 have ho:=h.aH;have iC:=L.iC;have pl:=L.pl.resolve_left (by omega);have hk:(aH x).kind=9:=hs;have hy:SE y:=h.se.2 hs;have wy:Wt y:=.inr ⟨hy,by omega⟩;have eB:x.ak=[]:=by
  by_cases w:x.ak=[]
  ·exact w
  ·have:=L.w1 w;omega
 constructor
 ·rw [h.ops];exact L.oI
 ·rw [h.ops];exact iC
 ·rw [h.at_];exact L.a0
 ·rw [h.ops,h.at_];exact L.a1
 ·rw [h.ops,h.at_,ho];exact .inr ⟨pl.1,by unfold bJ;omega⟩
 ·rw [ho];intro _ _ _ _ _;omega
 ·rw [h.status];exact .inl st
 ·rw [h.status];intro c;omega
 ·intro c;omega
 ·rw [h.status];intro c;omega
 ·rw [h.token,h.param];intro c;exact ⟨wy,(L.tk c).2.1,by omega⟩
 ·rw [ew,eB];simp
 ·intro c;omega
 ·rw [ew,eB];simp
 ·rw [ew,eB];simp
 ·intro c;omega
 ·intro c;exact absurd hy c.ne
 ·rw [h.param];exact L.p0
 ·intro c;omega
 ·rw [h.param];intro c;exact ⟨wy,(vF hs hy (by omega) (by omega) eg _).2 (L.p2 c).2⟩
 ·rw [h.param,h.aU];intro c _;exact L.p3 c hs
 ·intro _ _;exact ys
theorem MInv.vI (h:MInv s) (hg:g < s.gs.length) (st:(aa s g).status=0) (k:(ag s g).kind=9) (e:(aa s g).place=30∨(aa s g).place=33) {y:Gr} (f:Gp s.au.length s.aB.length s.gs.length (aa s g) y):MInv (ai (aA s (aE (aa s g).aF ((aa s g).k - 1)) { cn s (aE (aa s g).aF ((aa s g).k - 1)) with lock:=-1 }) g y):=by
 have L:=h.loc hg;have kx:SE (aa s g):=k;have ei:SE y:=f.kp.se.2 kx;have b:=h.ko hg k (by unfold dV;omega);have k3:=b.k3 e;have hm:=rR (l:=(aa s g).aF) (k:=(aa s g).k - 1) (by omega) (by omega);have sL:=b.l1 _ hm;have hp:=f.hp;have fk:=f.k;have hk:=f.kp;have ey:dV y.place∨y.place=17∨y.place=18:=by unfold dV;omega
 have Ct:=zS (l:=(aa s g).aF) (k:=(aa s g).k - 1) (by omega) (by omega);have Wg:(aa s g).k - 1 + 1=(aa s g).k:=by omega
 rw [Wg] at Ct;have Gg:aE (aa s g).aF ((aa s g).k - 1)∉(aa s g).aF.take ((aa s g).k - 1).toNat:=by
  intro w;have l2:=b.l2;rw [← List.take_append_drop (aa s g).k.toNat (aa s g).aF,Ct] at l2;have:=(List.pairwise_append.1 (List.pairwise_append.1 l2).1).2.2 _ w _ (List.mem_singleton.2 rfl);omega
 have MP:∀ ch,bH (aa s g) ch↔ch∈(aa s g).aF.take (aa s g).k.toNat:=by
  intro ch;rw [vD kx]
  constructor
  ·rintro (w | w)
   ·omega
   ·exact w.2
  ·intro w;exact .inr ⟨by omega,w⟩
 have Wh:∀ ch,bH y ch↔ch∈(aa s g).aF.take ((aa s g).k - 1).toNat:=by
  intro ch;rw [vD ei,hk.aF,fk]
  constructor
  ·rintro (w | w)
   ·exfalso;omega
   ·exact w.2
  ·intro w;refine .inr ⟨?_,w⟩
   by_cases z:(aa s g).k - 1=0
   ·rw [z] at w;simp at w
   ·omega
 have wkx:(aa s g).place=33→(aa s g).ak=[]:=fun c=>h.qR hg (by omega)
 have lO:(aa s g).place=33∨(aa s g).res.code≠0→¬ Wt (aa s g):=fun c=>oK (by omega)
 have lx:Loc s.au.length s.aB.length s.gs.length y:=by
  by_cases cw:(aa s g).place=30∧(aa s g).res.code=0
  ·exact L.waits kx cw.1 cw.2 hk f.ax f.ak f.code (by omega) st (f.mZ b (by unfold dV;omega))
  ·have nw:=lO (by omega);obtain ⟨pm,tk⟩:=L.vz nw;rcases ey with c | c
   ·have Wi:=f.mZ b c;refine L.mZ kx (by omega) hk.ops hk.at_ (by rw [hk.status];exact st) (by rw [hk.token];exact tk) (by rw [hk.param];exact pm) (by unfold dV at c;omega) ?_ (by rw [f.ak];exact L.w3) (by rw [f.ak];exact L.w4) (by omega) h.jg Wi;rw [f.ak,f.code];intro w;have:=L.w1 w;have z:y.place=(aa s g).place∨y.place=13∧(aa s g).place=30∧(aa s g).res.code=0∨y.place=34:=by
     rcases hp with q | q | q | q
     ·exact .inl q.2.1
     ·exact .inr (.inl ⟨q.2.2.1,q.1,q.2.1⟩)
     ·exact .inr (.inr q.2.1)
     ·exfalso;unfold dV at c;omega
    omega
   ·refine L.fin kx (by omega) hk.ops hk.at_ (by rw [hk.status];exact st) (by rw [hk.token];exact tk) (by rw [hk.param];exact pm) ?_ (by rw [f.ak];exact L.w3) (by rw [f.ak];exact L.w4) h.jg;rw [f.ak];rcases hp with w | w | w | w
    ·omega
    ·omega
    ·omega
    ·exact w.2.2.2.2
 have ow:∀ i,Own y i↔Own (aa s g) i:=by
  intro i;rcases ey with c | c
  ·exact vF kx ei (by omega) (by unfold dV at c;omega) f.ax i
  ·constructor
   ·rintro ⟨_,w | w⟩
    ·exact absurd ei w.1.ne
    ·have:=w.2.1;omega
   ·rintro ⟨i0,w | w⟩
    ·exact absurd kx w.1.ne
    ·rcases hp with q | q | q | q
     ·omega
     ·omega
     ·omega
     ·have:=q.2.2.1 i w.2.2;omega
 refine h.chan hg sL.1 sL.2 lx ⟨.inr (.inr ⟨(MP _).2 (by rw [Ct];simp),rfl,fun ch=>?_⟩),h.g9 sL.1 sL.2,⟨List.Sublist.refl _,List.Sublist.refl _⟩,.inl ⟨rfl,rfl⟩⟩ ow (fun i d _ m=>hk.mt kx f.ax m) ?_ ?_ ?_ (fun q=>by rw [f.ak];exact id) ?_ ?_ hk.at_
 ·rw [MP,Wh,Ct,List.mem_append,List.mem_singleton]
  constructor
  ·intro w;exact ⟨.inl w,fun z=>Gg (z ▸ w)⟩
  ·rintro ⟨w | w,w2⟩
   ·exact w
   ·exact absurd w w2
 ·intro i j q ch _ _ _;rcases q with q | q
  ·exact absurd kx q.1.ne
  ·obtain ⟨q1,q2,q3,q4,q5⟩:=q;refine .inr ⟨ei,q2,by rw [f.ax];exact q3,by rw [f.ax];exact q4,?_⟩;have c:(aa s g).place=30∧(aa s g).res.code=0:=by omega
   rcases hp with w | w | w | w
   ·exact .inr (.inr (.inr (.inr (.inl ⟨by omega,by rw [f.code];exact c.2⟩))))
   ·exact .inr (.inl w.2.2.1)
   ·omega
   ·omega
 ·unfold cQ;unfold dV at ey;omega
 ·unfold c7;unfold dV at ey;omega
 ·rintro ⟨w1,w2,w3,w4⟩
  have c:(aa s g).place=30∧(aa s g).res.code=0:=by
   by_cases z:(aa s g).place=30∧(aa s g).res.code=0
   ·exact z
   ·exact absurd w1 (lO (by omega))
  refine ⟨.inr ⟨ei,?_⟩,by rw [hk.param];exact w2,by rw [hk.token];exact w3,by intro z;omega⟩;have:y.place=30∨y.place=13:=by omega
  rcases this with z | z
  ·exact .inr (.inr ⟨z,by rw [f.code];exact c.2⟩)
  ·exact .inl z
 ·rintro ⟨w1,w2,w3⟩
  have c:(aa s g).place=30∧(aa s g).res.code=0:=by
   by_cases z:(aa s g).place=30∧(aa s g).res.code=0
   ·exact z
   ·exact absurd w1 (lO (by omega))
  refine ⟨⟨.inr ⟨ei,?_⟩,by rw [hk.param];exact w2,fun _=>by rw [hk.aU];exact w3 kx⟩,fun z=>absurd ei z.ne⟩;have:y.place=30∨y.place=13:=by omega
  rcases this with z | z
  ·exact .inr (.inr ⟨z,by rw [f.code];exact c.2⟩)
  ·exact .inl z
theorem Wj {s:ah} {g:Nat} (hg:g < s.gs.length):aa (dy s g).1 g={ aa s g with k:=(aa s g).k - 1 }:=by
 rw [Cr hg,fj (by exact hg),if_pos rfl]
theorem zV {s:ah} {g:Nat} {p:Int} (hg:g < s.gs.length):aG (dy s g).1 g p=ai (aA s (aE (aa s g).aF ((aa s g).k - 1)) { cn s (aE (aa s g).aF ((aa s g).k - 1)) with lock:=-1 }) g { aa s g with k:=(aa s g).k - 1,place:=p }:=by
 rw [Cr hg,mz _ _ _ _ (by exact hg)]
theorem MQ {l:List Int} (h:¬ oh l=true):∀ i∈l,i < 0:=by
 intro i hi;unfold oh at h
 by_cases c:0≤i
 ·exact absurd (List.any_eq_true.2 ⟨i,hi,by simpa using c⟩) h
 ·omega
theorem Wk {l:List Int} (h:oh l=true):l≠[]:=by
 intro c;rw [c] at h;simp [oh] at h
theorem MInv.Wl (h:MInv s) (hg:g < s.gs.length) (st:(aa s g).status=0) (k:(ag s g).kind=9) (e:(aa s g).place=30) :
  MInv (if (dy s g).2=true then (dy s g).1 else if (aa s g).res.code=0 then aG (dy s g).1 g 13 else if oh (aa s g).ax=true then aG (dy s g).1 g 34 else ak (dy s g).1 g):=by
 have b:=h.ko hg k (by unfold dV;omega);have k3:=b.k3 (by omega);have e2:(dy s g).2=decide (0 < (aa s g).k - 1):=rfl;have kp:∀ (kk p:Int),jG (aa s g) { aa s g with k:=kk,place:=p }:=fun _ _=>⟨rfl,rfl,rfl,rfl,rfl,rfl,rfl,rfl,rfl⟩
 rw [e2]
 split
 ·rename_i c;have c:0 < (aa s g).k - 1:=by simpa using c
  rw [Cr hg];exact h.vI hg st k (by omega) (y:={ aa s g with k:=(aa s g).k - 1 }) ⟨kp _ (aa s g).place,rfl,rfl,rfl,rfl,.inl ⟨.inl e,rfl,by simp only;omega⟩⟩
 rename_i c;have c:¬ 0 < (aa s g).k - 1:=by simpa using c
 split
 ·rename_i c2;rw [zV hg];exact h.vI hg st k (by omega) ⟨kp _ _,rfl,rfl,rfl,rfl,.inr (.inl ⟨e,c2,rfl,by simp only;omega⟩)⟩
 rename_i c2
 split
 ·rename_i c3;rw [zV hg];exact h.vI hg st k (by omega) ⟨kp _ _,rfl,rfl,rfl,rfl,.inr (.inr (.inl ⟨.inr ⟨e,c2,Wk c3⟩,rfl,by simp only;omega⟩))⟩
 rename_i c3;unfold ak;rw [Wj hg]
 split
 ·rename_i c4;rw [zV hg];exact h.vI hg st k (by omega) ⟨kp _ _,rfl,rfl,rfl,rfl,.inr (.inr (.inr ⟨e,c2,MQ c3,by simp only;omega,.inl ⟨rfl,List.length_pos_iff.1 c4⟩⟩))⟩
 ·rename_i c4;rw [zV hg];exact h.vI hg st k (by omega) ⟨kp _ _,rfl,rfl,rfl,rfl,.inr (.inr (.inr ⟨e,c2,MQ c3,by simp only;omega,.inr ⟨rfl,List.length_eq_zero_iff.1 (by simp only at c4;omega)⟩⟩))⟩
theorem MInv.Wm (h:MInv s) (hg:g < s.gs.length) (st:(aa s g).status=0) (k:(ag s g).kind=9) (e:(aa s g).place=33):MInv (if (dy s g).2=true then (dy s g).1 else aG (dy s g).1 g 34):=by
 have b:=h.ko hg k (by unfold dV;omega);have k3:=b.k3 (by omega);have e2:(dy s g).2=decide (0 < (aa s g).k - 1):=rfl;have kp:∀ (kk p:Int),jG (aa s g) { aa s g with k:=kk,place:=p }:=fun _ _=>⟨rfl,rfl,rfl,rfl,rfl,rfl,rfl,rfl,rfl⟩
 rw [e2]
 split
 ·rename_i c;have c:0 < (aa s g).k - 1:=by simpa using c
  rw [Cr hg];exact h.vI hg st k (by omega) (y:={ aa s g with k:=(aa s g).k - 1 }) ⟨kp _ (aa s g).place,rfl,rfl,rfl,rfl,.inl ⟨.inr e,rfl,by simp only;omega⟩⟩
 ·rename_i c;have c:¬ 0 < (aa s g).k - 1:=by simpa using c
  rw [zV hg];exact h.vI hg st k (by omega) ⟨kp _ _,rfl,rfl,rfl,rfl,.inr (.inr (.inl ⟨.inl e,rfl,by simp only;omega⟩))⟩
end Sx
namespace Sx
variable {s t:ah} {g:Nat} {nc ns n:Int} {x y:Gr}
theorem MInv.mu (h:MInv s) (hg:g < s.gs.length) (st:(aa s g).status=0) (k:(ag s g).kind=9) (e:(aa s g).place=32):MInv (mu s g):=by
 have L:=h.loc hg;have kx:SE (aa s g):=k;have b:=h.ko hg k (by unfold dV;omega);have eB:=h.qR hg (by omega);have nw:¬ Wt (aa s g):=oK (by omega);obtain ⟨pm,tk⟩:=L.vz nw;have dN:=b.hand (by omega);have k2:=b.k2 (by omega);have k0:=b.k0;have s2:=b.s2 (by omega);have s6:=b.s6 (by omega);have l3:=b.l3;have pk:=b.c2 (by omega);have kT:=Ci k0 k2;unfold Sx.mu;simp only;generalize hi:aE (aa s g).order (aa s g).k=i at *;have lu:i < ((aa s g).ax.length:Int):=by rw [s2];exact dN.2.2.1
 have v0:=s6 i dN.1;obtain ⟨w,w1,w2,w3,w4,w5,w6⟩:=h.zU hg k (by omega) dN.2.1 lu v0;generalize hv:aE (aa s g).ax i=v at *;rw [drop_eq w4 dN.2.2.2.2.1 dN.2.2.2.2.2];have fin:∀ (y:Gr),jG (aa s g) y→y.ax=(aa s g).ax→y.ak=(aa s g).ak→y.res.code=(aa s g).res.code→(y.place=32∧y.k=(aa s g).k + 1∧(aa s g).k + 1 < (aa s g).order.length∨y.place=33∧y.k=(aa s g).aF.length∧(aa s g).k + 1=(aa s g).order.length) →
   MInv (ai (aA s (bU (aa s g) i) (bN (cn s (bU (aa s g) i)) v)) g y):=by
  intro y hk jW sO Cm hp;have ei:SE y:=hk.se.2 kx;have ho:=hk.aH;have hc:=hk.ch;have o1:=b.o1;have pU:gN s.au.length s.aB.length y:=by
   constructor
   ·rw [hk.order,hk.aF,ho];simp only [hc];exact o1
   ·rw [hk.order];exact b.o2
   ·rw [hk.order];exact b.o3
   ·rw [hk.aF];exact b.l1
   ·rw [hk.aF];exact b.l2
   ·rw [hk.aF];exact l3
   ·omega
   ·intro c;omega
   ·rw [hk.order];intro c;omega
   ·rw [hk.aF];intro c;omega
   ·intro c;omega
   ·intro _;rw [jW,ho];exact s2
   ·intro c;omega
   ·rw [jW,hk.order];exact b.s4
   ·intro c;omega
   ·rw [jW,hk.order];intro _;exact s6
   ·intro c;omega
   ·intro c;omega
   ·intro _;rw [hk.aU];exact pk
   ·intro c;omega
  have hold:∀ ch,bH y ch↔bH (aa s g) ch:=by
   intro ch;rw [nj ei (by unfold kq;rw [hk.aF];omega),nj kx (by unfold kq;omega),hk.aF]
  refine h.chan hg dN.2.2.2.2.1 dN.2.2.2.2.2 (L.mZ kx (by omega) hk.ops hk.at_ (by rw [hk.status];exact st) (by rw [hk.token];exact tk) (by rw [hk.param];exact pm) (by omega) (by rw [sO,eB];simp) (by rw [sO,eB];simp) (by rw [sO,eB];simp) (by omega) h.jg pU) ⟨.inl ⟨rfl,hold⟩,h.g9 dN.2.2.2.2.1 dN.2.2.2.2.2,⟨iG,iG⟩,.inr ((nj kx (by unfold kq;omega) _).2 dN.2.2.2.1)⟩ (vF kx ei (by omega) (by omega) jW) (fun i d _ m=>hk.mt kx jW m) ?_ (by unfold cQ;omega) (by unfold c7;omega) (fun q=>by rw [sO];exact id) (fun w=>absurd w.1 nw) (fun w=>absurd w.1 nw) hk.at_;intro j l q ch a c hj;rcases q with q | q
  ·exact absurd kx q.1.ne
  ·obtain ⟨q1,q2,q3,q4,q5⟩:=q;have q6:l∈(aa s g).order.drop (aa s g).k.toNat:=by
    rcases q5 with z | z | z | z | z | z
    ·omega
    ·omega
    ·omega
    ·omega
    ·omega
    ·exact z.2
   have bG:l≠i:=by
    intro z;subst z;have ej:j=v:=q4.symm.trans hv;subst ej;have hq:j∈(cn s ch).recv∨j∈(cn s ch).send:=by
     unfold up at hj
     split at hj
     ·rename_i z;subst z;exact hj.imp (fun h=>iG.subset h) (fun h=>iG.subset h)
     ·exact hj
    obtain ⟨o,qq⟩:=h.vw (g:=g) a c hq;have:ch=bU (aa s g) l:=qq.ch.symm.trans w4;subst this;rw [iF] at hj;rcases hj with hj | hj
    ·exact ng hj
    ·exact ng hj
   rw [kT] at q6;have q7:=(List.mem_cons.1 q6).resolve_left bG;rcases hp with hp | hp
   ·refine .inr ⟨ei,q2,by rw [jW];exact q3,by rw [jW];exact q4,.inr (.inr (.inr (.inr (.inr ⟨hp.1,?_⟩))))⟩;rw [hk.order,hp.2.1];exact q7
   ·have:(aa s g).order.drop ((aa s g).k + 1).toNat=[]:=List.drop_eq_nil_of_le (by omega);rw [this] at q7;simp at q7
 have fY:g < (aA s (bU (aa s g) i) (bN (cn s (bU (aa s g) i)) v)).gs.length:=hg;have g0:aa (aA s (bU (aa s g) i) (bN (cn s (bU (aa s g) i)) v)) g=aa s g:=rfl
 by_cases c:(aa s g).k + 1 < (aa s g).order.length
 ·rw [if_pos c,Gl fY,g0,az];exact fin _ ⟨rfl,rfl,rfl,rfl,rfl,rfl,rfl,rfl,rfl⟩ rfl rfl rfl (.inl ⟨e,rfl,c⟩)
 ·rw [if_neg c,Wa fY,g0];exact fin _ ⟨rfl,rfl,rfl,rfl,rfl,rfl,rfl,rfl,rfl⟩ rfl rfl rfl (.inr ⟨rfl,rfl,by omega⟩)
structure Wn (x y:Gr) (i:Int):Prop where
 ops:y.ops=x.ops
 at_:y.at_=x.at_
 status:y.status=x.status
 token:y.token=x.token
 aU:y.aU=x.aU
 param:y.param=x.param
 order:y.order=x.order
 aF:y.aF=x.aF
 ak:y.ak=x.ak
 hp:y.place=34∧y.k=x.k + 1∧x.k + 1 < x.order.length∧y.ax=x.ax.set i.toNat (-1)∨x.k + 1=x.order.length∧y.ax=[]∧(y.place=17∧x.ak≠[]∨y.place=18∧x.ak=[])
theorem MInv.Gq (h:MInv s) (hg:g < s.gs.length) (st:(aa s g).status=0) (k:(ag s g).kind=9) (e:(aa s g).place=34) {y:Gr} (f:Wn (aa s g) y (aE (aa s g).order (aa s g).k)) :
  MInv (ai (if 0≤aE (aa s g).ax (aE (aa s g).order (aa s g).k) then cy s g (aE (aa s g).ax (aE (aa s g).order (aa s g).k)) else s) g y):=by
 have L:=h.loc hg;have kx:SE (aa s g):=k;have b:=h.ko hg k (by unfold dV;omega);have nw:¬ Wt (aa s g):=oK (by omega);obtain ⟨pm,tk⟩:=L.vz nw;have dN:=b.hand (by omega);have k2:=b.k2 (by omega);have k0:=b.k0;have s2:=b.s2 (by omega);have s4:=b.s4;have s7:=b.s7 e;have l3:=b.l3;have kT:=Ci k0 k2;have tX:=zS k0 k2;have nq:=sF kx (x:=aa s g) (by omega);generalize hi:aE (aa s g).order (aa s g).k=i at *;have lu:i < ((aa s g).ax.length:Int):=by rw [s2];exact dN.2.2.1
 have ho:aH y=aH (aa s g):=by unfold aH;rw [f.ops,f.at_]
 have hc:∀ j,bU y j=bU (aa s g) j:=fun j=>by unfold bU;rw [ho]
 have ei:SE y:=by unfold SE;rw [ho];exact kx
 have hp:=f.hp;have jE:∀ j:Int,0≤j→j < (aa s g).ax.length→aE ((aa s g).ax.set i.toNat (-1)) j=if j=i then -1 else aE (aa s g).ax j:=fun j a c=>MN dN.2.1 a c
 have o1:=b.o1;have o3:=b.o3;have lx:Loc s.au.length s.aB.length s.gs.length y:=by
  rcases hp with p | p
  ·have pU:gN s.au.length s.aB.length y:=by
    have jB:y.ax.length=(aa s g).ax.length:=by rw [p.2.2.2,List.length_set]
    constructor
    ·rw [f.order,f.aF,ho];simp only [hc];exact o1
    ·rw [f.order];exact b.o2
    ·rw [f.order];exact o3
    ·rw [f.aF];exact b.l1
    ·rw [f.aF];exact b.l2
    ·rw [f.aF];exact l3
    ·omega
    ·intro c;omega
    ·rw [f.order];intro c;omega
    ·rw [f.aF];intro c;omega
    ·intro c;omega
    ·intro _;rw [jB,ho];exact s2
    ·intro c;omega
    ·intro j a c;rw [jB] at c;rw [p.2.2.2,jE j a c,f.order]
     split
     ·have:=h.jg;exact ⟨by decide,by omega,fun c=>absurd c (by decide)⟩
     ·exact s4 j a c
    ·intro c;omega
    ·intro c;omega
    ·intro _ j hj;rw [f.order,p.2.1,tX] at hj;have pV:0≤j∧j < (aH (aa s g)).cases.length:=by
      rcases List.mem_append.1 hj with w | w
      ·have:=o1 j (List.mem_of_mem_take w);exact ⟨this.1,this.2.1⟩
      ·rw [List.mem_singleton.1 w];exact ⟨dN.2.1,dN.2.2.1⟩
     rw [p.2.2.2,jE j pV.1 (by rw [s2];exact pV.2)]
     split
     ·rfl
     ·rename_i z;rcases List.mem_append.1 hj with w | w
      ·exact s7 j w
      ·exact absurd (List.mem_singleton.1 w) z
    ·intro c;omega
    ·intro c;omega
    ·intro c;omega
   exact L.mZ kx (by omega) f.ops f.at_ (by rw [f.status];exact st) (by rw [f.token];exact tk) (by rw [f.param];exact pm) (by omega) (fun _=>.inl p.1) (by rw [f.ak];exact L.w3) (by rw [f.ak];exact L.w4) (by omega) h.jg pU
  ·exact L.fin kx (by omega) f.ops f.at_ (by rw [f.status];exact st) (by rw [f.token];exact tk) (by rw [f.param];exact pm) (by rw [f.ak];exact p.2.2) (by rw [f.ak];exact L.w3) (by rw [f.ak];exact L.w4) h.jg
 have Cp:∀ ch,¬ bH (aa s g) ch:=by
  intro ch w;rw [vD kx] at w;omega
 have Cq:∀ ch,¬ bH y ch:=by
  intro ch w;rw [vD ei] at w;omega
 have own:∀ j,Own y j↔Own (aa s g) j∧j≠aE (aa s g).ax i:=by
  intro j;have uniq:∀ c:Int,0≤c→c < (aa s g).ax.length→0≤aE (aa s g).ax c→aE (aa s g).ax c=aE (aa s g).ax i→c=i:=by
   intro c c0 c1 c2 c3;have a1:=h.zU hg k (by omega) c0 c1 c2;have a2:=h.zU hg k (by omega) dN.2.1 lu (by rw [← c3];exact c2);have:=a1.2.2.2.1;rw [c3] at this;exact this.symm.trans a2.2.2.2.1
  rcases hp with p | p
  ·constructor
   ·rintro ⟨j0,w | w⟩
    ·exact absurd ei w.1.ne
    ·have w3:=w.2.2;rw [p.2.2.2] at w3;obtain ⟨c,c0,c1,c2⟩:=oL.1 w3;rw [List.length_set] at c1;rw [jE c c0 c1] at c2
     split at c2
     ·omega
     ·rename_i z;refine ⟨⟨j0,.inr ⟨kx,by omega,oL.2 ⟨c,c0,c1,c2⟩⟩⟩,fun q=>z (uniq c c0 c1 (by omega) (c2.trans q))⟩
   ·rintro ⟨⟨j0,w | w⟩,w2⟩
    ·exact absurd kx w.1.ne
    ·obtain ⟨c,c0,c1,c2⟩:=oL.1 w.2.2;refine ⟨j0,.inr ⟨ei,by omega,?_⟩⟩;rw [p.2.2.2];refine oL.2 ⟨c,c0,by rw [List.length_set];exact c1,?_⟩;rw [jE c c0 c1,if_neg (fun z=>w2 (by rw [← c2,z]))];exact c2
  ·constructor
   ·rintro ⟨j0,w | w⟩
    ·exact absurd ei w.1.ne
    ·have:=w.2.2;rw [p.2.1] at this;simp at this
   ·rintro ⟨⟨j0,w | w⟩,w2⟩
    ·exact absurd kx w.1.ne
    ·exfalso
     obtain ⟨c,c0,c1,c2⟩:=oL.1 w.2.2;have co:=(s4 c c0 c1).2.2 (by omega);rw [← List.take_append_drop (aa s g).k.toNat (aa s g).order,kT] at co;rcases List.mem_append.1 co with q | q
     ·have:=s7 c q;omega
     ·rcases List.mem_cons.1 q with q | q
      ·subst q;exact w2 c2.symm
      ·have:(aa s g).order.drop ((aa s g).k + 1).toNat=[]:=List.drop_eq_nil_of_le (by omega);rw [this] at q;simp at q
 have mt:∀ j d,Own y j→Match (aa s g) j d→Match y j d:=by
  intro j d wo m;have bG:=((own j).1 wo).2;have j0:=wo.1;rcases m with m | m
  ·exact absurd kx m.1.ne
  ·obtain ⟨_,m1,m2,m3,m4,m5,m6,m7⟩:=m;rcases hp with p | p
   ·have jB:y.ax.length=(aa s g).ax.length:=by rw [p.2.2.2,List.length_set]
    refine .inr ⟨ei,m1,by rw [jB];exact m2,?_,by rw [hc];exact m4,by rw [ho];exact m5,by rw [f.order];exact m6,?_⟩
    ·rw [p.2.2.2,jE _ m1 m2,if_neg (fun z=>bG (by rw [← m3,z]))];exact m3
    ·intro q q0 q1 q2;rw [jB] at q1;rw [p.2.2.2,jE q q0 q1] at q2
     split at q2
     ·omega
     ·exact m7 q q0 q1 q2
   ·exfalso
    rcases wo.2 with w | w
    ·exact w.1.ne ei
    ·have:=w.2.2;rw [p.2.1] at this;simp at this
 have MR:¬ cQ y:=by unfold cQ;omega
 have gP:¬ c7 y:=by unfold c7;omega
 by_cases hv:0≤aE (aa s g).ax i
 ·rw [if_pos hv];exact h.LY hg (h.zU hg k (by omega) dN.2.1 lu hv).1 lx (fun ch=>⟨fun w=>absurd w (Cq ch),fun w=>absurd w (Cp ch)⟩) own mt nq MR gP f.ak nw f.at_
 ·rw [if_neg hv];refine h.self hg ⟨lx,fun ch=>⟨fun w=>absurd w (Cq ch),fun w=>absurd w (Cp ch)⟩,fun j=>?_,mt,fun i j w=>absurd w (nq i j),gP,fun q=>by rw [f.ak];exact id,fun w=>absurd w.1 nw,fun w=>absurd w.1 nw⟩ f.at_ (fun w=>absurd w MR);rw [own];exact ⟨fun w=>w.1,fun w=>⟨w,fun z=>by have:=w.1;omega⟩⟩
theorem Wo {s:ah} {g:Nat} {v:Int}:(cy s g v).gs.length=s.gs.length:=by
 unfold cy aN eE
 split <;> rfl
theorem MInv.kI (h:MInv s) (hg:g < s.gs.length) (st:(aa s g).status=0) (k:(ag s g).kind=9) (e:(aa s g).place=34):MInv (kI s g):=by
 have b:=h.ko hg k (by unfold dV;omega);have k2:=b.k2 (by omega);unfold Sx.kI;simp only;obtain ⟨t,ht⟩:∃ t,(if 0≤aE (aa s g).ax (aE (aa s g).order (aa s g).k) then cy s g (aE (aa s g).ax (aE (aa s g).order (aa s g).k)) else s)=t:=⟨_,rfl⟩
 have hl:t.gs.length=s.gs.length:=by rw [← ht];split;exact Wo;rfl
 rw [ht]
 split
 ·rename_i c;rw [zT (by rw [hl];exact hg),if_pos c];unfold ak;rw [fj (by rw [hl];exact hg),if_pos rfl]
  split
  ·rename_i c2;rw [mz _ _ _ _ (by rw [hl];exact hg),← ht];exact h.Gq hg st k e ⟨rfl,rfl,rfl,rfl,rfl,rfl,rfl,rfl,rfl,.inr ⟨c,rfl,.inl ⟨rfl,List.length_pos_iff.1 c2⟩⟩⟩
  ·rename_i c2;rw [mz _ _ _ _ (by rw [hl];exact hg),← ht];exact h.Gq hg st k e ⟨rfl,rfl,rfl,rfl,rfl,rfl,rfl,rfl,rfl,.inr ⟨c,rfl,.inr ⟨rfl,List.length_eq_zero_iff.1 (by simp only at c2;omega)⟩⟩⟩
 ·rename_i c;rw [zT (by rw [hl];exact hg),if_neg c,← ht];exact h.Gq hg st k e ⟨rfl,rfl,rfl,rfl,rfl,rfl,rfl,rfl,rfl,.inl ⟨e,rfl,by omega,rfl⟩⟩
theorem MInv.bL (h:MInv s) (hg:g < s.gs.length) (st:(aa s g).status=0):MInv (bL s g).1:=by
 unfold Sx.bL;simp only
 by_cases k:(ag s g).kind≠9
 ·rw [if_pos k];exact h
 rw [if_neg k];have k9:(ag s g).kind=9:=by omega
 by_cases zW:(aa s g).place=24
 ·rw [if_pos zW];exact h.MA hg st k9 25 (.inl ⟨zW,rfl⟩)
 rw [if_neg zW]
 by_cases zX:(aa s g).place=25
 ·rw [if_pos zX];exact h.kG hg st k9 zX
 rw [if_neg zX]
 by_cases zY:(aa s g).place=26
 ·rw [if_pos zY];exact h.V7 hg st k9 zY
 rw [if_neg zY]
 by_cases zZ:(aa s g).place=27
 ·rw [if_pos zZ];exact h.kH hg st k9 zZ
 rw [if_neg zZ]
 by_cases Aa:(aa s g).place=28
 ·rw [if_pos Aa];exact h.aB hg st k9 Aa
 rw [if_neg Aa]
 by_cases Ab:(aa s g).place=29
 ·rw [if_pos Ab];exact h.mj hg st k9 Ab
 rw [if_neg Ab]
 by_cases Ac:(aa s g).place=30
 ·rw [if_pos Ac];have:=h.Wl hg st k9 Ac
  split
  ·rename_i c;rw [if_pos c] at this;exact this
  rename_i c;rw [if_neg c] at this
  split
  ·rename_i c;rw [if_pos c] at this;exact this
  rename_i c;rw [if_neg c] at this
  split
  ·rename_i c;rw [if_pos c] at this;exact this
  ·rename_i c;rw [if_neg c] at this;exact this
 rw [if_neg Ac]
 by_cases jV:(aa s g).place=14
 ·rw [if_pos jV];exact h.Wd hg st k9 jV
 rw [if_neg jV]
 by_cases xy:(aa s g).place=31
 ·rw [if_pos xy];exact h.MA hg st k9 32 (.inr ⟨xy,rfl⟩)
 rw [if_neg xy]
 by_cases Ad:(aa s g).place=32
 ·rw [if_pos Ad];exact h.mu hg st k9 Ad
 rw [if_neg Ad]
 by_cases Ae:(aa s g).place=33
 ·rw [if_pos Ae];have:=h.Wm hg st k9 Ae
  split
  ·rename_i c;rw [if_pos c] at this;exact this
  ·rename_i c;rw [if_neg c] at this;exact this
 rw [if_neg Ae]
 by_cases Af:(aa s g).place=34
 ·rw [if_pos Af];exact h.kI hg st k9 Af
 rw [if_neg Af]
 by_cases e1:(aa s g).place=13∨(aa s g).place=17
 ·rw [if_pos e1];exact h.common hg st (.inr e1)
 rw [if_neg e1];exact h
theorem MInv.tick (h:MInv s):MInv { s with step:=s.step + 1 } :=
 ⟨h.v,h.n1,h.n8,h.c8,h.sn,h.mw,h.c1,h.tV,h.ca,h.f0,h.po,h.sE,h.tW,h.du,h.d5,h.dn⟩
theorem MInv.one (h:MInv s) (p:Int):MInv (one s p).1:=by
 unfold Sx.one
 split
 ·exact h
 rename_i c;have c0:0≤p∧p < s.gs.length∧(aa s p.toNat).status=0:=by
  refine ⟨by omega,by omega,?_⟩
  by_cases z:(aa s p.toNat).status=0
  ·exact z
  ·exact absurd (.inr (.inr z)) c
 have hg:p.toNat < ({ s with step:=s.step + 1 }:ah).gs.length:=by show p.toNat < s.gs.length;omega
 have ht:=h.tick;have st:(aa { s with step:=s.step + 1 } p.toNat).status=0:=c0.2.2;simp only
 split
 ·exact ht.js hg st
 split
 ·exact ht.bV hg st
 split
 ·exact ht.bz hg st
 split
 ·exact ht.cj hg st
 split
 ·exact ht.bL hg st
 ·exact h
end Sx
namespace Sx
theorem Gs {p:List (List Pn.Op)} {a c:Int} {d:List Int} {g:Nat} (hg:g < p.length):aa (start p a c d) g=clean (p.getD g []) 0:=by
 unfold aa start;simp only [List.getD_eq_getElem?_getD,List.getElem?_map,List.getElem?_eq_getElem hg];rfl
theorem MInv.start {p:List (List Pn.Op)} {a c:Int} {d:List Int} (hp:Pn.right p=true) (hc:can a p.length c=true) (hd:∀ x∈d,0≤x∧x < 65536) (hl:d.length≤1000):MInv (start p a c d):=by
 unfold Pn.right at hp;simp only [decide_eq_true_eq] at hp;unfold can at hc;simp only [decide_eq_true_eq] at hc;obtain ⟨p1,p8,pr⟩:=hp;have lg:(Sx.start p a c d).gs.length=p.length:=by simp [Sx.start]
 have lc:(Sx.start p a c d).au.length=0:=rfl;have ls:(Sx.start p a c d).aB.length=a.toNat:=by simp [Sx.start]
 have Wp:∀ i,su (Sx.start p a c d) i=fB:=by
  intro i;unfold su Sx.start;simp only [List.getD_eq_getElem?_getD,List.getElem?_replicate]
  split <;> rfl
 have Wq:∀ i,gX (Sx.start p a c d) i=false:=by
  intro i;unfold gX;have:(Sx.start p a c d).fresh=0:=rfl;rw [this]
  by_cases z:0≤i
  ·have:¬ i < 0:=by omega
   simp [this]
  ·simp [z]
 have Wr:((Sx.start p a c d).cache).flatten=[]:=by
  unfold Sx.start;simp only
  induction p with
  | nil=>rfl
  | cons x l ih=>simp
 have vJ:∀ g,0≤g→g < (p.length:Int)→gA (Sx.start p a c d) g=clean (p.getD g.toNat []) 0:=fun g a b=>Gs (by omega)
 have nO:∀ (l:List Pn.Op) i,¬ Own (clean l 0) i:=fun l i=>eu.own (by unfold eu clean;simp) i
 have nH:∀ (l:List Pn.Op) i,¬ bH (clean l 0) i:=fun l i=>eu.holds (by unfold eu clean;simp) i
 refine ⟨?_,by omega,by omega,by omega,by rw [ls];show ((a.toNat:Nat):Int)=a;omega,by omega,hc.2.2.2.2.1,hc.2.2.2.2.2,by simp [Sx.start],Int.le_refl _,⟨List.replicate a.toNat false,?_⟩,Int.le_refl _,by show (0:Int)≤_;omega,hd,hl,?_⟩
 ·unfold V;rw [lg,lc,ls]
  constructor
  ·intro g g0 g1;rw [vJ g g0 g1];have hm:p.getD g.toNat []∈p:=by
    rw [List.getD_eq_getElem?_getD,List.getElem?_eq_getElem (by omega)];exact List.getElem_mem _
   have hr:=pr _ hm;unfold Pn.mK at hr;simp only [decide_eq_true_eq] at hr
   constructor
   ·exact hr.1
   ·exact hr.2
   ·exact Int.le_refl _
   ·unfold clean;simp only;omega
   ·exact .inl rfl
   ·intro z;exact absurd rfl z
   ·exact .inl rfl
   ·intro z;exact absurd z (by unfold clean;simp)
   ·intro z;exact absurd z (by unfold clean;simp)
   ·intro z;exact absurd z (by unfold clean;simp)
   ·intro z;exact absurd z (by unfold clean;simp)
   ·intro z;exact absurd rfl z
   ·intro z;exact absurd z (by unfold clean;simp)
   ·intro q z;exact absurd z (by unfold clean;simp)
   ·unfold clean;exact List.nodup_nil
   ·intro z;exact absurd z (by unfold clean;simp)
   ·intro _ z;exact absurd z (by unfold clean;simp)
   ·unfold clean;simp only;omega
   ·intro z;exact absurd z (by unfold clean;simp)
   ·intro z;exact absurd z (by unfold clean;simp)
   ·intro z;exact absurd z (by unfold clean;simp)
   ·intro _ z;unfold dV clean at z;simp at z
  ·intro ch z1 z2;omega
  ·intro g _ _ ch z1 z2;omega
  ·intro ch z1 z2;omega
  ·intro g g0 g1 i w;rw [vJ g g0 g1] at w;exact absurd w (nO _ _)
  ·intro ch z1 z2;omega
  ·intro ch z1 z2;omega
  ·intro g g0 g1 w;rw [vJ g g0 g1] at w;exact absurd w (by unfold clean;simp)
  ·intro g g0 g1 w;rw [vJ g g0 g1] at w;exact absurd w (by unfold clean;simp)
  ·intro g k g0 g1 _ _ w;rw [vJ g g0 g1] at w;exact absurd w (by unfold clean;simp)
  ·intro g g0 g1 q w;rw [vJ g g0 g1] at w;exact absurd w (by unfold clean;simp)
  ·intro g k q g0 g1 _ _ w;rw [vJ g g0 g1] at w;exact absurd w (by unfold clean;simp)
  ·intro i _ _;rw [Wp];exact ⟨by simp [fB],by simp only [fB];omega,by simp [fB],by simp [fB]⟩
  ·intro i w;rw [Wq] at w;cases w
 ·have e:(Sx.start p a c d).dh.toNat=a.toNat:=rfl;have Gt:∀ x,Po.dZ ⟨(Sx.start p a c d).cache,(Sx.start p a c d).middle,(Sx.start p a c d).fresh.toNat,List.replicate a.toNat false⟩ x=0:=by
   intro x;unfold Po.dZ;simp only;rw [Wr];rfl
  constructor
  ·show 1≤c.toNat;omega
  ·show c.toNat≤16;omega
  ·rw [e];omega
  ·simp [Sx.start]
  ·show (0:Int).toNat≤_;simp
  ·intro x;rw [Gt];simp
  ·intro x z;rw [Gt] at z;omega
  ·intro x z;rw [Gt];simp only;rw [List.getD_eq_getElem?_getD,List.getElem?_replicate]
   split <;> rfl
  ·intro x z;have:x=[]:=by
    unfold Sx.start at z;simp only [List.mem_map] at z;obtain ⟨_,_,rfl⟩:=z;rfl
   rw [this];simp
 ·unfold oJ;rw [lg];have:(List.range p.length).map (fun g=>(aa (Sx.start p a c d) g).at_)=(List.range p.length).map (fun _=>(0:Int)):=by
   refine List.map_congr_left fun g hg=>?_
   rw [Gs (by simpa using hg)];rfl
  rw [this]
  show (0:Int)=_
  induction p.length with
  | zero=>rfl
  | succ n ih=>rw [List.range_succ,List.map_append,List.sum_append,← ih];rfl
end Sx
end Go.Proofs.YtdjhhbpedllnhaaGreat
