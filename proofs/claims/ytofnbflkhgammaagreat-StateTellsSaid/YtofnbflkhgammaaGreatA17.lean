/-
  What the laws need, part A17.
  Conditions: none.
-/
import Derived.Test.YtofnbflkhgammaaGreatA9
import Derived.Test.YtofnbflkhgammaaGreatA16
set_option linter.unusedVariables false
set_option linter.unusedSimpArgs false
set_option linter.unnecessarySimpa false
set_option maxHeartbeats 2000000
namespace Go.Proofs.YtofnbflkhgammaaGreat
namespace Sx
variable {s t:St} {g:Nat} {nc ns n:Int} {x y:Gr}
theorem MInv.lB (h:MInv s) (hg:g < s.gs.length) (st:(gr s g).status=0) (k:(op s g).kind=9) (e:(gr s g).place=32):MInv (lB s g):=by
 have L:=h.loc hg;have kx:SE (gr s g):=k;have b:=h.jL hg k (by unfold dG;omega);have dQ:=h.qf hg (by omega);have nw:¬ Wt (gr s g):=nZ (by omega);obtain ⟨pm,tk⟩:=L.uy nw;have dx:=b.hand (by omega);have k2:=b.k2 (by omega);have k0:=b.k0;have s2:=b.s2 (by omega);have s6:=b.s6 (by omega);have l3:=b.l3;have pk:=b.c2 (by omega);have jG:=Bl k0 k2;unfold Sx.lB;simp only;generalize hi:aA (gr s g).order (gr s g).k=i at *;have kB:i < ((gr s g).ak.length:Int):=by rw [s2];exact dx.2.2.1
 have v0:=s6 i dx.1;obtain ⟨w,w1,w2,w3,w4,w5,w6⟩:=h.yB hg k (by omega) dx.2.1 kB v0;generalize hv:aA (gr s g).ak i=v at *;rw [drop_eq w4 dx.2.2.2.2.1 dx.2.2.2.2.2];have fin:∀ (y:Gr),je (gr s g) y→y.ak=(gr s g).ak→y.ah=(gr s g).ah→y.res.code=(gr s g).res.code→(y.place=32∧y.k=(gr s g).k + 1∧(gr s g).k + 1 < (gr s g).order.length∨y.place=33∧y.k=(gr s g).aC.length∧(gr s g).k + 1=(gr s g).order.length) →
   MInv (aa (av s (bP (gr s g) i) (bX (cn s (bP (gr s g) i)) v)) g y):=by
  intro y hk jA rI Bq hp;have dK:SE y:=hk.se.2 kx;have ho:=hk.aD;have hc:=hk.ch;have o1:=b.o1;have oZ:fY s.an.length s.aB.length y:=by
   constructor
   ·rw [hk.order,hk.aC,ho];simp only [hc];exact o1
   ·rw [hk.order];exact b.o2
   ·rw [hk.order];exact b.o3
   ·rw [hk.aC];exact b.l1
   ·rw [hk.aC];exact b.l2
   ·rw [hk.aC];exact l3
   ·omega
   ·intro c;omega
   ·rw [hk.order];intro c;omega
   ·rw [hk.aC];intro c;omega
   ·intro c;omega
   ·intro _;rw [jA,ho];exact s2
   ·intro c;omega
   ·rw [jA,hk.order];exact b.s4
   ·intro c;omega
   ·rw [jA,hk.order];intro _;exact s6
   ·intro c;omega
   ·intro c;omega
   ·intro _;rw [hk.aX];exact pk
   ·intro c;omega
  have hold:∀ ch,aY y ch↔aY (gr s g) ch:=by
   intro ch;rw [me dK (by unfold jM;rw [hk.aC];omega),me kx (by unfold jM;omega),hk.aC]
  refine h.chan hg dx.2.2.2.2.1 dx.2.2.2.2.2 (L.lY kx (by omega) hk.ops hk.at_ (by rw [hk.status];exact st) (by rw [hk.token];exact tk) (by rw [hk.param];exact pm) (by omega) (by rw [rI,dQ];simp) (by rw [rI,dQ];simp) (by rw [rI,dQ];simp) (by omega) h.iL oZ) ⟨.inl ⟨rfl,hold⟩,h.gK dx.2.2.2.2.1 dx.2.2.2.2.2,⟨jd,jd⟩,.inr ((me kx (by unfold jM;omega) _).2 dx.2.2.2.1)⟩ (uA kx dK (by omega) (by omega) jA) (fun i d _ m=>hk.mt kx jA m) ?_ (by unfold cu;omega) (by unfold cO;omega) (fun q=>by rw [rI];exact id) (fun w=>absurd w.1 nw) (fun w=>absurd w.1 nw) hk.at_;intro j l q ch a c hj;rcases q with q | q
  ·exact absurd kx q.1.ne
  ·obtain ⟨q1,q2,q3,q4,q5⟩:=q;have q6:l∈(gr s g).order.drop (gr s g).k.toNat:=by
    rcases q5 with z | z | z | z | z | z
    ·omega
    ·omega
    ·omega
    ·omega
    ·omega
    ·exact z.2
   have br:l≠i:=by
    intro z;subst z;have ej:j=v:=q4.symm.trans hv;subst ej;have hq:j∈(cn s ch).recv∨j∈(cn s ch).send:=by
     unfold up at hj
     split at hj
     ·rename_i z;subst z;exact hj.imp (fun h=>jd.subset h) (fun h=>jd.subset h)
     ·exact hj
    obtain ⟨o,qq⟩:=h.vN (g:=g) a c hq;have:ch=bP (gr s g) l:=qq.ch.symm.trans w4;subst this;rw [gS] at hj;rcases hj with hj | hj
    ·exact nY hj
    ·exact nY hj
   rw [jG] at q6;have q7:=(List.mem_cons.1 q6).resolve_left br;rcases hp with hp | hp
   ·refine .inr ⟨dK,q2,by rw [jA];exact q3,by rw [jA];exact q4,.inr (.inr (.inr (.inr (.inr ⟨hp.1,?_⟩))))⟩;rw [hk.order,hp.2.1];exact q7
   ·have:(gr s g).order.drop ((gr s g).k + 1).toNat=[]:=List.drop_eq_nil_of_le (by omega);rw [this] at q7;simp at q7
 have gI:g < (av s (bP (gr s g) i) (bX (cn s (bP (gr s g) i)) v)).gs.length:=hg;have g0:gr (av s (bP (gr s g) i) (bX (cn s (bP (gr s g) i)) v)) g=gr s g:=rfl
 by_cases c:(gr s g).k + 1 < (gr s g).order.length
 ·rw [if_pos c,E1 gI,g0,ax];exact fin _ ⟨rfl,rfl,rfl,rfl,rfl,rfl,rfl,rfl,rfl⟩ rfl rfl rfl (.inl ⟨e,rfl,c⟩)
 ·rw [if_neg c,TI gI,g0];exact fin _ ⟨rfl,rfl,rfl,rfl,rfl,rfl,rfl,rfl,rfl⟩ rfl rfl rfl (.inr ⟨rfl,rfl,by omega⟩)
structure TZ (x y:Gr) (i:Int):Prop where
 ops:y.ops=x.ops
 at_:y.at_=x.at_
 status:y.status=x.status
 token:y.token=x.token
 aX:y.aX=x.aX
 param:y.param=x.param
 order:y.order=x.order
 aC:y.aC=x.aC
 ah:y.ah=x.ah
 hp:y.place=34∧y.k=x.k + 1∧x.k + 1 < x.order.length∧y.ak=x.ak.set i.toNat (-1)∨x.k + 1=x.order.length∧y.ak=[]∧(y.place=17∧x.ah≠[]∨y.place=18∧x.ah=[])
theorem MInv.E5 (h:MInv s) (hg:g < s.gs.length) (st:(gr s g).status=0) (k:(op s g).kind=9) (e:(gr s g).place=34) {y:Gr} (f:TZ (gr s g) y (aA (gr s g).order (gr s g).k)) :
  MInv (aa (if 0≤aA (gr s g).ak (aA (gr s g).order (gr s g).k) then bR s g (aA (gr s g).ak (aA (gr s g).order (gr s g).k)) else s) g y):=by
 have L:=h.loc hg;have kx:SE (gr s g):=k;have b:=h.jL hg k (by unfold dG;omega);have nw:¬ Wt (gr s g):=nZ (by omega);obtain ⟨pm,tk⟩:=L.uy nw;have dx:=b.hand (by omega);have k2:=b.k2 (by omega);have k0:=b.k0;have s2:=b.s2 (by omega);have s4:=b.s4;have s7:=b.s7 e;have l3:=b.l3;have jG:=Bl k0 k2;have sS:=yy k0 k2;have nq:=rB kx (x:=gr s g) (by omega);generalize hi:aA (gr s g).order (gr s g).k=i at *;have kB:i < ((gr s g).ak.length:Int):=by rw [s2];exact dx.2.2.1
 have ho:aD y=aD (gr s g):=by unfold aD;rw [f.ops,f.at_]
 have hc:∀ j,bP y j=bP (gr s g) j:=fun j=>by unfold bP;rw [ho]
 have dK:SE y:=by unfold SE;rw [ho];exact kx
 have hp:=f.hp;have ja:∀ j:Int,0≤j→j < (gr s g).ak.length→aA ((gr s g).ak.set i.toNat (-1)) j=if j=i then -1 else aA (gr s g).ak j:=fun j a c=>KO dx.2.1 a c
 have o1:=b.o1;have o3:=b.o3;have lx:Loc s.an.length s.aB.length s.gs.length y:=by
  rcases hp with p | p
  ·have oZ:fY s.an.length s.aB.length y:=by
    have jf:y.ak.length=(gr s g).ak.length:=by rw [p.2.2.2,List.length_set]
    constructor
    ·rw [f.order,f.aC,ho];simp only [hc];exact o1
    ·rw [f.order];exact b.o2
    ·rw [f.order];exact o3
    ·rw [f.aC];exact b.l1
    ·rw [f.aC];exact b.l2
    ·rw [f.aC];exact l3
    ·omega
    ·intro c;omega
    ·rw [f.order];intro c;omega
    ·rw [f.aC];intro c;omega
    ·intro c;omega
    ·intro _;rw [jf,ho];exact s2
    ·intro c;omega
    ·intro j a c;rw [jf] at c;rw [p.2.2.2,ja j a c,f.order]
     split
     ·have:=h.iL;exact ⟨by decide,by omega,fun c=>absurd c (by decide)⟩
     ·exact s4 j a c
    ·intro c;omega
    ·intro c;omega
    ·intro _ j hj;rw [f.order,p.2.1,sS] at hj;have o9:0≤j∧j < (aD (gr s g)).cases.length:=by
      rcases List.mem_append.1 hj with w | w
      ·have:=o1 j (List.mem_of_mem_take w);exact ⟨this.1,this.2.1⟩
      ·rw [List.mem_singleton.1 w];exact ⟨dx.2.1,dx.2.2.1⟩
     rw [p.2.2.2,ja j o9.1 (by rw [s2];exact o9.2)]
     split
     ·rfl
     ·rename_i z;rcases List.mem_append.1 hj with w | w
      ·exact s7 j w
      ·exact absurd (List.mem_singleton.1 w) z
    ·intro c;omega
    ·intro c;omega
    ·intro c;omega
   exact L.lY kx (by omega) f.ops f.at_ (by rw [f.status];exact st) (by rw [f.token];exact tk) (by rw [f.param];exact pm) (by omega) (fun _=>.inl p.1) (by rw [f.ah];exact L.w3) (by rw [f.ah];exact L.w4) (by omega) h.iL oZ
  ·exact L.fin kx (by omega) f.ops f.at_ (by rw [f.status];exact st) (by rw [f.token];exact tk) (by rw [f.param];exact pm) (by rw [f.ah];exact p.2.2) (by rw [f.ah];exact L.w3) (by rw [f.ah];exact L.w4) h.iL
 have Bs:∀ ch,¬ aY (gr s g) ch:=by
  intro ch w;rw [uz kx] at w;omega
 have Bt:∀ ch,¬ aY y ch:=by
  intro ch w;rw [uz dK] at w;omega
 have own:∀ j,Own y j↔Own (gr s g) j∧j≠aA (gr s g).ak i:=by
  intro j;have uniq:∀ c:Int,0≤c→c < (gr s g).ak.length→0≤aA (gr s g).ak c→aA (gr s g).ak c=aA (gr s g).ak i→c=i:=by
   intro c c0 c1 c2 c3;have a1:=h.yB hg k (by omega) c0 c1 c2;have a2:=h.yB hg k (by omega) dx.2.1 kB (by rw [← c3];exact c2);have:=a1.2.2.2.1;rw [c3] at this;exact this.symm.trans a2.2.2.2.1
  rcases hp with p | p
  ·constructor
   ·rintro ⟨j0,w | w⟩
    ·exact absurd dK w.1.ne
    ·have w3:=w.2.2;rw [p.2.2.2] at w3;obtain ⟨c,c0,c1,c2⟩:=n9.1 w3;rw [List.length_set] at c1;rw [ja c c0 c1] at c2
     split at c2
     ·omega
     ·rename_i z;refine ⟨⟨j0,.inr ⟨kx,by omega,n9.2 ⟨c,c0,c1,c2⟩⟩⟩,fun q=>z (uniq c c0 c1 (by omega) (c2.trans q))⟩
   ·rintro ⟨⟨j0,w | w⟩,w2⟩
    ·exact absurd kx w.1.ne
    ·obtain ⟨c,c0,c1,c2⟩:=n9.1 w.2.2;refine ⟨j0,.inr ⟨dK,by omega,?_⟩⟩;rw [p.2.2.2];refine n9.2 ⟨c,c0,by rw [List.length_set];exact c1,?_⟩;rw [ja c c0 c1,if_neg (fun z=>w2 (by rw [← c2,z]))];exact c2
  ·constructor
   ·rintro ⟨j0,w | w⟩
    ·exact absurd dK w.1.ne
    ·have:=w.2.2;rw [p.2.1] at this;simp at this
   ·rintro ⟨⟨j0,w | w⟩,w2⟩
    ·exact absurd kx w.1.ne
    ·exfalso
     obtain ⟨c,c0,c1,c2⟩:=n9.1 w.2.2;have co:=(s4 c c0 c1).2.2 (by omega);rw [← List.take_append_drop (gr s g).k.toNat (gr s g).order,jG] at co;rcases List.mem_append.1 co with q | q
     ·have:=s7 c q;omega
     ·rcases List.mem_cons.1 q with q | q
      ·subst q;exact w2 c2.symm
      ·have:(gr s g).order.drop ((gr s g).k + 1).toNat=[]:=List.drop_eq_nil_of_le (by omega);rw [this] at q;simp at q
 have mt:∀ j d,Own y j→Match (gr s g) j d→Match y j d:=by
  intro j d wo m;have br:=((own j).1 wo).2;have j0:=wo.1;rcases m with m | m
  ·exact absurd kx m.1.ne
  ·obtain ⟨_,m1,m2,m3,m4,m5,m6,m7⟩:=m;rcases hp with p | p
   ·have jf:y.ak.length=(gr s g).ak.length:=by rw [p.2.2.2,List.length_set]
    refine .inr ⟨dK,m1,by rw [jf];exact m2,?_,by rw [hc];exact m4,by rw [ho];exact m5,by rw [f.order];exact m6,?_⟩
    ·rw [p.2.2.2,ja _ m1 m2,if_neg (fun z=>br (by rw [← m3,z]))];exact m3
    ·intro q q0 q1 q2;rw [jf] at q1;rw [p.2.2.2,ja q q0 q1] at q2
     split at q2
     ·omega
     ·exact m7 q q0 q1 q2
   ·exfalso
    rcases wo.2 with w | w
    ·exact w.1.ne dK
    ·have:=w.2.2;rw [p.2.1] at this;simp at this
 have KT:¬ cu y:=by unfold cu;omega
 have fZ:¬ cO y:=by unfold cO;omega
 by_cases hv:0≤aA (gr s g).ak i
 ·rw [if_pos hv];exact h.J5 hg (h.yB hg k (by omega) dx.2.1 kB hv).1 lx (fun ch=>⟨fun w=>absurd w (Bt ch),fun w=>absurd w (Bs ch)⟩) own mt nq KT fZ f.ah nw f.at_
 ·rw [if_neg hv];refine h.self hg ⟨lx,fun ch=>⟨fun w=>absurd w (Bt ch),fun w=>absurd w (Bs ch)⟩,fun j=>?_,mt,fun i j w=>absurd w (nq i j),fZ,fun q=>by rw [f.ah];exact id,fun w=>absurd w.1 nw,fun w=>absurd w.1 nw⟩ f.at_ (fun w=>absurd w KT);rw [own];exact ⟨fun w=>w.1,fun w=>⟨w,fun z=>by have:=w.1;omega⟩⟩
theorem T0 {s:St} {g:Nat} {v:Int}:(bR s g v).gs.length=s.gs.length:=by
 unfold bR aF dU
 split <;> rfl
theorem MInv.j5 (h:MInv s) (hg:g < s.gs.length) (st:(gr s g).status=0) (k:(op s g).kind=9) (e:(gr s g).place=34):MInv (j5 s g):=by
 have b:=h.jL hg k (by unfold dG;omega);have k2:=b.k2 (by omega);unfold Sx.j5;simp only;obtain ⟨t,ht⟩:∃ t,(if 0≤aA (gr s g).ak (aA (gr s g).order (gr s g).k) then bR s g (aA (gr s g).ak (aA (gr s g).order (gr s g).k)) else s)=t:=⟨_,rfl⟩
 have hl:t.gs.length=s.gs.length:=by rw [← ht];split;exact T0;rfl
 rw [ht]
 split
 ·rename_i c;rw [yz (by rw [hl];exact hg),if_pos c];unfold ah;rw [iz (by rw [hl];exact hg),if_pos rfl]
  split
  ·rename_i c2;rw [nX _ _ _ _ (by rw [hl];exact hg),← ht];exact h.E5 hg st k e ⟨rfl,rfl,rfl,rfl,rfl,rfl,rfl,rfl,rfl,.inr ⟨c,rfl,.inl ⟨rfl,List.length_pos_iff.1 c2⟩⟩⟩
  ·rename_i c2;rw [nX _ _ _ _ (by rw [hl];exact hg),← ht];exact h.E5 hg st k e ⟨rfl,rfl,rfl,rfl,rfl,rfl,rfl,rfl,rfl,.inr ⟨c,rfl,.inr ⟨rfl,List.length_eq_zero_iff.1 (by simp only at c2;omega)⟩⟩⟩
 ·rename_i c;rw [yz (by rw [hl];exact hg),if_neg c,← ht];exact h.E5 hg st k e ⟨rfl,rfl,rfl,rfl,rfl,rfl,rfl,rfl,rfl,.inl ⟨e,rfl,by omega,rfl⟩⟩
theorem MInv.bg (h:MInv s) (hg:g < s.gs.length) (st:(gr s g).status=0):MInv (bg s g).1:=by
 unfold Sx.bg;simp only
 by_cases k:(op s g).kind≠9
 ·rw [if_pos k];exact h
 rw [if_neg k];have k9:(op s g).kind=9:=by omega
 by_cases yD:(gr s g).place=24
 ·rw [if_pos yD];exact h.Ky hg st k9 25 (.inl ⟨yD,rfl⟩)
 rw [if_neg yD]
 by_cases yE:(gr s g).place=25
 ·rw [if_pos yE];exact h.jZ hg st k9 yE
 rw [if_neg yE]
 by_cases yF:(gr s g).place=26
 ·rw [if_pos yF];exact h.TF hg st k9 yF
 rw [if_neg yF]
 by_cases yG:(gr s g).place=27
 ·rw [if_pos yG];exact h.j4 hg st k9 yG
 rw [if_neg yG]
 by_cases yI:(gr s g).place=28
 ·rw [if_pos yI];exact h.aB hg st k9 yI
 rw [if_neg yI]
 by_cases yJ:(gr s g).place=29
 ·rw [if_pos yJ];exact h.lA hg st k9 yJ
 rw [if_neg yJ]
 by_cases yK:(gr s g).place=30
 ·rw [if_pos yK];have:=h.TX hg st k9 yK
  split
  ·rename_i c;rw [if_pos c] at this;exact this
  rename_i c;rw [if_neg c] at this
  split
  ·rename_i c;rw [if_pos c] at this;exact this
  rename_i c;rw [if_neg c] at this
  split
  ·rename_i c;rw [if_pos c] at this;exact this
  ·rename_i c;rw [if_neg c] at this;exact this
 rw [if_neg yK]
 by_cases jz:(gr s g).place=14
 ·rw [if_pos jz];exact h.TM hg st k9 jz
 rw [if_neg jz]
 by_cases vU:(gr s g).place=31
 ·rw [if_pos vU];exact h.Ky hg st k9 32 (.inr ⟨vU,rfl⟩)
 rw [if_neg vU]
 by_cases yL:(gr s g).place=32
 ·rw [if_pos yL];exact h.lB hg st k9 yL
 rw [if_neg yL]
 by_cases yM:(gr s g).place=33
 ·rw [if_pos yM];have:=h.TY hg st k9 yM
  split
  ·rename_i c;rw [if_pos c] at this;exact this
  ·rename_i c;rw [if_neg c] at this;exact this
 rw [if_neg yM]
 by_cases yN:(gr s g).place=34
 ·rw [if_pos yN];exact h.j5 hg st k9 yN
 rw [if_neg yN]
 by_cases e1:(gr s g).place=13∨(gr s g).place=17
 ·rw [if_pos e1];exact h.common hg st (.inr e1)
 rw [if_neg e1];exact h
theorem MInv.tick (h:MInv s):MInv { s with step:=s.step + 1 } :=
 ⟨h.v,h.n1,h.n8,h.c8,h.sn,h.iJ,h.c1,h.sQ,h.ca,h.f0,h.po,h.rA,h.sR,h.du,h.d5,h.dn⟩
theorem MInv.one (h:MInv s) (p:Int):MInv (one s p).1:=by
 unfold Sx.one
 split
 ·exact h
 rename_i c;have c0:0≤p∧p < s.gs.length∧(gr s p.toNat).status=0:=by
  refine ⟨by omega,by omega,?_⟩
  by_cases z:(gr s p.toNat).status=0
  ·exact z
  ·exact absurd (.inr (.inr z)) c
 have hg:p.toNat < ({ s with step:=s.step + 1 }:St).gs.length:=by show p.toNat < s.gs.length;omega
 have ht:=h.tick;have st:(gr { s with step:=s.step + 1 } p.toNat).status=0:=c0.2.2;simp only
 split
 ·exact ht.iT hg st
 split
 ·exact ht.bO hg st
 split
 ·exact ht.bE hg st
 split
 ·exact ht.cD hg st
 split
 ·exact ht.bg hg st
 ·exact h
end Sx
namespace Sx
theorem E6 {p:List (List Pn.Op)} {a c:Int} {d:List Int} {g:Nat} (hg:g < p.length):gr (start p a c d) g=clean (p.getD g []) 0:=by
 unfold gr start;simp only [List.getD_eq_getElem?_getD,List.getElem?_map,List.getElem?_eq_getElem hg];rfl
theorem MInv.start {p:List (List Pn.Op)} {a c:Int} {d:List Int} (hp:Pn.right p=true) (hc:can a p.length c=true) (hd:∀ x∈d,0≤x∧x < 65536) (hl:d.length≤1000):MInv (start p a c d):=by
 unfold Pn.right at hp;simp only [decide_eq_true_eq] at hp;unfold can at hc;simp only [decide_eq_true_eq] at hc;obtain ⟨p1,p8,pr⟩:=hp;have lg:(Sx.start p a c d).gs.length=p.length:=by simp [Sx.start]
 have lc:(Sx.start p a c d).an.length=0:=rfl;have ls:(Sx.start p a c d).aB.length=a.toNat:=by simp [Sx.start]
 have T3:∀ i,su (Sx.start p a c d) i=eI:=by
  intro i;unfold su Sx.start;simp only [List.getD_eq_getElem?_getD,List.getElem?_replicate]
  split <;> rfl
 have T4:∀ i,gw (Sx.start p a c d) i=false:=by
  intro i;unfold gw;have:(Sx.start p a c d).fresh=0:=rfl;rw [this]
  by_cases z:0≤i
  ·have:¬ i < 0:=by omega
   simp [this]
  ·simp [z]
 have T5:((Sx.start p a c d).cache).flatten=[]:=by
  unfold Sx.start;simp only
  induction p with
  | nil=>rfl
  | cons x l ih=>simp
 have uF:∀ g,0≤g→g < (p.length:Int)→gA (Sx.start p a c d) g=clean (p.getD g.toNat []) 0:=fun g a b=>E6 (by omega)
 have nO:∀ (l:List Pn.Op) i,¬ Own (clean l 0) i:=fun l i=>dM.own (by unfold dM clean;simp) i
 have nH:∀ (l:List Pn.Op) i,¬ aY (clean l 0) i:=fun l i=>dM.holds (by unfold dM clean;simp) i
 refine ⟨?_,by omega,by omega,by omega,by rw [ls];show ((a.toNat:Nat):Int)=a;omega,by omega,hc.2.2.2.2.1,hc.2.2.2.2.2,by simp [Sx.start],Int.le_refl _,⟨List.replicate a.toNat false,?_⟩,Int.le_refl _,by show (0:Int)≤_;omega,hd,hl,?_⟩
 ·unfold V;rw [lg,lc,ls]
  constructor
  ·intro g g0 g1;rw [uF g g0 g1];have hm:p.getD g.toNat []∈p:=by
    rw [List.getD_eq_getElem?_getD,List.getElem?_eq_getElem (by omega)];exact List.getElem_mem _
   have hr:=pr _ hm;unfold Pn.kD at hr;simp only [decide_eq_true_eq] at hr
   constructor
   ·exact hr.1
   ·exact hr.2
   ·exact Int.le_refl _
   ·unfold clean;simp only;omega
   ·exact .inl rfl
   ·intro z;exact absurd rfl z
   ·exact .inl rfl
   ·intro z;exact absurd z (by unfold clean;simp)
   ·intro z;exact absurd z (by unfold clean;simp)
   ·intro z;exact absurd z (by unfold clean;simp)
   ·intro z;exact absurd z (by unfold clean;simp)
   ·intro z;exact absurd rfl z
   ·intro z;exact absurd z (by unfold clean;simp)
   ·intro q z;exact absurd z (by unfold clean;simp)
   ·unfold clean;exact List.nodup_nil
   ·intro z;exact absurd z (by unfold clean;simp)
   ·intro _ z;exact absurd z (by unfold clean;simp)
   ·unfold clean;simp only;omega
   ·intro z;exact absurd z (by unfold clean;simp)
   ·intro z;exact absurd z (by unfold clean;simp)
   ·intro z;exact absurd z (by unfold clean;simp)
   ·intro _ z;unfold dG clean at z;simp at z
  ·intro ch z1 z2;omega
  ·intro g _ _ ch z1 z2;omega
  ·intro ch z1 z2;omega
  ·intro g g0 g1 i w;rw [uF g g0 g1] at w;exact absurd w (nO _ _)
  ·intro ch z1 z2;omega
  ·intro ch z1 z2;omega
  ·intro g g0 g1 w;rw [uF g g0 g1] at w;exact absurd w (by unfold clean;simp)
  ·intro g g0 g1 w;rw [uF g g0 g1] at w;exact absurd w (by unfold clean;simp)
  ·intro g k g0 g1 _ _ w;rw [uF g g0 g1] at w;exact absurd w (by unfold clean;simp)
  ·intro g g0 g1 q w;rw [uF g g0 g1] at w;exact absurd w (by unfold clean;simp)
  ·intro g k q g0 g1 _ _ w;rw [uF g g0 g1] at w;exact absurd w (by unfold clean;simp)
  ·intro i _ _;rw [T3];exact ⟨by simp [eI],by simp only [eI];omega,by simp [eI],by simp [eI]⟩
  ·intro i w;rw [T4] at w;cases w
 ·have e:(Sx.start p a c d).dB.toNat=a.toNat:=rfl;have E7:∀ x,Po.dN ⟨(Sx.start p a c d).cache,(Sx.start p a c d).middle,(Sx.start p a c d).fresh.toNat,List.replicate a.toNat false⟩ x=0:=by
   intro x;unfold Po.dN;simp only;rw [T5];rfl
  constructor
  ·show 1≤c.toNat;omega
  ·show c.toNat≤16;omega
  ·rw [e];omega
  ·simp [Sx.start]
  ·show (0:Int).toNat≤_;simp
  ·intro x;rw [E7];simp
  ·intro x z;rw [E7] at z;omega
  ·intro x z;rw [E7];simp only;rw [List.getD_eq_getElem?_getD,List.getElem?_replicate]
   split <;> rfl
  ·intro x z;have:x=[]:=by
    unfold Sx.start at z;simp only [List.mem_map] at z;obtain ⟨_,_,rfl⟩:=z;rfl
   rw [this];simp
 ·unfold nW;rw [lg];have:(List.range p.length).map (fun g=>(gr (Sx.start p a c d) g).at_)=(List.range p.length).map (fun _=>(0:Int)):=by
   refine List.map_congr_left fun g hg=>?_
   rw [E6 (by simpa using hg)];rfl
  rw [this]
  show (0:Int)=_
  induction p.length with
  | zero=>rfl
  | succ n ih=>rw [List.range_succ,List.map_append,List.sum_append,← ih];rfl
end Sx
namespace Sx
structure Z (x:Gr):Prop where
 op:∀ o∈x.ops,o.cases.length≤6
 od:x.order.length≤6
 sg:x.ak.length≤6
 lk:x.aC.length≤6
def ZS (s:St):Prop:=∀ g:Nat,Z (gr s g)
theorem Z.clean (a:Int):Z (clean [] a):=⟨by simp [Sx.clean],by simp [Sx.clean],by simp [Sx.clean],by simp [Sx.clean]⟩
section
variable {s t:St} {g h:Nat}
theorem ZS.aa (z:ZS s) {x:Gr} (hx:Z x):ZS (aa s g x):=by
 intro k;unfold gr Sx.aa;simp only [List.getD_eq_getElem?_getD,List.getElem?_set]
 split
 ·split
  ·exact hx
  ·exact Z.clean _
 ·have:=z k;unfold gr at this;rw [List.getD_eq_getElem?_getD] at this;exact this
theorem ZS.of (z:ZS s) (e:t.gs=s.gs):ZS t:=by
 intro k;have:=z k;unfold gr at this ⊢;rw [e];exact this
theorem ZS.av (z:ZS s) {c:Int} {x:Cn}:ZS (av s c x):=z.of rfl
theorem ZS.aF (z:ZS s) {c:Int} {x:Su}:ZS (aF s c x):=z.of rfl
theorem Z.same {x y:Gr} (z:Z x) (h1:y.ops=x.ops) (h2:y.order=x.order) (h3:y.ak=x.ak) (h4:y.aC=x.aC):Z y:=⟨by rw [h1];exact z.op,by rw [h2];exact z.od,by rw [h3];exact z.sg,by rw [h4];exact z.lk⟩
theorem ZS.put (zt:ZS t) (z:ZS s) (h:Nat) {x:Gr} (e:x.ops=(gr s h).ops∧x.order=(gr s h).order∧x.ak=(gr s h).ak∧x.aC=(gr s h).aC:=by exact ⟨rfl,rfl,rfl,rfl⟩):ZS (Sx.aa t g x):=zt.aa ((z h).same e.1 e.2.1 e.2.2.1 e.2.2.2)
theorem ZS.ite {c:Prop} [Decidable c] {β:Type} {a b:St × β} (h1:ZS a.1) (h2:ZS b.1):ZS (if c then a else b).1:=by split <;> assumption
theorem ZS.bT {c:Prop} [Decidable c] {a b:St} (h1:ZS a) (h2:ZS b):ZS (if c then a else b):=by split <;> assumption
theorem ZS.aE (z:ZS s) {p:Int}:ZS (aE s g p):=z.put z g
theorem ZS.bw (z:ZS s) {r:Md.ai} {p:Int}:ZS (bw s g r p):=z.put z g
theorem ZS.free (z:ZS s) {c:Int}:ZS (free s c):=z.av
theorem ZS.tryLock (z:ZS s) {c:Int}:ZS (tryLock s g c).1:=ZS.ite z.av z
theorem ZS.ah (z:ZS s):ZS (ah s g):=ZS.bT z.aE z.aE
theorem ZS.fh (z:ZS s):ZS (fh s g):=by
 unfold Sx.fh;refine z.aa ?_
 split
 ·exact (z g).same rfl rfl rfl rfl
 ·split
  ·exact (z g).same rfl rfl rfl rfl
  ·exact z g
theorem ZS.ready (z:ZS s):ZS (ready s g):=by
 unfold Sx.ready;refine z.aa ?_
 split
 ·exact (z g).same rfl rfl rfl rfl
 ·split
  ·exact (z g).same rfl rfl rfl rfl
  ·exact z g
theorem ZS.dU (z:ZS s) {v:Int}:ZS (dU s g v):=ZS.bT (z.of rfl) z
theorem ZS.bR (z:ZS s) {v:Int}:ZS (bR s g v):=z.dU.aF
theorem ZS.bu (z:ZS s):ZS (bu s g).1:=by
 unfold Sx.bu;refine ZS.ite (ZS.ite ?_ z) ?_
 ·exact z.of rfl
 ·exact z.of rfl
theorem ZS.drop (z:ZS s) {v:Int}:ZS (drop s v):=ZS.bT z.av z
theorem ZS.pair (z:ZS s) {v:Int}:ZS (pair s g v):=ZS.put (ZS.put z z (su s v).g.toNat) z g
theorem ZS.serve (z:ZS s) {v:Int} {d:Bool}:ZS (serve s g v d):=by
 have z2:ZS (Sx.aF (Sx.aa s (su s v).g.toNat { gr s (su s v).g.toNat with param:=v }) v { su s v with done:=d }):=ZS.aF (ZS.put z z (su s v).g.toNat);exact ZS.put z2 z2 g
theorem ZS.common (z:ZS s):ZS (common s g).1:=by
 unfold Sx.common;simp only;refine ZS.ite (ZS.ite (ZS.ite (ZS.aE z.tryLock) (ZS.aE z.tryLock)) z) ?_;refine ZS.ite (ZS.aE z.free) ?_;refine ZS.ite (ZS.fh (ZS.aE z)) ?_;refine ZS.ite (ZS.aE (ZS.put z.bR z g)) ?_;refine ZS.ite (ZS.ah z.free) ?_;refine ZS.ite (ZS.ah (ZS.put z.ready z g)) z
theorem ZS.taken (z:ZS s) {i a b:Int}:ZS (taken s g i a b) :=
 ZS.bT (ZS.aE (ZS.put z z g)) (ZS.aE (ZS.pair (ZS.drop (ZS.put z z g))))
theorem ZS.dy (z:ZS s) {a b:Int}:ZS (dy s g a b) :=
 ZS.bT (ZS.put z.drop z g) (ZS.aE (ZS.pair (ZS.put (ZS.put z z g) z (su s (gr s g).hold).g.toNat )))
theorem ZS.aK (z:ZS s) {d:Su}:ZS (aK s g d) :=
 ZS.bT (ZS.put z.bu.aF z g) (ZS.put z.bu z g)
theorem ZS.mD (z:ZS s) {v:Int}:ZS (mD s g v):=ZS.serve (ZS.aF z.drop)
theorem ZS.hand (z:ZS s) {c i:Int}:ZS (hand s c i).1:=by unfold Sx.hand;simp only;split;exact z;exact z.av
theorem ZS.bO (z:ZS s):ZS (bO s g).1:=by
 unfold Sx.bO;simp only;refine ZS.ite z ?_;refine ZS.ite z.common ?_;refine ZS.ite z ?_;refine ZS.ite (ZS.ite z.aE z.bw) ?_;refine ZS.ite (ZS.ite (ZS.put z z g) (ZS.put z z g)) ?_;refine ZS.ite (ZS.ite z.bw z.aE) ?_;refine ZS.ite (ZS.ite z.aE z.taken) ?_;refine ZS.ite z.dy ?_;refine ZS.ite (ZS.put z.mD z.mD g) ?_;refine ZS.ite (ZS.ite (ZS.bw z.av) (ZS.ite z.bw z.aE)) ?_;refine ZS.ite z.aK ?_;refine ZS.ite (ZS.put z.av z g) ?_;exact ZS.ite (ZS.put z z g) z
theorem ZS.bE (z:ZS s):ZS (bE s g).1:=by
 unfold Sx.bE;simp only;refine ZS.ite z ?_;refine ZS.ite z.common ?_;refine ZS.ite z ?_;refine ZS.ite (ZS.ite z.aE z.bw) ?_;refine ZS.ite (ZS.ite z.aE (ZS.put z z g)) ?_;refine ZS.ite (ZS.ite (ZS.put z z g) z.bw) ?_;refine ZS.ite (ZS.ite z.bw (ZS.ite z.aE z.aE)) ?_;refine ZS.ite (ZS.ite z.aE z.taken) ?_;refine ZS.ite z.dy ?_;refine ZS.ite (ZS.put (ZS.serve (ZS.hand z.drop)) (ZS.serve (ZS.hand z.drop)) g ) ?_;refine ZS.ite (ZS.ite (ZS.bw z.av) (ZS.ite z.bw z.aE)) ?_;refine ZS.ite z.aK ?_;refine ZS.ite (ZS.put z.av z g) ?_;exact ZS.ite (ZS.put z z g) z
theorem ZS.eU (z:ZS s):ZS (eU s g):=by
 have z2:ZS (Sx.drop (Sx.aa s g { gr s g with t:=s.step }) (gr s g).hold):=ZS.drop (ZS.put z z g);exact ZS.serve (ZS.put z2 z2 (su (Sx.drop (Sx.aa s g { gr s g with t:=s.step }) (gr s g).hold) (gr s g).hold).g.toNat)
theorem ZS.eB (z:ZS s) {i:Int}:ZS (eB s g i):=by
 have z2:ZS (Sx.aa s g { gr s g with hold:=i }):=ZS.put z z g;exact ZS.bT z2.aE z2.eU
theorem ZS.gN (z:ZS s):ZS (gN s g) :=
 ZS.bT (ZS.put z.drop z g) (ZS.aE (ZS.eU (ZS.put z z (su s (gr s g).hold).g.toNat)))
theorem ZS.cD (z:ZS s):ZS (cD s g).1:=by
 unfold Sx.cD;simp only;refine ZS.ite z ?_;refine ZS.ite z.common ?_;refine ZS.ite z ?_;refine ZS.ite (ZS.ite z.bw (ZS.bw z.av)) ?_;refine ZS.ite (ZS.ite z.eB (ZS.ite z.eB z.aE)) ?_;exact ZS.ite z.gN z
theorem ZS.unlock (z:ZS s) {p:Int}:ZS (unlock s g p):=ZS.put z z g
theorem ZS.eV (z:ZS s) {r:Md.ai} {i:Int}:ZS (eV s g r i):=by
 have z2:ZS (Sx.bw s g { r with cs:=i } 30):=z.bw;exact ZS.unlock (ZS.put z2 z2 g)
theorem ZS.lock (z:ZS s) {p:Int}:ZS (lock s g p) :=
 ZS.bT (ZS.bT (ZS.put z.tryLock z g) (ZS.put z.tryLock z g)) z
theorem ZS.next (z:ZS s) {p:Int}:ZS (next s g p):=ZS.bT (ZS.put z z g) (ZS.put z z g)
theorem ZS.gy (z:ZS s):ZS (gy s g):=ZS.bT (ZS.put z z g) (z.aa (z g))
theorem ZS.iF (z:ZS s) {i:Int} {k:Pn.Cs}:ZS (iF s g i k).1 :=
 ZS.ite z.eV (ZS.ite (ZS.gy z.taken) (ZS.ite (ZS.eV z.av) z))
theorem ZS.jo (z:ZS s) {i:Int} {k:Pn.Cs}:ZS (jo s g i k).1 :=
 ZS.ite (ZS.gy z.taken) (ZS.ite (ZS.eV z.av) (ZS.ite z.eV z))
theorem Bw (z:ZS s):(op s g).cases.length≤6:=by
 unfold op;rw [List.getD_eq_getElem?_getD]
 by_cases c:(gr s g).at_.toNat < (gr s g).ops.length
 ·rw [List.getElem?_eq_getElem c];exact (z g).op _ (List.getElem_mem c)
 ·rw [List.getElem?_eq_none (by omega)];simp [xE]
theorem ZS.jZ (z:ZS s):ZS (jZ s g (op s g)):=by
 have hc:=Bw z (g:=g);have z2:ZS (Sx.aa s g { gr s g with ak:=List.replicate (op s g).cases.length (-1) }):=z.aa ⟨(z g).op,(z g).od,by simp only [List.length_replicate];exact hc,(z g).lk⟩;unfold Sx.jZ;simp only
 by_cases c1:(bZ (op s g) (aA (gr s g).order (gr s g).k)).send=true
 ·rw [if_pos c1];exact ZS.bT z.iF (ZS.bT z.next (ZS.bT z.eV z2.next))
 ·rw [if_neg c1];exact ZS.bT z.jo (ZS.bT z.next (ZS.bT z.eV z2.next))
theorem ZS.j4 (z:ZS s) {o:Pn.Op}:ZS (j4 s g o):=by
 unfold Sx.j4;simp only;have z1:=z.drop (v:=(gr s g).hold)
 by_cases c:(bZ o (aA (gr s g).order (gr s g).k)).send=true
 ·simp only [if_pos c];exact ZS.unlock (ZS.put (ZS.serve z1.aF) (ZS.serve z1.aF) g )
 ·simp only [if_neg c];exact ZS.unlock (ZS.put (ZS.serve z1.hand) (ZS.serve z1.hand) g )
theorem ZS.aB (z:ZS s) {o:Pn.Op}:ZS (aB s g o):=by
 unfold Sx.aB;simp only;refine ZS.bT (ZS.next ?_) (ZS.unlock ?_)
 ·refine ZS.aa z.bu.aF ?_;exact ⟨(z g).op,(z g).od,by simp only [List.length_set];exact (z g).sg,(z g).lk⟩
 ·refine ZS.put z.bu z g
theorem ZS.lA (z:ZS s) {o:Pn.Op}:ZS (lA s g o) :=
 ZS.bT (ZS.next z.av) (ZS.unlock (ZS.put z.av z g))
theorem ZS.cX (z:ZS s):ZS (cX s g).1:=ZS.put z.free z g
theorem ZS.mE (z:ZS s):ZS (mE s g):=ZS.put z z g
theorem ZS.lB (z:ZS s):ZS (lB s g):=ZS.bT (ZS.next z.drop) (ZS.unlock z.drop)
theorem ZS.j5 (z:ZS s):ZS (j5 s g):=by
 unfold Sx.j5;simp only;have z1:ZS (if 0≤aA (gr s g).ak (aA (gr s g).order (gr s g).k) then Sx.bR s g (aA (gr s g).ak (aA (gr s g).order (gr s g).k)) else s):=ZS.bT z.bR z;generalize (if 0≤aA (gr s g).ak (aA (gr s g).order (gr s g).k) then Sx.bR s g (aA (gr s g).ak (aA (gr s g).order (gr s g).k)) else s)=t at *;refine ZS.bT (ZS.ah (ZS.next ?_)) (ZS.next ?_)
 ·refine ZS.aa z1 ?_;exact ⟨(z g).op,(z g).od,by simp,(z g).lk⟩
 ·refine ZS.aa z1 ?_;exact ⟨(z g).op,(z g).od,by simp only [List.length_set];exact (z g).sg,(z g).lk⟩
theorem ZS.bg (z:ZS s):ZS (bg s g).1:=by
 unfold Sx.bg;simp only;refine ZS.ite z ?_;refine ZS.ite z.lock ?_;refine ZS.ite z.jZ ?_;refine ZS.ite (ZS.gy z.dy) ?_;refine ZS.ite z.j4 ?_;refine ZS.ite z.aB ?_;refine ZS.ite z.lA ?_;refine ZS.ite (ZS.ite z.cX (ZS.ite (ZS.aE z.cX) (ZS.ite (ZS.aE z.cX) (ZS.ah z.cX)))) ?_;refine ZS.ite z.mE ?_;refine ZS.ite z.lock ?_;refine ZS.ite z.lB ?_;refine ZS.ite (ZS.ite z.cX (ZS.aE z.cX)) ?_;refine ZS.ite z.j5 ?_;exact ZS.ite z.common z
theorem ZS.never (z:ZS s):ZS (never s g):=ZS.fh z.aE
theorem ZS.clear (z:ZS s):ZS (clear s g):=by
 unfold Sx.clear;exact z.aa ⟨(z g).op,by simp [gu,Sx.clean],by simp [gu,Sx.clean],by simp [gu,Sx.clean]⟩
theorem T8 (l:List Int) (h:(aC l).Nodup):(aC l).length≤l.length:=by
 refine List.Nodup.length_le_of_subset h fun x hx=>((EW l).2 x).1 hx |>.1
theorem ZS.j6 (z:ZS s) {o:Pn.Op} (hc:o.cases.length≤6) (ho:(gr s g).order=[]):ZS (j6 s g o):=by
 unfold Sx.j6;simp only;have z1:ZS { s with drawn:=(drawn s o.cases.length).2 }:=z.of rfl;have hl:∀ (p:Int→Bool),((dV (drawn s o.cases.length).1 o.cases.length).filter p).length≤6:=by
  intro p;have h1:=List.length_filter_le p (dV (drawn s o.cases.length).1 o.cases.length);have h2:=(Bj (drawn s o.cases.length).1 o.cases.length).length_eq;simp at h2;omega
 have zx:Z { gr s g with order:=(gr s g).order ++ (dV (drawn s o.cases.length).1 o.cases.length).filter (fun i=>made s (bZ o i).ch),aC:=Sx.aC (((dV (drawn s o.cases.length).1 o.cases.length).filter (fun i=>made s (bZ o i).ch)).map (fun i=>(bZ o i).ch)),place:=24 }:=by
  refine ⟨(z g).op,?_,(z g).sg,?_⟩
  ·simp only [ho,List.nil_append];exact hl _
  ·have ls:=EW (((dV (drawn s o.cases.length).1 o.cases.length).filter (fun i=>made s (bZ o i).ch)).map (fun i=>(bZ o i).ch));have:=T8 _ (ls.1.imp (fun h e=>by omega));have h2:=hl (fun i=>made s (bZ o i).ch);simp only [List.length_map] at this;simp only;omega
 have z2:=z1.aa (g:=g) zx;exact ZS.bT z2 (ZS.bT z2.bw z2.never)
theorem ZS.j7 (z:ZS s):ZS (j7 s g):=by
 unfold Sx.j7;simp only;refine ZS.bT (ZS.put z z g) ?_;have z2:ZS (Sx.aa (Sx.clear s g) g { gr (Sx.clear s g) g with call:=(Sx.clear s g).step }):=ZS.put z.clear z.clear g;have ho:(gr (Sx.aa (Sx.clear s g) g { gr (Sx.clear s g) g with call:=(Sx.clear s g).step }) g).order=[]:=by
  by_cases hg:g < s.gs.length
  ·have gI:g < (Sx.clear s g).gs.length:=by unfold Sx.clear;rw [gU];exact hg
   rw [iz gI,if_pos rfl];unfold Sx.clear;rw [iz hg,if_pos rfl];rfl
  ·unfold gr Sx.aa;rw [List.getD_eq_getElem?_getD,List.getElem?_eq_none (by simp [Sx.clear,Sx.aa];omega)];rfl
 generalize Sx.aa (Sx.clear s g) g { gr (Sx.clear s g) g with call:=(Sx.clear s g).step }=s2 at *;have hc:=Bw z2 (g:=g);refine ZS.bT z2.aE ?_;refine ZS.bT (ZS.bT z2.aE z2.never) ?_;refine ZS.bT (ZS.bT z2.aE z2.bw) ?_;exact ZS.bT (ZS.bT z2.aE z2.bw) (z2.j6 hc ho)
theorem ZS.j8 (z:ZS s):ZS (j8 s g):=by
 unfold Sx.j8;simp only;exact ZS.bT z.bw (ZS.bT (ZS.bw (s:={ s with an:=s.an ++ [⟨(op s g).n,[],false,-1,[],[]⟩] }) (z.of rfl)) (ZS.bT z.bw (ZS.bT z.bw z.bw)))
theorem ZS.answer (z:ZS s):ZS (answer s g):=by
 unfold Sx.answer;simp only;have z1:ZS { s with done:=s.done ++ [mark s g s.step] }:=z.of rfl;exact ZS.clear (ZS.put z1 z1 g)
theorem ZS.iT (z:ZS s):ZS (iT s g).1:=by
 unfold Sx.iT;simp only;exact ZS.ite z.j7 (ZS.ite z.j8 (ZS.ite z.answer z))
theorem ZS.one (z:ZS s) (p:Int):ZS (one s p).1:=by
 unfold Sx.one
 split
 ·exact z
 have z1:ZS { s with step:=s.step + 1 }:=z.of rfl;simp only;exact ZS.ite z1.iT (ZS.ite z1.bO (ZS.ite z1.bE (ZS.ite z1.cD (ZS.ite z1.bg z))))
theorem ZS.start {p:List (List Pn.Op)} {a c:Int} {d:List Int} (hp:Pn.right p=true):ZS (start p a c d):=by
 unfold Pn.right at hp;simp only [decide_eq_true_eq] at hp;intro g
 by_cases hg:g < p.length
 ·rw [E6 hg];have hm:p.getD g []∈p:=by
   rw [List.getD_eq_getElem?_getD,List.getElem?_eq_getElem hg];exact List.getElem_mem _
  have hr:=hp.2.2 _ hm;unfold Pn.kD at hr;simp only [decide_eq_true_eq] at hr;exact ⟨fun o ho=>(EY (hr.2 o ho)).2.2.2.2.2.2.2.2.1,by simp [Sx.clean],by simp [Sx.clean],by simp [Sx.clean]⟩
 ·unfold gr;rw [List.getD_eq_getElem?_getD,List.getElem?_eq_none (by simp [Sx.start];omega)];exact Z.clean 0
structure Good (s:St):Prop extends MInv s where
 z:ZS s
theorem Good.one (h:Good s) (p:Int):Good (one s p).1:=⟨h.toMInv.one p,h.z.one p⟩
theorem Good.start {p:List (List Pn.Op)} {a c:Int} {d:List Int} (hp:Pn.right p=true) (hc:can a p.length c=true) (hd:∀ x∈d,0≤x∧x < 65536) (hl:d.length≤1000):Good (start p a c d):=⟨MInv.start hp hc hd hl,ZS.start hp⟩
end
end Sx
namespace Sx
def SP (k:Int) (s:St):Prop:=s.step=k
section
variable {s t:St} {g h:Nat} {k:Int}
theorem SP.of (z:SP k s) (e:t.step=s.step):SP k t:=by unfold SP at *;rw [e];exact z
theorem SP.w (zt:SP k t) {x:Gr}:SP k (Sx.aa t g x):=zt
theorem SP.av (z:SP k s) {c:Int} {x:Cn}:SP k (Sx.av s c x):=z
theorem SP.aF (z:SP k s) {c:Int} {x:Su}:SP k (Sx.aF s c x):=z
theorem SP.ite {c:Prop} [Decidable c] {β:Type} {a b:St × β} (h1:SP k a.1) (h2:SP k b.1):SP k (if c then a else b).1:=by split <;> assumption
theorem SP.bT {c:Prop} [Decidable c] {a b:St} (h1:SP k a) (h2:SP k b):SP k (if c then a else b):=by split <;> assumption
theorem SP.aE (z:SP k s) {p:Int}:SP k (aE s g p):=SP.w z
theorem SP.bw (z:SP k s) {r:Md.ai} {p:Int}:SP k (bw s g r p):=SP.w z
theorem SP.free (z:SP k s) {c:Int}:SP k (free s c):=z.av
theorem SP.tryLock (z:SP k s) {c:Int}:SP k (tryLock s g c).1:=SP.ite z.av z
theorem SP.ah (z:SP k s):SP k (ah s g):=SP.bT z.aE z.aE
theorem SP.fh (z:SP k s):SP k (fh s g):=SP.w z
theorem SP.ready (z:SP k s):SP k (ready s g):=SP.w z
theorem SP.dU (z:SP k s) {v:Int}:SP k (dU s g v):=SP.bT (z.of rfl) z
theorem SP.bR (z:SP k s) {v:Int}:SP k (bR s g v):=z.dU.aF
theorem SP.bu (z:SP k s):SP k (bu s g).1:=by
 unfold Sx.bu;refine SP.ite (SP.ite ?_ z) ?_
 ·exact z.of rfl
 ·exact z.of rfl
theorem SP.drop (z:SP k s) {v:Int}:SP k (drop s v):=SP.bT z.av z
theorem SP.pair (z:SP k s) {v:Int}:SP k (pair s g v):=SP.w (SP.w z)
theorem SP.serve (z:SP k s) {v:Int} {d:Bool}:SP k (serve s g v d):=by
 have z2:SP k (Sx.aF (Sx.aa s (su s v).g.toNat { gr s (su s v).g.toNat with param:=v }) v { su s v with done:=d }):=SP.aF (SP.w z);exact SP.w z2
theorem SP.common (z:SP k s):SP k (common s g).1:=by
 unfold Sx.common;simp only;refine SP.ite (SP.ite (SP.ite (SP.aE z.tryLock) (SP.aE z.tryLock)) z) ?_;refine SP.ite (SP.aE z.free) ?_;refine SP.ite (SP.fh (SP.aE z)) ?_;refine SP.ite (SP.aE (SP.w z.bR)) ?_;refine SP.ite (SP.ah z.free) ?_;refine SP.ite (SP.ah (SP.w z.ready)) z
theorem SP.taken (z:SP k s) {i a b:Int}:SP k (taken s g i a b) :=
 SP.bT (SP.aE (SP.w z)) (SP.aE (SP.pair (SP.drop (SP.w z))))
theorem SP.dy (z:SP k s) {a b:Int}:SP k (dy s g a b) :=
 SP.bT (SP.w z.drop) (SP.aE (SP.pair (SP.w (SP.w z) )))
theorem SP.aK (z:SP k s) {d:Su}:SP k (aK s g d) :=
 SP.bT (SP.w z.bu.aF) (SP.w z.bu)
theorem SP.mD (z:SP k s) {v:Int}:SP k (mD s g v):=SP.serve (SP.aF z.drop)
theorem SP.hand (z:SP k s) {c i:Int}:SP k (hand s c i).1:=by unfold Sx.hand;simp only;split;exact z;exact z.av
theorem SP.bO (z:SP k s):SP k (bO s g).1:=by
 unfold Sx.bO;simp only;refine SP.ite z ?_;refine SP.ite z.common ?_;refine SP.ite z ?_;refine SP.ite (SP.ite z.aE z.bw) ?_;refine SP.ite (SP.ite (SP.w z) (SP.w z)) ?_;refine SP.ite (SP.ite z.bw z.aE) ?_;refine SP.ite (SP.ite z.aE z.taken) ?_;refine SP.ite z.dy ?_;refine SP.ite (SP.w z.mD) ?_;refine SP.ite (SP.ite (SP.bw z.av) (SP.ite z.bw z.aE)) ?_;refine SP.ite z.aK ?_;refine SP.ite (SP.w z.av) ?_;exact SP.ite (SP.w z) z
theorem SP.bE (z:SP k s):SP k (bE s g).1:=by
 unfold Sx.bE;simp only;refine SP.ite z ?_;refine SP.ite z.common ?_;refine SP.ite z ?_;refine SP.ite (SP.ite z.aE z.bw) ?_;refine SP.ite (SP.ite z.aE (SP.w z)) ?_;refine SP.ite (SP.ite (SP.w z) z.bw) ?_;refine SP.ite (SP.ite z.bw (SP.ite z.aE z.aE)) ?_;refine SP.ite (SP.ite z.aE z.taken) ?_;refine SP.ite z.dy ?_;refine SP.ite (SP.w (SP.serve (SP.hand z.drop)) ) ?_;refine SP.ite (SP.ite (SP.bw z.av) (SP.ite z.bw z.aE)) ?_;refine SP.ite z.aK ?_;refine SP.ite (SP.w z.av) ?_;exact SP.ite (SP.w z) z
theorem SP.eU (z:SP k s):SP k (eU s g):=by
 have z2:SP k (Sx.drop (Sx.aa s g { gr s g with t:=s.step }) (gr s g).hold):=SP.drop (SP.w z);exact SP.serve (SP.w z2)
theorem SP.eB (z:SP k s) {i:Int}:SP k (eB s g i):=by
 have z2:SP k (Sx.aa s g { gr s g with hold:=i }):=SP.w z;exact SP.bT z2.aE z2.eU
theorem SP.gN (z:SP k s):SP k (gN s g) :=
 SP.bT (SP.w z.drop) (SP.aE (SP.eU (SP.w z)))
theorem SP.cD (z:SP k s):SP k (cD s g).1:=by
 unfold Sx.cD;simp only;refine SP.ite z ?_;refine SP.ite z.common ?_;refine SP.ite z ?_;refine SP.ite (SP.ite z.bw (SP.bw z.av)) ?_;refine SP.ite (SP.ite z.eB (SP.ite z.eB z.aE)) ?_;exact SP.ite z.gN z
theorem SP.unlock (z:SP k s) {p:Int}:SP k (unlock s g p):=SP.w z
theorem SP.eV (z:SP k s) {r:Md.ai} {i:Int}:SP k (eV s g r i):=by
 have z2:SP k (Sx.bw s g { r with cs:=i } 30):=z.bw;exact SP.unlock (SP.w z2)
theorem SP.lock (z:SP k s) {p:Int}:SP k (lock s g p) :=
 SP.bT (SP.bT (SP.w z.tryLock) (SP.w z.tryLock)) z
theorem SP.next (z:SP k s) {p:Int}:SP k (next s g p):=SP.bT (SP.w z) (SP.w z)
theorem SP.gy (z:SP k s):SP k (gy s g):=SP.bT (SP.w z) (SP.w z)
theorem SP.iF (z:SP k s) {i:Int} {q:Pn.Cs}:SP k (iF s g i q).1 :=
 SP.ite z.eV (SP.ite (SP.gy z.taken) (SP.ite (SP.eV z.av) z))
theorem SP.jo (z:SP k s) {i:Int} {q:Pn.Cs}:SP k (jo s g i q).1 :=
 SP.ite (SP.gy z.taken) (SP.ite (SP.eV z.av) (SP.ite z.eV z))
theorem SP.jZ (z:SP k s):SP k (jZ s g (op s g)):=by
 have z2:SP k (Sx.aa s g { gr s g with ak:=List.replicate (op s g).cases.length (-1) }):=SP.w z;unfold Sx.jZ;simp only
 by_cases c1:(bZ (op s g) (aA (gr s g).order (gr s g).k)).send=true
 ·rw [if_pos c1];exact SP.bT z.iF (SP.bT z.next (SP.bT z.eV z2.next))
 ·rw [if_neg c1];exact SP.bT z.jo (SP.bT z.next (SP.bT z.eV z2.next))
theorem SP.j4 (z:SP k s) {o:Pn.Op}:SP k (j4 s g o):=by
 unfold Sx.j4;simp only;have z1:=z.drop (v:=(gr s g).hold)
 by_cases c:(bZ o (aA (gr s g).order (gr s g).k)).send=true
 ·simp only [if_pos c];exact SP.unlock (SP.w (SP.serve z1.aF) )
 ·simp only [if_neg c];exact SP.unlock (SP.w (SP.serve z1.hand) )
theorem SP.aB (z:SP k s) {o:Pn.Op}:SP k (aB s g o):=by
 unfold Sx.aB;simp only;refine SP.bT (SP.next ?_) (SP.unlock ?_)
 ·exact SP.w z.bu.aF
 ·refine SP.w z.bu
theorem SP.lA (z:SP k s) {o:Pn.Op}:SP k (lA s g o) :=
 SP.bT (SP.next z.av) (SP.unlock (SP.w z.av))
theorem SP.cX (z:SP k s):SP k (cX s g).1:=SP.w z.free
theorem SP.mE (z:SP k s):SP k (mE s g):=SP.w z
theorem SP.lB (z:SP k s):SP k (lB s g):=SP.bT (SP.next z.drop) (SP.unlock z.drop)
theorem SP.j5 (z:SP k s):SP k (j5 s g):=by
 unfold Sx.j5;simp only;have z1:SP k (if 0≤aA (gr s g).ak (aA (gr s g).order (gr s g).k) then Sx.bR s g (aA (gr s g).ak (aA (gr s g).order (gr s g).k)) else s):=SP.bT z.bR z;generalize (if 0≤aA (gr s g).ak (aA (gr s g).order (gr s g).k) then Sx.bR s g (aA (gr s g).ak (aA (gr s g).order (gr s g).k)) else s)=t at *;refine SP.bT (SP.ah (SP.next ?_)) (SP.next ?_)
 ·exact SP.w z1
 ·exact SP.w z1
theorem SP.bg (z:SP k s):SP k (bg s g).1:=by
 unfold Sx.bg;simp only;refine SP.ite z ?_;refine SP.ite z.lock ?_;refine SP.ite z.jZ ?_;refine SP.ite (SP.gy z.dy) ?_;refine SP.ite z.j4 ?_;refine SP.ite z.aB ?_;refine SP.ite z.lA ?_;refine SP.ite (SP.ite z.cX (SP.ite (SP.aE z.cX) (SP.ite (SP.aE z.cX) (SP.ah z.cX)))) ?_;refine SP.ite z.mE ?_;refine SP.ite z.lock ?_;refine SP.ite z.lB ?_;refine SP.ite (SP.ite z.cX (SP.aE z.cX)) ?_;refine SP.ite z.j5 ?_;exact SP.ite z.common z
theorem SP.never (z:SP k s):SP k (never s g):=SP.fh z.aE
theorem SP.clear (z:SP k s):SP k (clear s g):=by
 unfold Sx.clear;exact SP.w z
theorem SP.j6 (z:SP k s) {o:Pn.Op}:SP k (j6 s g o):=by
 unfold Sx.j6;simp only;have z1:SP k { s with drawn:=(drawn s o.cases.length).2 }:=z.of rfl;exact SP.bT (SP.w z1) (SP.bT (SP.bw (SP.w z1)) (SP.never (SP.w z1)))
theorem SP.j7 (z:SP k s):SP k (j7 s g):=by
 unfold Sx.j7;simp only;refine SP.bT (SP.w z) ?_;have z2:SP k (Sx.aa (Sx.clear s g) g { gr (Sx.clear s g) g with call:=(Sx.clear s g).step }):=SP.w z.clear;generalize Sx.aa (Sx.clear s g) g { gr (Sx.clear s g) g with call:=(Sx.clear s g).step }=s2 at *;refine SP.bT z2.aE ?_;refine SP.bT (SP.bT z2.aE z2.never) ?_;refine SP.bT (SP.bT z2.aE z2.bw) ?_;exact SP.bT (SP.bT z2.aE z2.bw) z2.j6
theorem SP.j8 (z:SP k s):SP k (j8 s g):=by
 unfold Sx.j8;simp only;exact SP.bT z.bw (SP.bT (SP.bw (s:={ s with an:=s.an ++ [⟨(op s g).n,[],false,-1,[],[]⟩] }) (z.of rfl)) (SP.bT z.bw (SP.bT z.bw z.bw)))
theorem SP.answer (z:SP k s):SP k (answer s g):=by
 unfold Sx.answer;simp only;have z1:SP k { s with done:=s.done ++ [mark s g s.step] }:=z.of rfl;exact SP.clear (SP.w z1)
theorem SP.iT (z:SP k s):SP k (iT s g).1:=by
 unfold Sx.iT;simp only;exact SP.ite z.j7 (SP.ite z.j8 (SP.ite z.answer z))
theorem T9 (s:St) (p:Int):s.step≤(Sx.one s p).1.step∧(Sx.one s p).1.step≤s.step + 1:=by
 unfold Sx.one
 split
 ·exact ⟨Int.le_refl _,by simp only;omega⟩
 have z1:SP (s.step + 1) { s with step:=s.step + 1 }:=rfl;simp only
 split
 ·have:=z1.iT (g:=p.toNat);unfold SP at this;rw [this];omega
 split
 ·have:=z1.bO (g:=p.toNat);unfold SP at this;rw [this];omega
 split
 ·have:=z1.bE (g:=p.toNat);unfold SP at this;rw [this];omega
 split
 ·have:=z1.cD (g:=p.toNat);unfold SP at this;rw [this];omega
 split
 ·have:=z1.bg (g:=p.toNat);unfold SP at this;rw [this];omega
 ·exact ⟨Int.le_refl _,by simp only;omega⟩
theorem Ua (l:List Int):∀ s:St,s.step≤(Sx.runs s l).1.step∧(Sx.runs s l).1.step≤s.step + l.length:=by
 induction l with
 | nil=>intro s;simp [Sx.runs]
 | cons p r ih =>
  intro s;unfold Sx.runs
  split
  ·simp only [List.length_cons];omega
  ·have h1:=T9 s (pick s p);have h2:=ih (Sx.one s (pick s p)).1;simp only [List.length_cons];omega
theorem Good.runs {s:St} (h:Good s) (l:List Int):Good (Sx.runs s l).1:=by
 induction l generalizing s with
 | nil=>exact h
 | cons p r ih =>
  unfold Sx.runs
  split
  ·exact h
  ·exact ih (h.one _)
end
end Sx
open Go.RowKit
namespace Po
end Po
def hand (ok:Bool) (x:Int) (l:List Int):List Int:=if ok then x :: l else l
open Go.RowKit
def RP (w:World) (vc vm:Value) (C:List (List Int)) (M:List Int) (S:List Nat):Prop :=
 GV CJ 1 w vc C S∧∃ U,IV w vm M U∧∀ x∈U,x∈S
theorem RP.aT {w w':World} {vc vm:Value} {C:List (List Int)} {M:List Int} {S T:List Nat} (h:RP w vc vm C M S) (k:aj T w w') (hn:∀ x∈S,x∉T):RP w' vc vm C M S:=by
 obtain ⟨h1,U,h2,h3⟩:=h;exact ⟨h1.aT Od k hn,U,h2.aT k (fun x hx=>hn x (h3 x hx)),h3⟩
theorem RP.then {w w':World} {vc vm:Value} {C:List (List Int)} {M:List Int} {S:List Nat} (h:RP w vc vm C M S) (k:aj [] w w'):RP w' vc vm C M S:=h.aT k (by simp)
open Go.RowKit
namespace Po
def settle (f:Int):List Bool→List Int→List Bool × Bool
 | H,[]=>(H,true)
 | H,x :: r=>if live f H x then settle f (H.set x.toNat true) r else (H,false)
theorem vW (f:Int) (H:List Bool) (x:Int) (r:List Int):settle f H (x :: r)=if live f H x then settle f (H.set x.toNat true) r else (H,false):=rfl
theorem Bx (f:Int):∀ (H:List Bool) (l:List Int),(settle f H l).1.length=H.length
 | H,[]=>rfl
 | H,x :: r=>by
  unfold settle
  split
  ·rw [Bx f _ r];simp
  ·rfl
theorem Ub (l:List Int) (k:Nat) (h:k < l.length):l.drop k=l.getD k 0 :: l.drop (k + 1):=by
 rw [List.drop_eq_getElem_cons h,List.getD_eq_getElem?_getD,List.getElem?_eq_getElem h];rfl
end Po
theorem Pl.mark {w:World} {b:Nat} {size most f:Int} {C:List (List Int)} {M:List Int} {H:List Bool} {S:List Nat} (h:Pl w (.pointer (some ⟨b,0,none⟩)) size most C M f H S) {j:Nat} (hj:j < H.length) :
  ∃ g off cap t,w.cell? ⟨b,5,none⟩=some (.slice (some ⟨g,off,none⟩) H.length cap)∧w.cell? ⟨g,off + j,none⟩=some (.bool t)∧w.frozen? ⟨g,off + j,none⟩=false ∧
   Pl (w.setCell ⟨g,off + j,none⟩ (.bool true)) (.pointer (some ⟨b,0,none⟩)) size most C M f (H.set j true) S∧aj S w (w.setCell ⟨g,off + j,none⟩ (.bool true)):=by
 obtain ⟨b',vc,vm,vh,T1,Us,Tm,Th,nD,hb,hc,hm,hh,ha,rfl⟩:=h
 cases nD;obtain ⟨ao,cap,rfl⟩:=hh.shape;obtain ⟨g,off,rfl,rfl,hg,c6,f6⟩:=hh.cells (List.getElem?_eq_getElem hj);obtain ⟨hs,hk⟩:=hh.stored j hj true;obtain ⟨p1,p2⟩:=List.pairwise_cons.1 ha;obtain ⟨p2,p3⟩:=List.pairwise_cons.1 p2;obtain ⟨p3,p4⟩:=List.pairwise_cons.1 p3;obtain ⟨p4,_⟩:=List.pairwise_cons.1 p4;exact ⟨g,off,cap,H[j],hb.cell 5,c6,f6,⟨b,vc,vm,_,T1,Us,Tm,[g],rfl,hb.aT hk (p1 [g] (by simp) b (by simp)),hc.aT hk (p2 [g] (by simp)) (fun U hU x hx=>p3 [g] (by simp) x (List.mem_flatten.2 ⟨U,hU,hx⟩)),hm.aT hk (p4 [g] (by simp)),by simpa using hs,ha,rfl⟩,hk.mono (fun x hx=>.inl (by simp at hx;simp [hx]))⟩
def E8 (r:List Bool × Bool) (b:Nat) (size most f:Int) (C:List (List Int)) (M:List Int) (S:List Nat) (w:World) (e:Ending) (w':World):Prop :=
 e=.returned (.bool r.2)∧aj S w w'∧Pl w' (.pointer (some ⟨b,0,none⟩)) size most C M f r.1 S
theorem Po.Uc {f:Int} {H:List Bool} {x:Int} (h:Po.live f H x=true) (hf:f≤H.length):∃ j:Nat,x=j∧j < H.length:=by
 simp [Po.live] at h;exact ⟨x.toNat,by omega,by omega⟩
set_option maxHeartbeats 800000 in
theorem KU (w:World) (b:Nat) (size most f:Int) (C:List (List Int)) (M:List Int) (H:List Bool) (S:List Nat) (v:Value) (l:List Int) (U:List Nat) (h:Pl w (.pointer (some ⟨b,0,none⟩)) size most C M f H S) (hf:f≤H.length) (AI:H.length≤1000)
  (hv:IV w v l U) (hd:∀ x∈U,x∉S) :
  Calls Tryz.prog 126 #[.pointer (some ⟨b,0,none⟩),v] w (E8 (Po.settle f H l) b size most f C M S w):=by
 have hm:=hv.le;unfold maxLen at hm;obtain ⟨ao,cap,rfl⟩:=hv.shape;have HV:=Lib.hid hv;have HP:=Lib.hid h;have HD:=Lib.hid hd;have HF:=Lib.hid hf;clear hv h hd hf
 go_enter Tryz.func126,Tryz.ntmps126
 go_wp2_with fail
 go_loopw [6,9] (fun _ i wr=>∃ (k:Nat) (H':List Bool),k≤l.length∧i=.int .i64 k∧aj S w wr∧Pl wr (.pointer (some ⟨b,0,none⟩)) size most C M f H' S∧H'.length=H.length∧Po.settle f H l=Po.settle f H' (l.drop k)) (fun _ i _=>l.length - (intOf i).toNat)
 case atStart=>exact ⟨0,H,Nat.zero_le _,rfl,aj.refl _ _,HP.out,rfl,rfl⟩
 case round =>
  obtain ⟨k,H',hk,rfl,dF,hp,hle,hs⟩:=hrel;have g9:=Lib.hid dF;have By:=Lib.hid hp;have HL:=Lib.hid hle;have HS:=Lib.hid hs;clear dF hp hle hs
  by_cases cA:k < l.length
  ·obtain ⟨g,off,rfl,rfl,hg,hc⟩:=(HV.out.aT g9.out HD.out).cells (by omega);have c0:=hc k cA;have HN:=Lib.hid (Po.Ub l k cA);clear hc;generalize l.getD k 0=x at *
   go_wp2_with fail
   refine (Dx _ _ _ _ _ _ _ _ _ x By.out (by rw [HL.out];exact HF.out)).mono ?_
   rintro e w1 ⟨rfl,rfl⟩
   cases hq:Po.live f H' x with
   | true =>
    have HQ:=Lib.hid hq;obtain ⟨j,rfl,hj⟩:=Po.Uc hq (by rw [HL.out];exact HF.out);obtain ⟨g2,sX,KV,t,d5,d6,f6,KW,k2⟩:=By.out.mark hj;have Ud:=Lib.hid KW;have ue:=Lib.hid k2;have hh:H'.length≤1000:=by rw [HL.out];exact AI
    have lC:Hid (Po.settle f H l=Po.settle f (H'.set j true) (l.drop (k + 1))):=Lib.hid (by
     rw [HS.out,HN.out];rw [Po.vW,if_pos HQ.out];rfl)
    clear KW k2 c0 hq
    go_wp2_with fail
    go_roundw
    case rel=>exact ⟨k + 1,_,by omega,by go_num,g9.out.trans ue.out (fun y hy=>.inl hy),Ud.out,by rw [List.length_set];exact HL.out,lC.out⟩
    case measure=>simp [intOf];omega
   | false =>
    have lC:Hid (Po.settle f H l=(H',false)):=Lib.hid (by
     rw [HS.out,HN.out];rw [Po.vW,if_neg (by simp [hq])])
    clear c0
    go_wp2_with fail
    go_ret
    unfold E8;rw [lC.out];exact ⟨rfl,g9.out,By.out⟩
  ·obtain rfl:k=l.length:=by omega
   have lC:Hid (Po.settle f H l=(H',true)):=Lib.hid (by rw [HS.out,List.drop_length];rfl)
   go_wp2_with fail
   go_ret
   unfold E8;rw [lC.out];exact ⟨rfl,g9.out,By.out⟩
open Go.RowKit
theorem Ue (w:World) (size cj most:Int) :
  Calls Tryz.prog 123 #[.int .i64 size,.int .i64 cj,.int .i64 most] w fun e w'=>e=.returned (.bool (Po.fits size cj most))∧w=w':=by
 have yb:size < 0∨(0≤size∧64 < size)∨(0≤size∧size≤64∧cj < 0)∨(0≤size∧size≤64∧0≤cj∧8 < cj)∨(0≤size∧size≤64∧0≤cj∧cj≤8∧most < 1)∨(0≤size∧size≤64∧0≤cj∧cj≤8∧1≤most∧16 < most)∨(0≤size∧size≤64∧0≤cj∧cj≤8∧1≤most∧most≤16):=by omega
 obtain ⟨c,hc⟩:∃ c,c=Po.fits size cj most:=⟨_,rfl⟩
 have HC:=Lib.hid hc;rw [← hc];clear hc;rcases yb with h1 | ⟨h1,h2⟩ | ⟨h1,h2,h3⟩ | ⟨h1,h2,h3,h4⟩ | ⟨h1,h2,h3,h4,h5⟩ | ⟨h1,h2,h3,h4,h5,h6⟩ | ⟨h1,h2,h3,h4,h5,h6⟩
 all_goals go_enter Tryz.func123,Tryz.ntmps123
 all_goals go_wp2_with fail
 all_goals go_ret
 all_goals exact ⟨cS (by rw [HC.out,Bool.eq_iff_iff];simp [Po.fits];omega),rfl⟩
open Go.RowKit
namespace Po
def once (f:Int) (L:List Int):Bool:=decide (∀ i,i < L.length→0≤L.getD i 0∧L.getD i 0 < f∧L.getD i 0∉L.take i)
def right (size most f:Int) (C:List (List Int)) (M:List Int):Bool :=
 fits size C.length most && decide (0≤f) && decide (f≤size) && decide (∀ l∈C,(l.length:Int)≤most) && once f (M ++ C.flatten)
end Po
open Go.RowKit
theorem vX {A B F D E:List Nat}:fA [A,B,F,D,E]↔((∀ x∈A,x∉B∧x∉F∧x∉D∧x∉E)∧(∀ x∈B,x∉F∧x∉D∧x∉E)∧(∀ x∈F,x∉D∧x∉E)∧(∀ x∈D,x∉E)):=by
 simp only [fA,List.pairwise_cons,List.mem_cons,List.not_mem_nil,or_false,forall_eq_or_imp,forall_eq,List.Pairwise.nil,and_true,false_implies,implies_true]
 constructor
 ·rintro ⟨⟨a1,a2,a3,a4⟩,⟨b1,b2,b3⟩,⟨c1,c2⟩,d1⟩
  exact ⟨fun x hx=>⟨a1 x hx,a2 x hx,a3 x hx,a4 x hx⟩,fun x hx=>⟨b1 x hx,b2 x hx,b3 x hx⟩,fun x hx=>⟨c1 x hx,c2 x hx⟩,d1⟩
 ·rintro ⟨a,b,c,d⟩
  exact ⟨⟨fun x hx=>(a x hx).1,fun x hx=>(a x hx).2.1,fun x hx=>(a x hx).2.2.1,fun x hx=>(a x hx).2.2.2⟩,⟨fun x hx=>(b x hx).1,fun x hx=>(b x hx).2.1,fun x hx=>(b x hx).2.2⟩,⟨fun x hx=>(c x hx).1,fun x hx=>(c x hx).2⟩,d⟩
section
variable {w:World} {b:Nat} {size most f:Int} {C:List (List Int)} {M:List Int} {H:List Bool} {S:List Nat}
theorem Pl.Uf (h:Pl w (.pointer (some ⟨b,0,none⟩)) size most C M f H S) (f':Int) :
  w.cell? ⟨b,4,none⟩=some (.int .i64 f)∧w.frozen? ⟨b,4,none⟩=false∧Pl (w.setCell ⟨b,4,none⟩ (.int .i64 f')) (.pointer (some ⟨b,0,none⟩)) size most C M f' H S∧aj S w (w.setCell ⟨b,4,none⟩ (.int .i64 f')):=by
 obtain ⟨b',vc,vm,vh,T1,Us,Tm,Th,nD,hb,hc,hm,hh,ha,rfl⟩:=h
 cases nD;have k:aj [b] w (w.setCell ⟨b,4,none⟩ (.int .i64 f')):=(aj.refl _ w).setCell (by simp) _;have p:=(vX.1 ha).1 b (by simp);refine ⟨hb.cell 4,hb.free 4,⟨b,vc,vm,vh,T1,Us,Tm,Th,rfl,by simpa using hb.set 4 (.int .i64 f'),hc.aT k (fun x hx h=>?_) (fun U hU x hx h=>?_),hm.aT k (fun x hx h=>?_),hh.aT k (fun x hx h=>?_),ha,rfl⟩,k.mono (by simp)⟩
 all_goals (have h2:x=b:=by simpa using h);subst h2
 ·exact p.1 hx
 ·exact p.2.1 (List.mem_flatten.2 ⟨U,hU,hx⟩)
 ·exact p.2.2.1 hx
 ·exact p.2.2.2 hx
theorem Pl.aW (h:Pl w (.pointer (some ⟨b,0,none⟩)) size most C M f H S) :
  (∃ v0,w.cell? ⟨b,3,none⟩=some v0)∧w.frozen? ⟨b,3,none⟩=false∧b∈S∧∀ w' v' M' U',aj [] w w'→IR w' v' 3 M' U'→(∀ x∈U',w.heap.size≤x) →
   ∃ S',Pl (w'.setCell ⟨b,3,none⟩ v') (.pointer (some ⟨b,0,none⟩)) size most C M' f H S'∧aj S w (w'.setCell ⟨b,3,none⟩ v')∧∀ x∈S',x∈S∨w.heap.size≤x:=by
 have cA:=h.lt;obtain ⟨b',vc,vm,vh,T1,Us,Tm,Th,nD,hb,hc,hm,hh,ha,rfl⟩:=h
 cases nD;refine ⟨⟨_,hb.cell 3⟩,hb.free 3,by simp,fun w' v' M' U' k hr hU=>?_⟩;have gG:=hb.lt;have k2:aj [b] w' (w'.setCell ⟨b,3,none⟩ v'):=(aj.refl _ w').setCell (by simp) _;have p:=(vX.1 ha).1 b (by simp);have ap:=vX.1 ha;refine ⟨b :: (T1 ++ Us.flatten ++ U' ++ Th),⟨b,vc,v',vh,T1,Us,U',Th,rfl,by simpa using (hb.aT k (by simp)).set 3 v',(hc.aT k (by simp) (by simp)).aT k2 (fun x hx h=>?_) (fun U hU x hx h=>?_),hr.aT k2 (fun x hx h=>?_),(hh.aT k (by simp)).aT k2 (fun x hx h=>?_),?_,rfl⟩,?_,?_⟩
 ·have h2:x=b:=by simpa using h
  subst h2;exact p.1 hx
 ·have h2:x=b:=by simpa using h
  subst h2;exact p.2.1 (List.mem_flatten.2 ⟨U,hU,hx⟩)
 ·have h2:x=b:=by simpa using h
  have:=hU x hx;omega
 ·have h2:x=b:=by simpa using h
  subst h2;exact p.2.2.2 hx
 ·have hn:∀ x∈b :: (T1 ++ Us.flatten ++ Tm ++ Th),x∉U':=fun x hx h=>by have:=cA x hx;have:=hU x h;omega
  refine vX.2 ⟨fun x hx=>⟨(ap.1 x hx).1,(ap.1 x hx).2.1,hn x (by simp at hx;simp [hx]),(ap.1 x hx).2.2.2⟩,fun x hx=>⟨(ap.2.1 x hx).1,hn x (by simp [hx]),(ap.2.1 x hx).2.2⟩,fun x hx=>⟨hn x (List.mem_cons_of_mem _ (List.mem_append_left _ (List.mem_append_left _ (List.mem_append_right _ hx)))),(ap.2.2.1 x hx).2⟩,fun x hx h=>hn x (by simp [h]) hx⟩
 ·exact (k.mono (by simp)).trans k2 (fun x hx=>by simp at hx;simp [hx])
 ·intro x hx;simp only [List.mem_cons,List.mem_append] at hx ⊢;rcases hx with h | ((h | h) | h) | h
  ·exact .inl (.inl h)
  ·exact .inl (.inr (.inl (.inl (.inl h))))
  ·exact .inl (.inr (.inl (.inl (.inr h))))
  ·exact .inr (hU x h)
  ·exact .inl (.inr (.inr h))
theorem Pl.row (h:Pl w (.pointer (some ⟨b,0,none⟩)) size most C M f H S) {n:Nat} (hn:n < C.length) :
  ∃ g off cap,w.cell? ⟨b,2,none⟩=some (.slice (some ⟨g,off,none⟩) C.length cap)∧b∈S∧(∃ v0,w.cell? ⟨g,off + n,none⟩=some v0)∧w.frozen? ⟨g,off + n,none⟩=false∧∀ w' v' l' U',aj [] w w'→IR w' v' 3 l' U'→(∀ x∈U',w.heap.size≤x) →
   ∃ S',Pl (w'.setCell ⟨g,off + n,none⟩ v') (.pointer (some ⟨b,0,none⟩)) size most (C.set n l') M f H S'∧aj S w (w'.setCell ⟨g,off + n,none⟩ v')∧∀ x∈S',x∈S∨w.heap.size≤x:=by
 have cA:=h.lt;obtain ⟨b',vc,vm,vh,T1,Us,Tm,Th,nD,hb,hc,hm,hh,ha,rfl⟩:=h
 cases nD;obtain ⟨ao,cap,rfl⟩:=hc.shape;have hk:=List.getElem?_eq_getElem hn;obtain ⟨g,off,x,U,rfl,rfl,hg,c6,f6,hr,hU,Aw⟩:=hc.get hk;refine ⟨g,off,cap,hb.cell 2,by simp,⟨x,c6⟩,f6,fun w' v' l' U' k tK qY=>?_⟩;have k2:aj [g] w' (w'.setCell ⟨g,off + n,none⟩ v'):=(aj.refl _ w').setCell (by simp) _;have ap:=vX.1 ha;have kZ:∀ x∈(Us.set n U').flatten,x∈Us.flatten∨w.heap.size≤x:=fun x hx=>by
  rcases uh hx with h | h
  ·exact .inl h
  ·exact .inr (qY x h)
 have Ug:=hc.II hk hU k (by simp) (by simp) tK (fun x hx=>.inr (qY x hx));refine ⟨b :: ([g] ++ (Us.set n U').flatten ++ Tm ++ Th),⟨b,_,vm,vh,[g],Us.set n U',Tm,Th,rfl,((hb.aT k (by simp))).aT k2 (fun h=>?_),by simpa using Ug,(hm.aT k (by simp)).aT k2 (fun x hx h=>?_),(hh.aT k (by simp)).aT k2 (fun x hx h=>?_),?_,rfl⟩,?_,?_⟩
 ·exact (ap.1 b (by simp)).1 h
 ·exact (ap.2.1 x h).2.1 hx
 ·exact (ap.2.1 x h).2.2 hx
 ·have kY:∀ y∈b :: ([g] ++ Us.flatten ++ Tm ++ Th),∀ x∈(Us.set n U').flatten,x=y→x∈Us.flatten:=fun y hy x hx e=>by
   rcases kZ x hx with h | h
   ·exact h
   ·have:=cA y hy;omega
  refine vX.2 ⟨fun x hx=>⟨(ap.1 x hx).1,fun h=>(ap.1 x hx).2.1 (kY x (by simp at hx;simp [hx]) x h rfl),(ap.1 x hx).2.2⟩,fun x hx=>⟨fun h=>(ap.2.1 x hx).1 (kY x (by simp at hx;simp [hx]) x h rfl),(ap.2.1 x hx).2⟩,fun x hx=>⟨fun h=>(ap.2.2.1 x (kY x (by simp [h]) x hx rfl)).1 h,fun h=>(ap.2.2.1 x (kY x (by simp [h]) x hx rfl)).2 h⟩,ap.2.2.2⟩
 ·exact (k.mono (by simp)).trans k2 (fun x hx=>by simp at hx;simp [hx])
 ·intro x hx;simp only [List.mem_cons,List.mem_append] at hx ⊢;rcases hx with h | ((h | h) | h) | h
  ·exact .inl (.inl h)
  ·exact .inl (.inr (.inl (.inl (.inl h))))
  ·rcases kZ x h with h | h
   ·exact .inl (.inr (.inl (.inl (.inr h))))
   ·exact .inr h
  ·exact .inl (.inr (.inl (.inr h)))
  ·exact .inl (.inr (.inr h))
end
end Go.Proofs.YtofnbflkhgammaaGreat
