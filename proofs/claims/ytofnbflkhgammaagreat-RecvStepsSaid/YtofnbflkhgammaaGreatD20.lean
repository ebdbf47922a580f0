/-
  What the laws need, part D20.
  Conditions: none.
-/
import Derived.Test.YtofnbflkhgammaaGreatD14
import Derived.Test.YtofnbflkhgammaaGreatD19
set_option linter.unusedVariables false
set_option linter.unusedSimpArgs false
set_option linter.unnecessarySimpa false
set_option maxHeartbeats 2000000
namespace Go.Proofs.YtofnbflkhgammaaGreat
namespace Sx
variable {s t:ah} {g:Nat} {nc ns n:Int} {x y:Gr}
theorem MInv.lY (h:MInv s) (hg:g < s.gs.length) (st:(aa s g).status=0) (k:(ag s g).kind=9) (e:(aa s g).place=32):MInv (lY s g):=by
 have L:=h.loc hg;have kx:SE (aa s g):=k;have b:=h.j5 hg k (by unfold dQ;omega);have ei:=h.qU hg (by omega);have nw:¬ Wt (aa s g):=oJ (by omega);obtain ⟨pm,tk⟩:=L.vv nw;have dD:=b.hand (by omega);have k2:=b.k2 (by omega);have k0:=b.k0;have s2:=b.s2 (by omega);have s6:=b.s6 (by omega);have l3:=b.l3;have pk:=b.c2 (by omega);have jK:=Ck k0 k2;unfold Sx.lY;simp only;generalize hi:aD (aa s g).order (aa s g).k=i at *;have kS:i < ((aa s g).ay.length:Int):=by rw [s2];exact dD.2.2.1
 have v0:=s6 i dD.1;obtain ⟨w,w1,w2,w3,w4,w5,w6⟩:=h.zY hg k (by omega) dD.2.1 kS v0;generalize hv:aD (aa s g).ay i=v at *;rw [drop_eq w4 dD.2.2.2.2.1 dD.2.2.2.2.2];have fin:∀ (y:Gr),jB (aa s g) y→y.ay=(aa s g).ay→y.an=(aa s g).an→y.res.code=(aa s g).res.code→(y.place=32∧y.k=(aa s g).k + 1∧(aa s g).k + 1 < (aa s g).order.length∨y.place=33∧y.k=(aa s g).aF.length∧(aa s g).k + 1=(aa s g).order.length) →
   MInv (ai (aE s (bV (aa s g) i) (cu (cn s (bV (aa s g) i)) v)) g y):=by
  intro y hk jQ sO Cp hp;have dS:SE y:=hk.se.2 kx;have ho:=hk.aG;have hc:=hk.ch;have o1:=b.o1;have pX:gB s.au.length s.aC.length y:=by
   constructor
   ·rw [hk.order,hk.aF,ho];simp only [hc];exact o1
   ·rw [hk.order];exact b.o2
   ·rw [hk.order];exact b.o3
   ·rw [hk.aF];exact b.l1
   ·rw [hk.aF];exact b.l2
   ·rw [hk.aF];exact l3
   ·omega
   ·intro c;omega
   ·rw [hk.order];intro c;omega
   ·rw [hk.aF];intro c;omega
   ·intro c;omega
   ·intro _;rw [jQ,ho];exact s2
   ·intro c;omega
   ·rw [jQ,hk.order];exact b.s4
   ·intro c;omega
   ·rw [jQ,hk.order];intro _;exact s6
   ·intro c;omega
   ·intro c;omega
   ·intro _;rw [hk.bz];exact pk
   ·intro c;omega
  have hold:∀ ch,bE y ch↔bE (aa s g) ch:=by
   intro ch;rw [mV dS (by unfold j6;rw [hk.aF];omega),mV kx (by unfold j6;omega),hk.aF]
  refine h.chan hg dD.2.2.2.2.1 dD.2.2.2.2.2 (L.mS kx (by omega) hk.ops hk.at_ (by rw [hk.status];exact st) (by rw [hk.token];exact tk) (by rw [hk.param];exact pm) (by omega) (by rw [sO,ei];simp) (by rw [sO,ei];simp) (by rw [sO,ei];simp) (by omega) h.jb pX) ⟨.inl ⟨rfl,hold⟩,h.gE dD.2.2.2.2.1 dD.2.2.2.2.2,⟨jA,jA⟩,.inr ((mV kx (by unfold j6;omega) _).2 dD.2.2.2.1)⟩ (vz kx dS (by omega) (by omega) jQ) (fun i d _ m=>hk.mt kx jQ m) ?_ (by unfold cI;omega) (by unfold cX;omega) (fun q=>by rw [sO];exact id) (fun w=>absurd w.1 nw) (fun w=>absurd w.1 nw) hk.at_;intro j l q ch a c hj;rcases q with q | q
  ·exact absurd kx q.1.ne
  ·obtain ⟨q1,q2,q3,q4,q5⟩:=q;have q6:l∈(aa s g).order.drop (aa s g).k.toNat:=by
    rcases q5 with z | z | z | z | z | z
    ·omega
    ·omega
    ·omega
    ·omega
    ·omega
    ·exact z.2
   have bO:l≠i:=by
    intro z;subst z;have ej:j=v:=q4.symm.trans hv;subst ej;have hq:j∈(cn s ch).recv∨j∈(cn s ch).send:=by
     unfold up at hj
     split at hj
     ·rename_i z;subst z;exact hj.imp (fun h=>jA.subset h) (fun h=>jA.subset h)
     ·exact hj
    obtain ⟨o,qq⟩:=h.xw (g:=g) a c hq;have:ch=bV (aa s g) l:=qq.ch.symm.trans w4;subst this;rw [iA] at hj;rcases hj with hj | hj
    ·exact oI hj
    ·exact oI hj
   rw [jK] at q6;have q7:=(List.mem_cons.1 q6).resolve_left bO;rcases hp with hp | hp
   ·refine .inr ⟨dS,q2,by rw [jQ];exact q3,by rw [jQ];exact q4,.inr (.inr (.inr (.inr (.inr ⟨hp.1,?_⟩))))⟩;rw [hk.order,hp.2.1];exact q7
   ·have:(aa s g).order.drop ((aa s g).k + 1).toNat=[]:=List.drop_eq_nil_of_le (by omega);rw [this] at q7;simp at q7
 have gP:g < (aE s (bV (aa s g) i) (cu (cn s (bV (aa s g) i)) v)).gs.length:=hg;have g0:aa (aE s (bV (aa s g) i) (cu (cn s (bV (aa s g) i)) v)) g=aa s g:=rfl
 by_cases c:(aa s g).k + 1 < (aa s g).order.length
 ·rw [if_pos c,Gu gP,g0,aB];exact fin _ ⟨rfl,rfl,rfl,rfl,rfl,rfl,rfl,rfl,rfl⟩ rfl rfl rfl (.inl ⟨e,rfl,c⟩)
 ·rw [if_neg c,Wc gP,g0];exact fin _ ⟨rfl,rfl,rfl,rfl,rfl,rfl,rfl,rfl,rfl⟩ rfl rfl rfl (.inr ⟨rfl,rfl,by omega⟩)
structure Wp (x y:Gr) (i:Int):Prop where
 ops:y.ops=x.ops
 at_:y.at_=x.at_
 status:y.status=x.status
 token:y.token=x.token
 bz:y.bz=x.bz
 param:y.param=x.param
 order:y.order=x.order
 aF:y.aF=x.aF
 an:y.an=x.an
 hp:y.place=34∧y.k=x.k + 1∧x.k + 1 < x.order.length∧y.ay=x.ay.set i.toNat (-1)∨x.k + 1=x.order.length∧y.ay=[]∧(y.place=17∧x.an≠[]∨y.place=18∧x.an=[])
theorem MInv.Gz (h:MInv s) (hg:g < s.gs.length) (st:(aa s g).status=0) (k:(ag s g).kind=9) (e:(aa s g).place=34) {y:Gr} (f:Wp (aa s g) y (aD (aa s g).order (aa s g).k)) :
  MInv (ai (if 0≤aD (aa s g).ay (aD (aa s g).order (aa s g).k) then cq s g (aD (aa s g).ay (aD (aa s g).order (aa s g).k)) else s) g y):=by
 have L:=h.loc hg;have kx:SE (aa s g):=k;have b:=h.j5 hg k (by unfold dQ;omega);have nw:¬ Wt (aa s g):=oJ (by omega);obtain ⟨pm,tk⟩:=L.vv nw;have dD:=b.hand (by omega);have k2:=b.k2 (by omega);have k0:=b.k0;have s2:=b.s2 (by omega);have s4:=b.s4;have s7:=b.s7 e;have l3:=b.l3;have jK:=Ck k0 k2;have tX:=zV k0 k2;have nq:=sF kx (x:=aa s g) (by omega);generalize hi:aD (aa s g).order (aa s g).k=i at *;have kS:i < ((aa s g).ay.length:Int):=by rw [s2];exact dD.2.2.1
 have ho:aG y=aG (aa s g):=by unfold aG;rw [f.ops,f.at_]
 have hc:∀ j,bV y j=bV (aa s g) j:=fun j=>by unfold bV;rw [ho]
 have dS:SE y:=by unfold SE;rw [ho];exact kx
 have hp:=f.hp;have jy:∀ j:Int,0≤j→j < (aa s g).ay.length→aD ((aa s g).ay.set i.toNat (-1)) j=if j=i then -1 else aD (aa s g).ay j:=fun j a c=>Nc dD.2.1 a c
 have o1:=b.o1;have o3:=b.o3;have lx:Loc s.au.length s.aC.length s.gs.length y:=by
  rcases hp with p | p
  ·have pX:gB s.au.length s.aC.length y:=by
    have jw:y.ay.length=(aa s g).ay.length:=by rw [p.2.2.2,List.length_set]
    constructor
    ·rw [f.order,f.aF,ho];simp only [hc];exact o1
    ·rw [f.order];exact b.o2
    ·rw [f.order];exact o3
    ·rw [f.aF];exact b.l1
    ·rw [f.aF];exact b.l2
    ·rw [f.aF];exact l3
    ·omega
    ·intro c;omega
    ·rw [f.order];intro c;omega
    ·rw [f.aF];intro c;omega
    ·intro c;omega
    ·intro _;rw [jw,ho];exact s2
    ·intro c;omega
    ·intro j a c;rw [jw] at c;rw [p.2.2.2,jy j a c,f.order]
     split
     ·have:=h.jb;exact ⟨by decide,by omega,fun c=>absurd c (by decide)⟩
     ·exact s4 j a c
    ·intro c;omega
    ·intro c;omega
    ·intro _ j hj;rw [f.order,p.2.1,tX] at hj;have pY:0≤j∧j < (aG (aa s g)).cases.length:=by
      rcases List.mem_append.1 hj with w | w
      ·have:=o1 j (List.mem_of_mem_take w);exact ⟨this.1,this.2.1⟩
      ·rw [List.mem_singleton.1 w];exact ⟨dD.2.1,dD.2.2.1⟩
     rw [p.2.2.2,jy j pY.1 (by rw [s2];exact pY.2)]
     split
     ·rfl
     ·rename_i z;rcases List.mem_append.1 hj with w | w
      ·exact s7 j w
      ·exact absurd (List.mem_singleton.1 w) z
    ·intro c;omega
    ·intro c;omega
    ·intro c;omega
   exact L.mS kx (by omega) f.ops f.at_ (by rw [f.status];exact st) (by rw [f.token];exact tk) (by rw [f.param];exact pm) (by omega) (fun _=>.inl p.1) (by rw [f.an];exact L.w3) (by rw [f.an];exact L.w4) (by omega) h.jb pX
  ·exact L.fin kx (by omega) f.ops f.at_ (by rw [f.status];exact st) (by rw [f.token];exact tk) (by rw [f.param];exact pm) (by rw [f.an];exact p.2.2) (by rw [f.an];exact L.w3) (by rw [f.an];exact L.w4) h.jb
 have Cr:∀ ch,¬ bE (aa s g) ch:=by
  intro ch w;rw [vw kx] at w;omega
 have Ct:∀ ch,¬ bE y ch:=by
  intro ch w;rw [vw dS] at w;omega
 have own:∀ j,Own y j↔Own (aa s g) j∧j≠aD (aa s g).ay i:=by
  intro j;have uniq:∀ c:Int,0≤c→c < (aa s g).ay.length→0≤aD (aa s g).ay c→aD (aa s g).ay c=aD (aa s g).ay i→c=i:=by
   intro c c0 c1 c2 c3;have a1:=h.zY hg k (by omega) c0 c1 c2;have a2:=h.zY hg k (by omega) dD.2.1 kS (by rw [← c3];exact c2);have:=a1.2.2.2.1;rw [c3] at this;exact this.symm.trans a2.2.2.2.1
  rcases hp with p | p
  ·constructor
   ·rintro ⟨j0,w | w⟩
    ·exact absurd dS w.1.ne
    ·have w3:=w.2.2;rw [p.2.2.2] at w3;obtain ⟨c,c0,c1,c2⟩:=oK.1 w3;rw [List.length_set] at c1;rw [jy c c0 c1] at c2
     split at c2
     ·omega
     ·rename_i z;refine ⟨⟨j0,.inr ⟨kx,by omega,oK.2 ⟨c,c0,c1,c2⟩⟩⟩,fun q=>z (uniq c c0 c1 (by omega) (c2.trans q))⟩
   ·rintro ⟨⟨j0,w | w⟩,w2⟩
    ·exact absurd kx w.1.ne
    ·obtain ⟨c,c0,c1,c2⟩:=oK.1 w.2.2;refine ⟨j0,.inr ⟨dS,by omega,?_⟩⟩;rw [p.2.2.2];refine oK.2 ⟨c,c0,by rw [List.length_set];exact c1,?_⟩;rw [jy c c0 c1,if_neg (fun z=>w2 (by rw [← c2,z]))];exact c2
  ·constructor
   ·rintro ⟨j0,w | w⟩
    ·exact absurd dS w.1.ne
    ·have:=w.2.2;rw [p.2.1] at this;simp at this
   ·rintro ⟨⟨j0,w | w⟩,w2⟩
    ·exact absurd kx w.1.ne
    ·exfalso
     obtain ⟨c,c0,c1,c2⟩:=oK.1 w.2.2;have co:=(s4 c c0 c1).2.2 (by omega);rw [← List.take_append_drop (aa s g).k.toNat (aa s g).order,jK] at co;rcases List.mem_append.1 co with q | q
     ·have:=s7 c q;omega
     ·rcases List.mem_cons.1 q with q | q
      ·subst q;exact w2 c2.symm
      ·have:(aa s g).order.drop ((aa s g).k + 1).toNat=[]:=List.drop_eq_nil_of_le (by omega);rw [this] at q;simp at q
 have mt:∀ j d,Own y j→Match (aa s g) j d→Match y j d:=by
  intro j d wo m;have bO:=((own j).1 wo).2;have j0:=wo.1;rcases m with m | m
  ·exact absurd kx m.1.ne
  ·obtain ⟨_,m1,m2,m3,m4,m5,m6,m7⟩:=m;rcases hp with p | p
   ·have jw:y.ay.length=(aa s g).ay.length:=by rw [p.2.2.2,List.length_set]
    refine .inr ⟨dS,m1,by rw [jw];exact m2,?_,by rw [hc];exact m4,by rw [ho];exact m5,by rw [f.order];exact m6,?_⟩
    ·rw [p.2.2.2,jy _ m1 m2,if_neg (fun z=>bO (by rw [← m3,z]))];exact m3
    ·intro q q0 q1 q2;rw [jw] at q1;rw [p.2.2.2,jy q q0 q1] at q2
     split at q2
     ·omega
     ·exact m7 q q0 q1 q2
   ·exfalso
    rcases wo.2 with w | w
    ·exact w.1.ne dS
    ·have:=w.2.2;rw [p.2.1] at this;simp at this
 have Nh:¬ cI y:=by unfold cI;omega
 have gD:¬ cX y:=by unfold cX;omega
 by_cases hv:0≤aD (aa s g).ay i
 ·rw [if_pos hv];exact h.Mw hg (h.zY hg k (by omega) dD.2.1 kS hv).1 lx (fun ch=>⟨fun w=>absurd w (Ct ch),fun w=>absurd w (Cr ch)⟩) own mt nq Nh gD f.an nw f.at_
 ·rw [if_neg hv];refine h.self hg ⟨lx,fun ch=>⟨fun w=>absurd w (Ct ch),fun w=>absurd w (Cr ch)⟩,fun j=>?_,mt,fun i j w=>absurd w (nq i j),gD,fun q=>by rw [f.an];exact id,fun w=>absurd w.1 nw,fun w=>absurd w.1 nw⟩ f.at_ (fun w=>absurd w Nh);rw [own];exact ⟨fun w=>w.1,fun w=>⟨w,fun z=>by have:=w.1;omega⟩⟩
theorem Wq {s:ah} {g:Nat} {v:Int}:(cq s g v).gs.length=s.gs.length:=by
 unfold cq aR ez
 split <;> rfl
theorem MInv.ku (h:MInv s) (hg:g < s.gs.length) (st:(aa s g).status=0) (k:(ag s g).kind=9) (e:(aa s g).place=34):MInv (ku s g):=by
 have b:=h.j5 hg k (by unfold dQ;omega);have k2:=b.k2 (by omega);unfold Sx.ku;simp only;obtain ⟨t,ht⟩:∃ t,(if 0≤aD (aa s g).ay (aD (aa s g).order (aa s g).k) then cq s g (aD (aa s g).ay (aD (aa s g).order (aa s g).k)) else s)=t:=⟨_,rfl⟩
 have hl:t.gs.length=s.gs.length:=by rw [← ht];split;exact Wq;rfl
 rw [ht]
 split
 ·rename_i c;rw [zW (by rw [hl];exact hg),if_pos c];unfold an;rw [iQ (by rw [hl];exact hg),if_pos rfl]
  split
  ·rename_i c2;rw [oH _ _ _ _ (by rw [hl];exact hg),← ht];exact h.Gz hg st k e ⟨rfl,rfl,rfl,rfl,rfl,rfl,rfl,rfl,rfl,.inr ⟨c,rfl,.inl ⟨rfl,List.length_pos_iff.1 c2⟩⟩⟩
  ·rename_i c2;rw [oH _ _ _ _ (by rw [hl];exact hg),← ht];exact h.Gz hg st k e ⟨rfl,rfl,rfl,rfl,rfl,rfl,rfl,rfl,rfl,.inr ⟨c,rfl,.inr ⟨rfl,List.length_eq_zero_iff.1 (by simp only at c2;omega)⟩⟩⟩
 ·rename_i c;rw [zW (by rw [hl];exact hg),if_neg c,← ht];exact h.Gz hg st k e ⟨rfl,rfl,rfl,rfl,rfl,rfl,rfl,rfl,rfl,.inl ⟨e,rfl,by omega,rfl⟩⟩
theorem MInv.bL (h:MInv s) (hg:g < s.gs.length) (st:(aa s g).status=0):MInv (bL s g).1:=by
 unfold Sx.bL;simp only
 by_cases k:(ag s g).kind≠9
 ·rw [if_pos k];exact h
 rw [if_neg k];have k9:(ag s g).kind=9:=by omega
 by_cases Aa:(aa s g).place=24
 ·rw [if_pos Aa];exact h.MY hg st k9 25 (.inl ⟨Aa,rfl⟩)
 rw [if_neg Aa]
 by_cases Ab:(aa s g).place=25
 ·rw [if_pos Ab];exact h.kq hg st k9 Ab
 rw [if_neg Ab]
 by_cases Ac:(aa s g).place=26
 ·rw [if_pos Ac];exact h.V9 hg st k9 Ac
 rw [if_neg Ac]
 by_cases Ad:(aa s g).place=27
 ·rw [if_pos Ad];exact h.kr hg st k9 Ad
 rw [if_neg Ad]
 by_cases Ae:(aa s g).place=28
 ·rw [if_pos Ae];exact h.aC hg st k9 Ae
 rw [if_neg Ae]
 by_cases Af:(aa s g).place=29
 ·rw [if_pos Af];exact h.lX hg st k9 Af
 rw [if_neg Af]
 by_cases Ag:(aa s g).place=30
 ·rw [if_pos Ag];have:=h.Wn hg st k9 Ag
  split
  ·rename_i c;rw [if_pos c] at this;exact this
  rename_i c;rw [if_neg c] at this
  split
  ·rename_i c;rw [if_pos c] at this;exact this
  rename_i c;rw [if_neg c] at this
  split
  ·rename_i c;rw [if_pos c] at this;exact this
  ·rename_i c;rw [if_neg c] at this;exact this
 rw [if_neg Ag]
 by_cases jP:(aa s g).place=14
 ·rw [if_pos jP];exact h.Wf hg st k9 jP
 rw [if_neg jP]
 by_cases xC:(aa s g).place=31
 ·rw [if_pos xC];exact h.MY hg st k9 32 (.inr ⟨xC,rfl⟩)
 rw [if_neg xC]
 by_cases Ah:(aa s g).place=32
 ·rw [if_pos Ah];exact h.lY hg st k9 Ah
 rw [if_neg Ah]
 by_cases Ai:(aa s g).place=33
 ·rw [if_pos Ai];have:=h.Wo hg st k9 Ai
  split
  ·rename_i c;rw [if_pos c] at this;exact this
  ·rename_i c;rw [if_neg c] at this;exact this
 rw [if_neg Ai]
 by_cases Aj:(aa s g).place=34
 ·rw [if_pos Aj];exact h.ku hg st k9 Aj
 rw [if_neg Aj]
 by_cases e1:(aa s g).place=13∨(aa s g).place=17
 ·rw [if_pos e1];exact h.common hg st (.inr e1)
 rw [if_neg e1];exact h
theorem MInv.tick (h:MInv s):MInv { s with step:=s.step + 1 } :=
 ⟨h.v,h.n1,h.n8,h.c8,h.sn,h.kJ,h.c1,h.tV,h.ca,h.f0,h.po,h.sE,h.tW,h.du,h.d5,h.dn⟩
theorem MInv.one (h:MInv s) (p:Int):MInv (one s p).1:=by
 unfold Sx.one
 split
 ·exact h
 rename_i c;have c0:0≤p∧p < s.gs.length∧(aa s p.toNat).status=0:=by
  refine ⟨by omega,by omega,?_⟩
  by_cases z:(aa s p.toNat).status=0
  ·exact z
  ·exact absurd (.inr (.inr z)) c
 have hg:p.toNat < ({ s with step:=s.step + 1 }:ah).gs.length:=by show p.toNat < s.gs.length;omega
 have ht:=h.tick;have st:(aa { s with step:=s.step + 1 } p.toNat).status=0:=c0.2.2;simp only
 split
 ·exact ht.jj hg st
 split
 ·exact ht.bu hg st
 split
 ·exact ht.bR hg st
 split
 ·exact ht.dU hg st
 split
 ·exact ht.bL hg st
 ·exact h
end Sx
namespace Sx
theorem GA {p:List (List Pn.Op)} {a c:Int} {d:List Int} {g:Nat} (hg:g < p.length):aa (start p a c d) g=clean (p.getD g []) 0:=by
 unfold aa start;simp only [List.getD_eq_getElem?_getD,List.getElem?_map,List.getElem?_eq_getElem hg];rfl
theorem MInv.start {p:List (List Pn.Op)} {a c:Int} {d:List Int} (hp:Pn.right p=true) (hc:can a p.length c=true) (hd:∀ x∈d,0≤x∧x < 65536) (hl:d.length≤1000):MInv (start p a c d):=by
 unfold Pn.right at hp;simp only [decide_eq_true_eq] at hp;unfold can at hc;simp only [decide_eq_true_eq] at hc;obtain ⟨p1,p8,pr⟩:=hp;have lg:(Sx.start p a c d).gs.length=p.length:=by simp [Sx.start]
 have lc:(Sx.start p a c d).au.length=0:=rfl;have ls:(Sx.start p a c d).aC.length=a.toNat:=by simp [Sx.start]
 have Wr:∀ i,su (Sx.start p a c d) i=fj:=by
  intro i;unfold su Sx.start;simp only [List.getD_eq_getElem?_getD,List.getElem?_replicate]
  split <;> rfl
 have Ws:∀ i,gG (Sx.start p a c d) i=false:=by
  intro i;unfold gG;have:(Sx.start p a c d).fresh=0:=rfl;rw [this]
  by_cases z:0≤i
  ·have:¬ i < 0:=by omega
   simp [this]
  ·simp [z]
 have Wu:((Sx.start p a c d).cache).flatten=[]:=by
  unfold Sx.start;simp only
  induction p with
  | nil=>rfl
  | cons x l ih=>simp
 have vF:∀ g,0≤g→g < (p.length:Int)→gA (Sx.start p a c d) g=clean (p.getD g.toNat []) 0:=fun g a b=>GA (by omega)
 have nO:∀ (l:List Pn.Op) i,¬ Own (clean l 0) i:=fun l i=>dX.own (by unfold dX clean;simp) i
 have nH:∀ (l:List Pn.Op) i,¬ bE (clean l 0) i:=fun l i=>dX.holds (by unfold dX clean;simp) i
 refine ⟨?_,by omega,by omega,by omega,by rw [ls];show ((a.toNat:Nat):Int)=a;omega,by omega,hc.2.2.2.2.1,hc.2.2.2.2.2,by simp [Sx.start],Int.le_refl _,⟨List.replicate a.toNat false,?_⟩,Int.le_refl _,by show (0:Int)≤_;omega,hd,hl,?_⟩
 ·unfold V;rw [lg,lc,ls]
  constructor
  ·intro g g0 g1;rw [vF g g0 g1];have hm:p.getD g.toNat []∈p:=by
    rw [List.getD_eq_getElem?_getD,List.getElem?_eq_getElem (by omega)];exact List.getElem_mem _
   have hr:=pr _ hm;unfold Pn.mC at hr;simp only [decide_eq_true_eq] at hr
   constructor
   ·exact hr.1
   ·exact hr.2
   ·exact Int.le_refl _
   ·unfold clean;simp only;omega
   ·exact .inl rfl
   ·intro z;exact absurd rfl z
   ·exact .inl rfl
   ·intro z;exact absurd z (by unfold clean;simp)
   ·intro z;exact absurd z (by unfold clean;simp)
   ·intro z;exact absurd z (by unfold clean;simp)
   ·intro z;exact absurd z (by unfold clean;simp)
   ·intro z;exact absurd rfl z
   ·intro z;exact absurd z (by unfold clean;simp)
   ·intro q z;exact absurd z (by unfold clean;simp)
   ·unfold clean;exact List.nodup_nil
   ·intro z;exact absurd z (by unfold clean;simp)
   ·intro _ z;exact absurd z (by unfold clean;simp)
   ·unfold clean;simp only;omega
   ·intro z;exact absurd z (by unfold clean;simp)
   ·intro z;exact absurd z (by unfold clean;simp)
   ·intro z;exact absurd z (by unfold clean;simp)
   ·intro _ z;unfold dQ clean at z;simp at z
  ·intro ch z1 z2;omega
  ·intro g _ _ ch z1 z2;omega
  ·intro ch z1 z2;omega
  ·intro g g0 g1 i w;rw [vF g g0 g1] at w;exact absurd w (nO _ _)
  ·intro ch z1 z2;omega
  ·intro ch z1 z2;omega
  ·intro g g0 g1 w;rw [vF g g0 g1] at w;exact absurd w (by unfold clean;simp)
  ·intro g g0 g1 w;rw [vF g g0 g1] at w;exact absurd w (by unfold clean;simp)
  ·intro g k g0 g1 _ _ w;rw [vF g g0 g1] at w;exact absurd w (by unfold clean;simp)
  ·intro g g0 g1 q w;rw [vF g g0 g1] at w;exact absurd w (by unfold clean;simp)
  ·intro g k q g0 g1 _ _ w;rw [vF g g0 g1] at w;exact absurd w (by unfold clean;simp)
  ·intro i _ _;rw [Wr];exact ⟨by simp [fj],by simp only [fj];omega,by simp [fj],by simp [fj]⟩
  ·intro i w;rw [Ws] at w;cases w
 ·have e:(Sx.start p a c d).cV.toNat=a.toNat:=rfl;have GB:∀ x,Po.dZ ⟨(Sx.start p a c d).cache,(Sx.start p a c d).middle,(Sx.start p a c d).fresh.toNat,List.replicate a.toNat false⟩ x=0:=by
   intro x;unfold Po.dZ;simp only;rw [Wu];rfl
  constructor
  ·show 1≤c.toNat;omega
  ·show c.toNat≤16;omega
  ·rw [e];omega
  ·simp [Sx.start]
  ·show (0:Int).toNat≤_;simp
  ·intro x;rw [GB];simp
  ·intro x z;rw [GB] at z;omega
  ·intro x z;rw [GB];simp only;rw [List.getD_eq_getElem?_getD,List.getElem?_replicate]
   split <;> rfl
  ·intro x z;have:x=[]:=by
    unfold Sx.start at z;simp only [List.mem_map] at z;obtain ⟨_,_,rfl⟩:=z;rfl
   rw [this];simp
 ·unfold oF;rw [lg];have:(List.range p.length).map (fun g=>(aa (Sx.start p a c d) g).at_)=(List.range p.length).map (fun _=>(0:Int)):=by
   refine List.map_congr_left fun g hg=>?_
   rw [GA (by simpa using hg)];rfl
  rw [this]
  show (0:Int)=_
  induction p.length with
  | zero=>rfl
  | succ n ih=>rw [List.range_succ,List.map_append,List.sum_append,← ih];rfl
end Sx
namespace Sx
structure Z (x:Gr):Prop where
 op:∀ o∈x.ops,o.cases.length≤6
 od:x.order.length≤6
 sg:x.ay.length≤6
 lk:x.aF.length≤6
def ZS (s:ah):Prop:=∀ g:Nat,Z (aa s g)
theorem Z.clean (a:Int):Z (clean [] a):=⟨by simp [Sx.clean],by simp [Sx.clean],by simp [Sx.clean],by simp [Sx.clean]⟩
section
variable {s t:ah} {g h:Nat}
theorem ZS.dy (z:ZS s) {x:Gr} (hx:Z x):ZS (ai s g x):=by
 intro k;unfold aa Sx.ai;simp only [List.getD_eq_getElem?_getD,List.getElem?_set]
 split
 ·split
  ·exact hx
  ·exact Z.clean _
 ·have:=z k;unfold aa at this;rw [List.getD_eq_getElem?_getD] at this;exact this
theorem ZS.of (z:ZS s) (e:t.gs=s.gs):ZS t:=by
 intro k;have:=z k;unfold aa at this ⊢;rw [e];exact this
theorem ZS.dJ (z:ZS s) {c:Int} {x:Cn}:ZS (aE s c x):=z.of rfl
theorem ZS.fW (z:ZS s) {c:Int} {x:Su}:ZS (aR s c x):=z.of rfl
theorem Z.same {x y:Gr} (z:Z x) (h1:y.ops=x.ops) (h2:y.order=x.order) (h3:y.ay=x.ay) (h4:y.aF=x.aF):Z y:=⟨by rw [h1];exact z.op,by rw [h2];exact z.od,by rw [h3];exact z.sg,by rw [h4];exact z.lk⟩
theorem ZS.put (zt:ZS t) (z:ZS s) (h:Nat) {x:Gr} (e:x.ops=(aa s h).ops∧x.order=(aa s h).order∧x.ay=(aa s h).ay∧x.aF=(aa s h).aF:=by exact ⟨rfl,rfl,rfl,rfl⟩):ZS (Sx.ai t g x):=zt.dy ((z h).same e.1 e.2.1 e.2.2.1 e.2.2.2)
theorem ZS.ite {c:Prop} [Decidable c] {β:Type} {a b:ah × β} (h1:ZS a.1) (h2:ZS b.1):ZS (if c then a else b).1:=by split <;> assumption
theorem ZS.cj {c:Prop} [Decidable c] {a b:ah} (h1:ZS a) (h2:ZS b):ZS (if c then a else b):=by split <;> assumption
theorem ZS.aI (z:ZS s) {p:Int}:ZS (aI s g p):=z.put z g
theorem ZS.bH (z:ZS s) {r:Md.ak} {p:Int}:ZS (bH s g r p):=z.put z g
theorem ZS.free (z:ZS s) {c:Int}:ZS (free s c):=z.dJ
theorem ZS.tryLock (z:ZS s) {c:Int}:ZS (tryLock s g c).1:=ZS.ite z.dJ z
theorem ZS.an (z:ZS s):ZS (an s g):=ZS.cj z.aI z.aI
theorem ZS.fA (z:ZS s):ZS (fA s g):=by
 unfold Sx.fA;refine z.dy ?_
 split
 ·exact (z g).same rfl rfl rfl rfl
 ·split
  ·exact (z g).same rfl rfl rfl rfl
  ·exact z g
theorem ZS.ready (z:ZS s):ZS (ready s g):=by
 unfold Sx.ready;refine z.dy ?_
 split
 ·exact (z g).same rfl rfl rfl rfl
 ·split
  ·exact (z g).same rfl rfl rfl rfl
  ·exact z g
theorem ZS.ez (z:ZS s) {v:Int}:ZS (ez s g v):=ZS.cj (z.of rfl) z
theorem ZS.cq (z:ZS s) {v:Int}:ZS (cq s g v):=z.ez.fW
theorem ZS.aS (z:ZS s):ZS (aS s g).1:=by
 unfold Sx.aS;refine ZS.ite (ZS.ite ?_ z) ?_
 ·exact z.of rfl
 ·exact z.of rfl
theorem ZS.drop (z:ZS s) {v:Int}:ZS (bq s v):=ZS.cj z.dJ z
theorem ZS.pair (z:ZS s) {v:Int}:ZS (pair s g v):=ZS.put (ZS.put z z (su s v).g.toNat) z g
theorem ZS.serve (z:ZS s) {v:Int} {d:Bool}:ZS (serve s g v d):=by
 have z2:ZS (Sx.aR (Sx.ai s (su s v).g.toNat { aa s (su s v).g.toNat with param:=v }) v { su s v with done:=d }):=ZS.fW (ZS.put z z (su s v).g.toNat);exact ZS.put z2 z2 g
theorem ZS.common (z:ZS s):ZS (common s g).1:=by
 unfold Sx.common;simp only;refine ZS.ite (ZS.ite (ZS.ite (ZS.aI z.tryLock) (ZS.aI z.tryLock)) z) ?_;refine ZS.ite (ZS.aI z.free) ?_;refine ZS.ite (ZS.fA (ZS.aI z)) ?_;refine ZS.ite (ZS.aI (ZS.put z.cq z g)) ?_;refine ZS.ite (ZS.an z.free) ?_;refine ZS.ite (ZS.an (ZS.put z.ready z g)) z
theorem ZS.taken (z:ZS s) {i a b:Int}:ZS (taken s g i a b) :=
 ZS.cj (ZS.aI (ZS.put z z g)) (ZS.aI (ZS.pair (ZS.drop (ZS.put z z g))))
theorem ZS.cQ (z:ZS s) {a b:Int}:ZS (cQ s g a b) :=
 ZS.cj (ZS.put z.drop z g) (ZS.aI (ZS.pair (ZS.put (ZS.put z z g) z (su s (aa s g).hold).g.toNat )))
theorem ZS.aH (z:ZS s) {d:Su}:ZS (aH s g d) :=
 ZS.cj (ZS.put z.aS.fW z g) (ZS.put z.aS z g)
theorem ZS.gL (z:ZS s) {v:Int}:ZS (gL s g v):=ZS.serve (ZS.fW z.drop)
theorem ZS.hand (z:ZS s) {c i:Int}:ZS (hand s c i).1:=by unfold Sx.hand;simp only;split;exact z;exact z.dJ
theorem ZS.bu (z:ZS s):ZS (bu s g).1:=by
 unfold Sx.bu;simp only;refine ZS.ite z ?_;refine ZS.ite z.common ?_;refine ZS.ite z ?_;refine ZS.ite (ZS.ite z.aI z.bH) ?_;refine ZS.ite (ZS.ite (ZS.put z z g) (ZS.put z z g)) ?_;refine ZS.ite (ZS.ite z.bH z.aI) ?_;refine ZS.ite (ZS.ite z.aI z.taken) ?_;refine ZS.ite z.cQ ?_;refine ZS.ite (ZS.put z.gL z.gL g) ?_;refine ZS.ite (ZS.ite (ZS.bH z.dJ) (ZS.ite z.bH z.aI)) ?_;refine ZS.ite z.aH ?_;refine ZS.ite (ZS.put z.dJ z g) ?_;exact ZS.ite (ZS.put z z g) z
theorem ZS.bR (z:ZS s):ZS (bR s g).1:=by
 unfold Sx.bR;simp only;refine ZS.ite z ?_;refine ZS.ite z.common ?_;refine ZS.ite z ?_;refine ZS.ite (ZS.ite z.aI z.bH) ?_;refine ZS.ite (ZS.ite z.aI (ZS.put z z g)) ?_;refine ZS.ite (ZS.ite (ZS.put z z g) z.bH) ?_;refine ZS.ite (ZS.ite z.bH (ZS.ite z.aI z.aI)) ?_;refine ZS.ite (ZS.ite z.aI z.taken) ?_;refine ZS.ite z.cQ ?_;refine ZS.ite (ZS.put (ZS.serve (ZS.hand z.drop)) (ZS.serve (ZS.hand z.drop)) g ) ?_;refine ZS.ite (ZS.ite (ZS.bH z.dJ) (ZS.ite z.bH z.aI)) ?_;refine ZS.ite z.aH ?_;refine ZS.ite (ZS.put z.dJ z g) ?_;exact ZS.ite (ZS.put z z g) z
theorem ZS.ji (z:ZS s):ZS (ji s g):=by
 have z2:ZS (Sx.bq (Sx.ai s g { aa s g with t:=s.step }) (aa s g).hold):=ZS.drop (ZS.put z z g);exact ZS.serve (ZS.put z2 z2 (su (Sx.bq (Sx.ai s g { aa s g with t:=s.step }) (aa s g).hold) (aa s g).hold).g.toNat)
theorem ZS.mE (z:ZS s) {i:Int}:ZS (mE s g i):=by
 have z2:ZS (Sx.ai s g { aa s g with hold:=i }):=ZS.put z z g;exact ZS.cj z2.aI z2.ji
theorem ZS.nY (z:ZS s):ZS (nY s g) :=
 ZS.cj (ZS.put z.drop z g) (ZS.aI (ZS.ji (ZS.put z z (su s (aa s g).hold).g.toNat)))
theorem ZS.dU (z:ZS s):ZS (dU s g).1:=by
 unfold Sx.dU;simp only;refine ZS.ite z ?_;refine ZS.ite z.common ?_;refine ZS.ite z ?_;refine ZS.ite (ZS.ite z.bH (ZS.bH z.dJ)) ?_;refine ZS.ite (ZS.ite z.mE (ZS.ite z.mE z.aI)) ?_;exact ZS.ite z.nY z
theorem ZS.unlock (z:ZS s) {p:Int}:ZS (unlock s g p):=ZS.put z z g
theorem ZS.fq (z:ZS s) {r:Md.ak} {i:Int}:ZS (fq s g r i):=by
 have z2:ZS (Sx.bH s g { r with cs:=i } 30):=z.bH;exact ZS.unlock (ZS.put z2 z2 g)
theorem ZS.lock (z:ZS s) {p:Int}:ZS (lock s g p) :=
 ZS.cj (ZS.cj (ZS.put z.tryLock z g) (ZS.put z.tryLock z g)) z
theorem ZS.next (z:ZS s) {p:Int}:ZS (next s g p):=ZS.cj (ZS.put z z g) (ZS.put z z g)
theorem ZS.gI (z:ZS s):ZS (gI s g):=ZS.cj (ZS.put z z g) (z.dy (z g))
theorem ZS.iU (z:ZS s) {i:Int} {k:Pn.Cs}:ZS (iU s g i k).1 :=
 ZS.ite z.fq (ZS.ite (ZS.gI z.taken) (ZS.ite (ZS.fq z.dJ) z))
theorem ZS.jH (z:ZS s) {i:Int} {k:Pn.Cs}:ZS (jH s g i k).1 :=
 ZS.ite (ZS.gI z.taken) (ZS.ite (ZS.fq z.dJ) (ZS.ite z.fq z))
theorem Cw (z:ZS s):(ag s g).cases.length≤6:=by
 unfold ag;rw [List.getD_eq_getElem?_getD]
 by_cases c:(aa s g).at_.toNat < (aa s g).ops.length
 ·rw [List.getElem?_eq_getElem c];exact (z g).op _ (List.getElem_mem c)
 ·rw [List.getElem?_eq_none (by omega)];simp [wC]
theorem ZS.kq (z:ZS s):ZS (kq s g (ag s g)):=by
 have hc:=Cw z (g:=g);have z2:ZS (Sx.ai s g { aa s g with ay:=List.replicate (ag s g).cases.length (-1) }):=z.dy ⟨(z g).op,(z g).od,by simp only [List.length_replicate];exact hc,(z g).lk⟩;unfold Sx.kq;simp only
 by_cases c1:(cy (ag s g) (aD (aa s g).order (aa s g).k)).send=true
 ·rw [if_pos c1];exact ZS.cj z.iU (ZS.cj z.next (ZS.cj z.fq z2.next))
 ·rw [if_neg c1];exact ZS.cj z.jH (ZS.cj z.next (ZS.cj z.fq z2.next))
theorem ZS.kr (z:ZS s) {o:Pn.Op}:ZS (kr s g o):=by
 unfold Sx.kr;simp only;have z1:=z.drop (v:=(aa s g).hold)
 by_cases c:(cy o (aD (aa s g).order (aa s g).k)).send=true
 ·simp only [if_pos c];exact ZS.unlock (ZS.put (ZS.serve z1.fW) (ZS.serve z1.fW) g )
 ·simp only [if_neg c];exact ZS.unlock (ZS.put (ZS.serve z1.hand) (ZS.serve z1.hand) g )
theorem ZS.aC (z:ZS s) {o:Pn.Op}:ZS (aC s g o):=by
 unfold Sx.aC;simp only;refine ZS.cj (ZS.next ?_) (ZS.unlock ?_)
 ·refine ZS.dy z.aS.fW ?_;exact ⟨(z g).op,(z g).od,by simp only [List.length_set];exact (z g).sg,(z g).lk⟩
 ·refine ZS.put z.aS z g
theorem ZS.lX (z:ZS s) {o:Pn.Op}:ZS (lX s g o) :=
 ZS.cj (ZS.next z.dJ) (ZS.unlock (ZS.put z.dJ z g))
theorem ZS.dc (z:ZS s):ZS (dc s g).1:=ZS.put z.free z g
theorem ZS.nj (z:ZS s):ZS (nj s g):=ZS.put z z g
theorem ZS.lY (z:ZS s):ZS (lY s g):=ZS.cj (ZS.next z.drop) (ZS.unlock z.drop)
theorem ZS.ku (z:ZS s):ZS (ku s g):=by
 unfold Sx.ku;simp only;have z1:ZS (if 0≤aD (aa s g).ay (aD (aa s g).order (aa s g).k) then Sx.cq s g (aD (aa s g).ay (aD (aa s g).order (aa s g).k)) else s):=ZS.cj z.cq z;generalize (if 0≤aD (aa s g).ay (aD (aa s g).order (aa s g).k) then Sx.cq s g (aD (aa s g).ay (aD (aa s g).order (aa s g).k)) else s)=t at *;refine ZS.cj (ZS.an (ZS.next ?_)) (ZS.next ?_)
 ·refine ZS.dy z1 ?_;exact ⟨(z g).op,(z g).od,by simp,(z g).lk⟩
 ·refine ZS.dy z1 ?_;exact ⟨(z g).op,(z g).od,by simp only [List.length_set];exact (z g).sg,(z g).lk⟩
theorem ZS.bL (z:ZS s):ZS (bL s g).1:=by
 unfold Sx.bL;simp only;refine ZS.ite z ?_;refine ZS.ite z.lock ?_;refine ZS.ite z.kq ?_;refine ZS.ite (ZS.gI z.cQ) ?_;refine ZS.ite z.kr ?_;refine ZS.ite z.aC ?_;refine ZS.ite z.lX ?_;refine ZS.ite (ZS.ite z.dc (ZS.ite (ZS.aI z.dc) (ZS.ite (ZS.aI z.dc) (ZS.an z.dc)))) ?_;refine ZS.ite z.nj ?_;refine ZS.ite z.lock ?_;refine ZS.ite z.lY ?_;refine ZS.ite (ZS.ite z.dc (ZS.aI z.dc)) ?_;refine ZS.ite z.ku ?_;exact ZS.ite z.common z
theorem ZS.never (z:ZS s):ZS (never s g):=ZS.fA z.aI
theorem ZS.clear (z:ZS s):ZS (clear s g):=by
 unfold Sx.clear;exact z.dy ⟨(z g).op,by simp [o9,Sx.clean],by simp [o9,Sx.clean],by simp [o9,Sx.clean]⟩
theorem Wv (l:List Int) (h:(aF l).Nodup):(aF l).length≤l.length:=by
 refine List.Nodup.length_le_of_subset h fun x hx=>((Gp l).2 x).1 hx |>.1
theorem ZS.kz (z:ZS s) {o:Pn.Op} (hc:o.cases.length≤6) (ho:(aa s g).order=[]):ZS (kz s g o):=by
 unfold Sx.kz;simp only;have z1:ZS { s with drawn:=(drawn s o.cases.length).2 }:=z.of rfl;have hl:∀ (p:Int→Bool),((eF (drawn s o.cases.length).1 o.cases.length).filter p).length≤6:=by
  intro p;have h1:=List.length_filter_le p (eF (drawn s o.cases.length).1 o.cases.length);have h2:=(Cg (drawn s o.cases.length).1 o.cases.length).length_eq;simp at h2;omega
 have zx:Z { aa s g with order:=(aa s g).order ++ (eF (drawn s o.cases.length).1 o.cases.length).filter (fun i=>aN s (cy o i).ch),aF:=Sx.aF (((eF (drawn s o.cases.length).1 o.cases.length).filter (fun i=>aN s (cy o i).ch)).map (fun i=>(cy o i).ch)),place:=24 }:=by
  refine ⟨(z g).op,?_,(z g).sg,?_⟩
  ·simp only [ho,List.nil_append];exact hl _
  ·have ls:=Gp (((eF (drawn s o.cases.length).1 o.cases.length).filter (fun i=>aN s (cy o i).ch)).map (fun i=>(cy o i).ch));have:=Wv _ (ls.1.imp (fun h e=>by omega));have h2:=hl (fun i=>aN s (cy o i).ch);simp only [List.length_map] at this;simp only;omega
 have z2:=z1.dy (g:=g) zx;exact ZS.cj z2 (ZS.cj z2.bH z2.never)
theorem ZS.kA (z:ZS s):ZS (kA s g):=by
 unfold Sx.kA;simp only;refine ZS.cj (ZS.put z z g) ?_;have z2:ZS (Sx.ai (Sx.clear s g) g { aa (Sx.clear s g) g with call:=(Sx.clear s g).step }):=ZS.put z.clear z.clear g;have ho:(aa (Sx.ai (Sx.clear s g) g { aa (Sx.clear s g) g with call:=(Sx.clear s g).step }) g).order=[]:=by
  by_cases hg:g < s.gs.length
  ·have gP:g < (Sx.clear s g).gs.length:=by unfold Sx.clear;rw [iB];exact hg
   rw [iQ gP,if_pos rfl];unfold Sx.clear;rw [iQ hg,if_pos rfl];rfl
  ·unfold aa Sx.ai;rw [List.getD_eq_getElem?_getD,List.getElem?_eq_none (by simp [Sx.clear,Sx.ai];omega)];rfl
 generalize Sx.ai (Sx.clear s g) g { aa (Sx.clear s g) g with call:=(Sx.clear s g).step }=s2 at *;have hc:=Cw z2 (g:=g);refine ZS.cj z2.aI ?_;refine ZS.cj (ZS.cj z2.aI z2.never) ?_;refine ZS.cj (ZS.cj z2.aI z2.bH) ?_;exact ZS.cj (ZS.cj z2.aI z2.bH) (z2.kz hc ho)
theorem ZS.kB (z:ZS s):ZS (kB s g):=by
 unfold Sx.kB;simp only;exact ZS.cj z.bH (ZS.cj (ZS.bH (s:={ s with au:=s.au ++ [⟨(ag s g).n,[],false,-1,[],[]⟩] }) (z.of rfl)) (ZS.cj z.bH (ZS.cj z.bH z.bH)))
theorem ZS.answer (z:ZS s):ZS (answer s g):=by
 unfold Sx.answer;simp only;have z1:ZS { s with done:=s.done ++ [mark s g s.step] }:=z.of rfl;exact ZS.clear (ZS.put z1 z1 g)
theorem ZS.jj (z:ZS s):ZS (jj s g).1:=by
 unfold Sx.jj;simp only;exact ZS.ite z.kA (ZS.ite z.kB (ZS.ite z.answer z))
theorem ZS.one (z:ZS s) (p:Int):ZS (one s p).1:=by
 unfold Sx.one
 split
 ·exact z
 have z1:ZS { s with step:=s.step + 1 }:=z.of rfl;simp only;exact ZS.ite z1.jj (ZS.ite z1.bu (ZS.ite z1.bR (ZS.ite z1.dU (ZS.ite z1.bL z))))
theorem ZS.start {p:List (List Pn.Op)} {a c:Int} {d:List Int} (hp:Pn.right p=true):ZS (start p a c d):=by
 unfold Pn.right at hp;simp only [decide_eq_true_eq] at hp;intro g
 by_cases hg:g < p.length
 ·rw [GA hg];have hm:p.getD g []∈p:=by
   rw [List.getD_eq_getElem?_getD,List.getElem?_eq_getElem hg];exact List.getElem_mem _
  have hr:=hp.2.2 _ hm;unfold Pn.mC at hr;simp only [decide_eq_true_eq] at hr;exact ⟨fun o ho=>(Gs (hr.2 o ho)).2.2.2.2.2.2.2.2.1,by simp [Sx.clean],by simp [Sx.clean],by simp [Sx.clean]⟩
 ·unfold aa;rw [List.getD_eq_getElem?_getD,List.getElem?_eq_none (by simp [Sx.start];omega)];exact Z.clean 0
structure Good (s:ah):Prop extends MInv s where
 z:ZS s
theorem Good.one (h:Good s) (p:Int):Good (one s p).1:=⟨h.toMInv.one p,h.z.one p⟩
theorem Good.start {p:List (List Pn.Op)} {a c:Int} {d:List Int} (hp:Pn.right p=true) (hc:can a p.length c=true) (hd:∀ x∈d,0≤x∧x < 65536) (hl:d.length≤1000):Good (start p a c d):=⟨MInv.start hp hc hd hl,ZS.start hp⟩
end
end Sx
namespace Sx
def SP (k:Int) (s:ah):Prop:=s.step=k
section
variable {s t:ah} {g h:Nat} {k:Int}
theorem SP.of (z:SP k s) (e:t.step=s.step):SP k t:=by unfold SP at *;rw [e];exact z
theorem SP.w (zt:SP k t) {x:Gr}:SP k (Sx.ai t g x):=zt
theorem SP.dJ (z:SP k s) {c:Int} {x:Cn}:SP k (Sx.aE s c x):=z
theorem SP.fW (z:SP k s) {c:Int} {x:Su}:SP k (Sx.aR s c x):=z
theorem SP.ite {c:Prop} [Decidable c] {β:Type} {a b:ah × β} (h1:SP k a.1) (h2:SP k b.1):SP k (if c then a else b).1:=by split <;> assumption
theorem SP.cj {c:Prop} [Decidable c] {a b:ah} (h1:SP k a) (h2:SP k b):SP k (if c then a else b):=by split <;> assumption
theorem SP.aI (z:SP k s) {p:Int}:SP k (aI s g p):=SP.w z
theorem SP.bH (z:SP k s) {r:Md.ak} {p:Int}:SP k (bH s g r p):=SP.w z
theorem SP.free (z:SP k s) {c:Int}:SP k (free s c):=z.dJ
theorem SP.tryLock (z:SP k s) {c:Int}:SP k (tryLock s g c).1:=SP.ite z.dJ z
theorem SP.an (z:SP k s):SP k (an s g):=SP.cj z.aI z.aI
theorem SP.fA (z:SP k s):SP k (fA s g):=SP.w z
theorem SP.ready (z:SP k s):SP k (ready s g):=SP.w z
theorem SP.ez (z:SP k s) {v:Int}:SP k (ez s g v):=SP.cj (z.of rfl) z
theorem SP.cq (z:SP k s) {v:Int}:SP k (cq s g v):=z.ez.fW
theorem SP.aS (z:SP k s):SP k (aS s g).1:=by
 unfold Sx.aS;refine SP.ite (SP.ite ?_ z) ?_
 ·exact z.of rfl
 ·exact z.of rfl
theorem SP.drop (z:SP k s) {v:Int}:SP k (bq s v):=SP.cj z.dJ z
theorem SP.pair (z:SP k s) {v:Int}:SP k (pair s g v):=SP.w (SP.w z)
theorem SP.serve (z:SP k s) {v:Int} {d:Bool}:SP k (serve s g v d):=by
 have z2:SP k (Sx.aR (Sx.ai s (su s v).g.toNat { aa s (su s v).g.toNat with param:=v }) v { su s v with done:=d }):=SP.fW (SP.w z);exact SP.w z2
theorem SP.common (z:SP k s):SP k (common s g).1:=by
 unfold Sx.common;simp only;refine SP.ite (SP.ite (SP.ite (SP.aI z.tryLock) (SP.aI z.tryLock)) z) ?_;refine SP.ite (SP.aI z.free) ?_;refine SP.ite (SP.fA (SP.aI z)) ?_;refine SP.ite (SP.aI (SP.w z.cq)) ?_;refine SP.ite (SP.an z.free) ?_;refine SP.ite (SP.an (SP.w z.ready)) z
theorem SP.taken (z:SP k s) {i a b:Int}:SP k (taken s g i a b) :=
 SP.cj (SP.aI (SP.w z)) (SP.aI (SP.pair (SP.drop (SP.w z))))
theorem SP.cQ (z:SP k s) {a b:Int}:SP k (cQ s g a b) :=
 SP.cj (SP.w z.drop) (SP.aI (SP.pair (SP.w (SP.w z) )))
theorem SP.aH (z:SP k s) {d:Su}:SP k (aH s g d) :=
 SP.cj (SP.w z.aS.fW) (SP.w z.aS)
theorem SP.gL (z:SP k s) {v:Int}:SP k (gL s g v):=SP.serve (SP.fW z.drop)
theorem SP.hand (z:SP k s) {c i:Int}:SP k (hand s c i).1:=by unfold Sx.hand;simp only;split;exact z;exact z.dJ
theorem SP.bu (z:SP k s):SP k (bu s g).1:=by
 unfold Sx.bu;simp only;refine SP.ite z ?_;refine SP.ite z.common ?_;refine SP.ite z ?_;refine SP.ite (SP.ite z.aI z.bH) ?_;refine SP.ite (SP.ite (SP.w z) (SP.w z)) ?_;refine SP.ite (SP.ite z.bH z.aI) ?_;refine SP.ite (SP.ite z.aI z.taken) ?_;refine SP.ite z.cQ ?_;refine SP.ite (SP.w z.gL) ?_;refine SP.ite (SP.ite (SP.bH z.dJ) (SP.ite z.bH z.aI)) ?_;refine SP.ite z.aH ?_;refine SP.ite (SP.w z.dJ) ?_;exact SP.ite (SP.w z) z
theorem SP.bR (z:SP k s):SP k (bR s g).1:=by
 unfold Sx.bR;simp only;refine SP.ite z ?_;refine SP.ite z.common ?_;refine SP.ite z ?_;refine SP.ite (SP.ite z.aI z.bH) ?_;refine SP.ite (SP.ite z.aI (SP.w z)) ?_;refine SP.ite (SP.ite (SP.w z) z.bH) ?_;refine SP.ite (SP.ite z.bH (SP.ite z.aI z.aI)) ?_;refine SP.ite (SP.ite z.aI z.taken) ?_;refine SP.ite z.cQ ?_;refine SP.ite (SP.w (SP.serve (SP.hand z.drop)) ) ?_;refine SP.ite (SP.ite (SP.bH z.dJ) (SP.ite z.bH z.aI)) ?_;refine SP.ite z.aH ?_;refine SP.ite (SP.w z.dJ) ?_;exact SP.ite (SP.w z) z
theorem SP.ji (z:SP k s):SP k (ji s g):=by
 have z2:SP k (Sx.bq (Sx.ai s g { aa s g with t:=s.step }) (aa s g).hold):=SP.drop (SP.w z);exact SP.serve (SP.w z2)
theorem SP.mE (z:SP k s) {i:Int}:SP k (mE s g i):=by
 have z2:SP k (Sx.ai s g { aa s g with hold:=i }):=SP.w z;exact SP.cj z2.aI z2.ji
theorem SP.nY (z:SP k s):SP k (nY s g) :=
 SP.cj (SP.w z.drop) (SP.aI (SP.ji (SP.w z)))
theorem SP.dU (z:SP k s):SP k (dU s g).1:=by
 unfold Sx.dU;simp only;refine SP.ite z ?_;refine SP.ite z.common ?_;refine SP.ite z ?_;refine SP.ite (SP.ite z.bH (SP.bH z.dJ)) ?_;refine SP.ite (SP.ite z.mE (SP.ite z.mE z.aI)) ?_;exact SP.ite z.nY z
theorem SP.unlock (z:SP k s) {p:Int}:SP k (unlock s g p):=SP.w z
theorem SP.fq (z:SP k s) {r:Md.ak} {i:Int}:SP k (fq s g r i):=by
 have z2:SP k (Sx.bH s g { r with cs:=i } 30):=z.bH;exact SP.unlock (SP.w z2)
theorem SP.lock (z:SP k s) {p:Int}:SP k (lock s g p) :=
 SP.cj (SP.cj (SP.w z.tryLock) (SP.w z.tryLock)) z
theorem SP.next (z:SP k s) {p:Int}:SP k (next s g p):=SP.cj (SP.w z) (SP.w z)
theorem SP.gI (z:SP k s):SP k (gI s g):=SP.cj (SP.w z) (SP.w z)
theorem SP.iU (z:SP k s) {i:Int} {q:Pn.Cs}:SP k (iU s g i q).1 :=
 SP.ite z.fq (SP.ite (SP.gI z.taken) (SP.ite (SP.fq z.dJ) z))
theorem SP.jH (z:SP k s) {i:Int} {q:Pn.Cs}:SP k (jH s g i q).1 :=
 SP.ite (SP.gI z.taken) (SP.ite (SP.fq z.dJ) (SP.ite z.fq z))
theorem SP.kq (z:SP k s):SP k (kq s g (ag s g)):=by
 have z2:SP k (Sx.ai s g { aa s g with ay:=List.replicate (ag s g).cases.length (-1) }):=SP.w z;unfold Sx.kq;simp only
 by_cases c1:(cy (ag s g) (aD (aa s g).order (aa s g).k)).send=true
 ·rw [if_pos c1];exact SP.cj z.iU (SP.cj z.next (SP.cj z.fq z2.next))
 ·rw [if_neg c1];exact SP.cj z.jH (SP.cj z.next (SP.cj z.fq z2.next))
theorem SP.kr (z:SP k s) {o:Pn.Op}:SP k (kr s g o):=by
 unfold Sx.kr;simp only;have z1:=z.drop (v:=(aa s g).hold)
 by_cases c:(cy o (aD (aa s g).order (aa s g).k)).send=true
 ·simp only [if_pos c];exact SP.unlock (SP.w (SP.serve z1.fW) )
 ·simp only [if_neg c];exact SP.unlock (SP.w (SP.serve z1.hand) )
theorem SP.aC (z:SP k s) {o:Pn.Op}:SP k (aC s g o):=by
 unfold Sx.aC;simp only;refine SP.cj (SP.next ?_) (SP.unlock ?_)
 ·exact SP.w z.aS.fW
 ·refine SP.w z.aS
theorem SP.lX (z:SP k s) {o:Pn.Op}:SP k (lX s g o) :=
 SP.cj (SP.next z.dJ) (SP.unlock (SP.w z.dJ))
theorem SP.dc (z:SP k s):SP k (dc s g).1:=SP.w z.free
theorem SP.nj (z:SP k s):SP k (nj s g):=SP.w z
theorem SP.lY (z:SP k s):SP k (lY s g):=SP.cj (SP.next z.drop) (SP.unlock z.drop)
theorem SP.ku (z:SP k s):SP k (ku s g):=by
 unfold Sx.ku;simp only;have z1:SP k (if 0≤aD (aa s g).ay (aD (aa s g).order (aa s g).k) then Sx.cq s g (aD (aa s g).ay (aD (aa s g).order (aa s g).k)) else s):=SP.cj z.cq z;generalize (if 0≤aD (aa s g).ay (aD (aa s g).order (aa s g).k) then Sx.cq s g (aD (aa s g).ay (aD (aa s g).order (aa s g).k)) else s)=t at *;refine SP.cj (SP.an (SP.next ?_)) (SP.next ?_)
 ·exact SP.w z1
 ·exact SP.w z1
theorem SP.bL (z:SP k s):SP k (bL s g).1:=by
 unfold Sx.bL;simp only;refine SP.ite z ?_;refine SP.ite z.lock ?_;refine SP.ite z.kq ?_;refine SP.ite (SP.gI z.cQ) ?_;refine SP.ite z.kr ?_;refine SP.ite z.aC ?_;refine SP.ite z.lX ?_;refine SP.ite (SP.ite z.dc (SP.ite (SP.aI z.dc) (SP.ite (SP.aI z.dc) (SP.an z.dc)))) ?_;refine SP.ite z.nj ?_;refine SP.ite z.lock ?_;refine SP.ite z.lY ?_;refine SP.ite (SP.ite z.dc (SP.aI z.dc)) ?_;refine SP.ite z.ku ?_;exact SP.ite z.common z
theorem SP.never (z:SP k s):SP k (never s g):=SP.fA z.aI
theorem SP.clear (z:SP k s):SP k (clear s g):=by
 unfold Sx.clear;exact SP.w z
theorem SP.kz (z:SP k s) {o:Pn.Op}:SP k (kz s g o):=by
 unfold Sx.kz;simp only;have z1:SP k { s with drawn:=(drawn s o.cases.length).2 }:=z.of rfl;exact SP.cj (SP.w z1) (SP.cj (SP.bH (SP.w z1)) (SP.never (SP.w z1)))
theorem SP.kA (z:SP k s):SP k (kA s g):=by
 unfold Sx.kA;simp only;refine SP.cj (SP.w z) ?_;have z2:SP k (Sx.ai (Sx.clear s g) g { aa (Sx.clear s g) g with call:=(Sx.clear s g).step }):=SP.w z.clear;generalize Sx.ai (Sx.clear s g) g { aa (Sx.clear s g) g with call:=(Sx.clear s g).step }=s2 at *;refine SP.cj z2.aI ?_;refine SP.cj (SP.cj z2.aI z2.never) ?_;refine SP.cj (SP.cj z2.aI z2.bH) ?_;exact SP.cj (SP.cj z2.aI z2.bH) z2.kz
theorem SP.kB (z:SP k s):SP k (kB s g):=by
 unfold Sx.kB;simp only;exact SP.cj z.bH (SP.cj (SP.bH (s:={ s with au:=s.au ++ [⟨(ag s g).n,[],false,-1,[],[]⟩] }) (z.of rfl)) (SP.cj z.bH (SP.cj z.bH z.bH)))
theorem SP.answer (z:SP k s):SP k (answer s g):=by
 unfold Sx.answer;simp only;have z1:SP k { s with done:=s.done ++ [mark s g s.step] }:=z.of rfl;exact SP.clear (SP.w z1)
theorem SP.jj (z:SP k s):SP k (jj s g).1:=by
 unfold Sx.jj;simp only;exact SP.ite z.kA (SP.ite z.kB (SP.ite z.answer z))
theorem Ww (s:ah) (p:Int):s.step≤(Sx.one s p).1.step∧(Sx.one s p).1.step≤s.step + 1:=by
 unfold Sx.one
 split
 ·exact ⟨Int.le_refl _,by simp only;omega⟩
 have z1:SP (s.step + 1) { s with step:=s.step + 1 }:=rfl;simp only
 split
 ·have:=z1.jj (g:=p.toNat);unfold SP at this;rw [this];omega
 split
 ·have:=z1.bu (g:=p.toNat);unfold SP at this;rw [this];omega
 split
 ·have:=z1.bR (g:=p.toNat);unfold SP at this;rw [this];omega
 split
 ·have:=z1.dU (g:=p.toNat);unfold SP at this;rw [this];omega
 split
 ·have:=z1.bL (g:=p.toNat);unfold SP at this;rw [this];omega
 ·exact ⟨Int.le_refl _,by simp only;omega⟩
theorem Wx (l:List Int):∀ s:ah,s.step≤(Sx.runs s l).1.step∧(Sx.runs s l).1.step≤s.step + l.length:=by
 induction l with
 | nil=>intro s;simp [Sx.runs]
 | cons p r ih =>
  intro s;unfold Sx.runs
  split
  ·simp only [List.length_cons];omega
  ·have h1:=Ww s (pick s p);have h2:=ih (Sx.one s (pick s p)).1;simp only [List.length_cons];omega
theorem Good.runs {s:ah} (h:Good s) (l:List Int):Good (Sx.runs s l).1:=by
 induction l generalizing s with
 | nil=>exact h
 | cons p r ih =>
  unfold Sx.runs
  split
  ·exact h
  ·exact ih (h.one _)
end
end Sx
namespace Po
theorem Ni (f:Int):∀ (L:List Int) (H:List Bool),f≤H.length→L.Nodup→(∀ x∈L,0≤x∧x < f∧H.getD x.toNat false=false) →
  (settle f H L).2=true∧∀ j:Nat,(settle f H L).1.getD j false=(H.getD j false || decide ((j:Int)∈L))
 | [],H,hf,nd,hx=>⟨rfl,fun j=>by simp [settle]⟩
 | x :: r,H,hf,nd,hx=>by
  obtain ⟨h0,h1,h2⟩:=hx x (List.mem_cons_self ..);have Nj:=List.nodup_cons.1 nd;have hl:live f H x=true:=by simp only [live,Bool.and_eq_true,decide_eq_true_eq,Bool.not_eq_true'];exact ⟨⟨h0,h1⟩,h2⟩
  have:=Ni f r (H.set x.toNat true) (by rw [List.length_set];exact hf) Nj.2 (fun y hy=>by
   obtain ⟨a,b,c⟩:=hx y (List.mem_cons_of_mem _ hy);refine ⟨a,b,?_⟩;rw [mD _ _ _ _ _ (by omega),if_neg];exact c;intro e;have:x=y:=by omega
   exact Nj.1 (this ▸ hy))
  unfold settle;rw [if_pos hl];refine ⟨this.1,fun j=>?_⟩;rw [this.2 j,mD _ _ _ _ _ (by omega)]
  by_cases e:x.toNat=j
  ·rw [if_pos e];have:(j:Int)=x:=by omega
   simp [this]
  ·rw [if_neg e];have:(j:Int)≠x:=by omega
   simp [this]
theorem Wy {size most:Nat} {C:List (List Int)} {M:List Int} {f:Nat} {H0:List Bool} (v:Inv size most ⟨C,M,f,H0⟩) (hC:C.length≤8) :
  of size most f C M=true∧∀ H,settle f (List.replicate size false) (C.flatten ++ M)=(H,true)→Inv size most ⟨C,M,f,H⟩:=by
 have hc:∀ a,(C.flatten ++ M).count a=dZ ⟨C,M,f,H0⟩ a:=fun a=>by rw [List.count_append];unfold dZ;simp only;omega
 have fl:=v.fl;simp only at fl;have hk:=Ni f (C.flatten ++ M) (List.replicate size false) (by simpa using fl) (List.nodup_iff_count.2 fun a=>by rw [hc];exact v.one a) (fun x hx=>by
  have h1:=v.bound x (by rw [← hc];exact List.count_pos_iff.2 hx);simp only at h1;exact ⟨h1.1,h1.2,by rw [List.getD_eq_getElem?_getD,List.getElem?_replicate];split <;> rfl⟩)
 have ca:=v.qA;simp only at ca;have m1:=v.m1;have m2:=v.m2;have s1:=v.s1;refine ⟨?_,fun H hH=>⟨m1,m2,s1,?_,v.fl,v.one,v.bound,fun x hx=>?_,v.qA⟩⟩
 ·unfold of fits;have a1:decide (0≤(size:Int)∧(size:Int)≤64∧0≤(C.length:Int)∧(C.length:Int)≤8∧1≤(most:Int)∧(most:Int)≤16)=true:=decide_eq_true (by omega);have a2:decide (0≤(f:Int))=true:=decide_eq_true (by omega);have a3:decide ((f:Int)≤(size:Int))=true:=decide_eq_true (by omega);have a4:decide (∀ l∈C,(l.length:Int)≤(most:Int))=true:=decide_eq_true (fun l hl=>by have:=ca l hl;omega);rw [a1,a2,a3,a4,Int.toNat_natCast];exact hk.1
 ·have:=BZ f (List.replicate size false) (C.flatten ++ M);rw [hH] at this;simpa using this
 ·have:=hk.2 x;rw [hH] at this;simp only at this ⊢;rw [this,List.getD_eq_getElem?_getD,List.getElem?_replicate,if_pos hx];simp only [Option.getD_some,Bool.false_or];rw [decide_eq_decide]
  show _↔1≤dZ ⟨C,M,f,H0⟩ (x:Int);rw [← hc];exact List.count_pos_iff.symm
end Po
namespace Sx
variable {s:ah}
theorem zn {α:Type} {l:List α} {k:Nat} {a z:α} (h:l[k]?=some a) (n:Nat) (hn:n=l.length):(l.take k ++ List.replicate (n - k) z).set k a=l.take (k + 1) ++ List.replicate (n - (k + 1)) z:=by
 have hk:=(List.getElem?_eq_some_iff.1 h).1;have e1:(l.take k).length=k:=by rw [List.length_take];omega
 obtain ⟨d,hd⟩:∃ d,n - k=d + 1:=⟨n - k - 1,by omega⟩
 have FP:n - (k + 1)=d:=by omega
 rw [List.set_append_right _ _ (by omega),e1,Nat.sub_self,hd,FP,List.replicate_succ,List.set_cons_zero,List.take_add_one,h,List.append_assoc];rfl
def bK (s:ah) (k:Nat):List (Int × Bool):=(s.gs.map fun x=>(x.status,x.token)).take k ++ List.replicate (s.gs.length - k) (0,false)
theorem Wz (k:Nat) (hk:k≤s.gs.length):(bK s k).length=s.gs.length:=by simp [bK];omega
theorem WA {k:Nat} (hk:k < s.gs.length) (h:0≤(aa s k).status∧(aa s k).status≤2):Bc.kY (bK s k) (k:Int) (aa s k).status (aa s k).token=bK s (k + 1):=by
 have hx:s.gs[k]?=some (aa s k):=by unfold aa;rw [List.getD_eq_getElem?_getD,List.getElem?_eq_getElem hk];rfl
 have:Bc.kC (bK s k) (k:Int) (aa s k).status=true:=by
  unfold Bc.kC Bc.has;rw [Wz k (by omega)];simp only [Bool.and_eq_true,decide_eq_true_eq];omega
 unfold Bc.kY;rw [if_pos this,Int.toNat_natCast];unfold bK;exact zn (by rw [List.getElem?_map,hx];rfl) _ (by simp)
theorem WB (h:s.gs.length≤8):Bc.nu (s.gs.length:Int)=bK s 0:=by
 unfold Bc.nu bK;rw [show (max 0 (min (s.gs.length:Int) 4096)).toNat=s.gs.length by omega];simp
theorem WC:bK s s.gs.length=s.gs.map fun x=>(x.status,x.token):=by
 unfold bK;rw [List.take_of_length_le (by simp),Nat.sub_self];simp
def lK (s:ah) (k:Nat):List Int:=(s.au.map (·.lock)).take k ++ List.replicate (s.au.length - k) (-1)
theorem BW {k:Nat} (hk:k < s.au.length):s.au[k]?=some (cn s ((k:Int) + 1)):=by
 unfold cn;rw [show ((k:Int) + 1 - 1).toNat=k by omega,List.getD_eq_getElem?_getD,List.getElem?_eq_getElem hk];rfl
theorem WE {k:Nat} (hk:k < s.au.length) (h:(cn s ((k:Int) + 1)).lock=-1∨0≤(cn s ((k:Int) + 1)).lock):Lt.kX (lK s k) ((k:Int) + 1 - 1) (cn s ((k:Int) + 1)).lock=lK s (k + 1):=by
 have hx:=BW hk;have hl:(lK s k).length=s.au.length:=by simp [lK];omega
 have hm:(s.au.map (·.lock))[k]?=some (cn s ((k:Int) + 1)).lock:=by rw [List.getElem?_map,hx];rfl
 have hf:=zn (z:=(-1:Int)) hm s.au.length (by simp);rw [show (k:Int) + 1 - 1=k by omega];have he:(lK s k)[k]?=some (-1):=by
  have e1:((s.au.map (·.lock)).take k).length=k:=by simp;omega
  unfold lK;rw [List.getElem?_append_right (by omega),e1,Nat.sub_self,List.getElem?_replicate,if_pos (by omega)]
 unfold Lt.kX
 split
 ·rw [Int.toNat_natCast];exact hf
 ·rename_i c;have:¬ 0≤(cn s ((k:Int) + 1)).lock:=by
   intro c2;apply c;unfold Lt.kW Lt.has;rw [hl,Int.toNat_natCast,List.getD_eq_getElem?_getD,he];simp only [Bool.and_eq_true,decide_eq_true_eq];exact ⟨⟨⟨by omega,by omega⟩,c2⟩,by simp⟩
  have e:(cn s ((k:Int) + 1)).lock=-1:=by omega
  rw [e] at hf;have:(lK s k).set k (-1)=lK s k:=by
   apply List.ext_getElem?;intro j;rw [List.getElem?_set]
   split
   ·rename_i c3;subst c3;rw [he];simp [hl,hk]
   ·rfl
  unfold lK at this;rw [hf] at this;exact this.symm
theorem WG (h:s.au.length≤8):Lt.nu (s.au.length:Int)=lK s 0:=by
 unfold Lt.nu lK;rw [show (max 0 (min (s.au.length:Int) 4096)).toNat=s.au.length by omega];simp
theorem WH:lK s s.au.length=s.au.map (·.lock):=by
 unfold lK;rw [List.take_of_length_le (by simp),Nat.sub_self];simp
def qK (s:ah) (k a b:Nat):List (List Int):=(List.range 16).map fun j =>
 if j / 2 < k then (if j % 2=0 then (cn s ((j / 2:Nat) + 1)).recv else (cn s ((j / 2:Nat) + 1)).send)
 else if j / 2=k then (if j % 2=0 then (cn s ((k:Nat) + 1)).recv.take a else (cn s ((k:Nat) + 1)).send.take b) else []
theorem sP (k a b:Nat):(qK s k a b).length=16:=by simp [qK]
theorem uc (k a b:Nat) {j:Nat} (hj:j < 16):(qK s k a b)[j]?=some (if j / 2 < k then (if j % 2=0 then (cn s ((j / 2:Nat) + 1)).recv else (cn s ((j / 2:Nat) + 1)).send)
 else if j / 2=k then (if j % 2=0 then (cn s ((k:Nat) + 1)).recv.take a else (cn s ((k:Nat) + 1)).send.take b) else []):=by
 unfold qK;rw [List.getElem?_map,List.getElem?_range hj];rfl
theorem Nk {k a b:Nat} {x:Int} (h:x∈(qK s k a b).flatten):∃ j:Nat,j≤k∧(j < k∧(x∈(cn s ((j:Int) + 1)).recv∨x∈(cn s ((j:Int) + 1)).send)∨j=k∧(x∈(cn s ((k:Int) + 1)).recv.take a∨x∈(cn s ((k:Int) + 1)).send.take b)):=by
 obtain ⟨l,hl,hx⟩:=List.mem_flatten.1 h;unfold qK at hl;obtain ⟨j,hj,rfl⟩:=List.mem_map.1 hl;have hj:j < 16:=by simpa using hj
 by_cases c:j / 2 < k
 ·rw [if_pos c] at hx;refine ⟨j / 2,by omega,.inl ⟨c,?_⟩⟩
  split at hx
  ·exact .inl hx
  ·exact .inr hx
 ·rw [if_neg c] at hx
  split at hx
  ·rename_i c2;refine ⟨k,Nat.le_refl _,.inr ⟨rfl,?_⟩⟩
   split at hx
   ·exact .inl hx
   ·exact .inr hx
  ·simp at hx
theorem Nl {l:List Int} (nd:l.Nodup) {a:Nat} {x:Int} (h:l[a]?=some x):x∉l.take a:=by
 intro hx;obtain ⟨j,hj⟩:=List.getElem?_of_mem hx;have hl:=(List.getElem?_eq_some_iff.1 hj).1;rw [List.length_take] at hl;rw [List.getElem?_take_of_lt (by omega)] at hj;obtain ⟨h1,h2⟩:=List.getElem?_eq_some_iff.1 h;obtain ⟨h3,h4⟩:=List.getElem?_eq_some_iff.1 hj;exact List.pairwise_iff_getElem.1 nd j a h3 h1 (by omega) (h4.trans h2.symm)
structure Qs (s:ah):Prop where
 c8:s.au.length≤8
 q:∀ k:Nat,k < s.au.length→∀ i,i∈(cn s ((k:Int) + 1)).recv∨i∈(cn s ((k:Int) + 1)).send→0≤i∧i < s.aC.length∧(su s i).ch=(k:Int) + 1∧((su s i).send=false→i∉(cn s ((k:Int) + 1)).send)∧((su s i).send=true→i∉(cn s ((k:Int) + 1)).recv)
 nd:∀ k:Nat,k < s.au.length→(cn s ((k:Int) + 1)).recv.Nodup∧(cn s ((k:Int) + 1)).send.Nodup
theorem WI (Q:Qs s) {k a:Nat} (hk:k < s.au.length) {x:Int} (hx:(cn s ((k:Int) + 1)).recv[a]?=some x):Qu.push s.aC.length (qK s k a 0) (2 * ((k:Int) + 1) - 2) x=(qK s k (a + 1) 0,true):=by
 have m:=List.mem_of_getElem? hx;have c8:=Q.c8;obtain ⟨i0,i1,i2,i3,i4⟩:=Q.q k hk x (.inl m);have hn:Qu.loc (qK s k a 0) x=none:=by
  rw [Qu.qG];intro hm;obtain ⟨j,j1,⟨j2,j3⟩ | ⟨rfl,j3⟩⟩:=Nk hm
  ·have:=(Q.q j (by omega) x j3).2.2.1;omega
  ·rcases j3 with j3 | j3
   ·exact Nl (Q.nd j hk).1 hx j3
   ·simp at j3
 have e:2 * ((k:Int) + 1) - 2=((2 * k:Nat):Int):=by omega
 have hl:Qu.line (qK s k a 0) ((2 * k:Nat):Int)=true:=by unfold Qu.line;rw [sP];simp only [Bool.and_eq_true,decide_eq_true_eq];omega
 unfold Qu.push;rw [e,hl,hn,if_pos (by simp only [Option.isNone_none,Bool.true_and,Bool.and_true,Bool.and_eq_true,decide_eq_true_eq];exact ⟨i0,i1⟩)];unfold Qu.row;rw [hl,if_pos rfl,Int.toNat_natCast,List.getD_eq_getElem?_getD,uc k a 0 (j:=2 * k) (by omega)]
 congr 1
 apply List.ext_getElem?;intro j;rw [List.getElem?_set]
 by_cases c:2 * k=j
 ·subst c;rw [if_pos rfl,if_pos (by rw [sP];omega),uc k (a + 1) 0 (j:=2 * k) (by omega)];have d1:2 * k / 2=k:=by omega
  have d2:2 * k % 2=0:=by omega
  simp only [d1,d2,Nat.lt_irrefl,if_false,if_true,Option.getD_some];rw [List.take_add_one,hx];rfl
 ·rw [if_neg c]
  by_cases c2:j < 16
  ·rw [uc k a 0 c2,uc k (a + 1) 0 c2]
   by_cases c3:j / 2=k
   ·have:j % 2≠0:=by omega
    simp only [this,if_false]
   ·rw [if_neg c3,if_neg c3]
  ·rw [List.getElem?_eq_none (by rw [sP];omega),List.getElem?_eq_none (by rw [sP];omega)]
theorem WJ (Q:Qs s) {k b:Nat} (hk:k < s.au.length) {x:Int} (hx:(cn s ((k:Int) + 1)).send[b]?=some x) :
  Qu.push s.aC.length (qK s k (cn s ((k:Int) + 1)).recv.length b) (2 * ((k:Int) + 1) - 1) x=(qK s k (cn s ((k:Int) + 1)).recv.length (b + 1),true):=by
 have m:=List.mem_of_getElem? hx;have c8:=Q.c8;obtain ⟨i0,i1,i2,i3,i4⟩:=Q.q k hk x (.inr m);generalize yY:(cn s ((k:Int) + 1)).recv.length=a;have hn:Qu.loc (qK s k a b) x=none:=by
  rw [Qu.qG];intro hm;obtain ⟨j,j1,⟨j2,j3⟩ | ⟨rfl,j3⟩⟩:=Nk hm
  ·have:=(Q.q j (by omega) x j3).2.2.1;omega
  ·rcases j3 with j3 | j3
   ·have j3:=List.mem_of_mem_take j3
    cases c:(su s x).send with
    | false=>exact i3 c m
    | true=>exact i4 c j3
   ·exact Nl (Q.nd j hk).2 hx j3
 have e:2 * ((k:Int) + 1) - 1=((2 * k + 1:Nat):Int):=by omega
 have hl:Qu.line (qK s k a b) ((2 * k + 1:Nat):Int)=true:=by unfold Qu.line;rw [sP];simp only [Bool.and_eq_true,decide_eq_true_eq];omega
 unfold Qu.push;rw [e,hl,hn,if_pos (by simp only [Option.isNone_none,Bool.true_and,Bool.and_true,Bool.and_eq_true,decide_eq_true_eq];exact ⟨i0,i1⟩)];unfold Qu.row;rw [hl,if_pos rfl,Int.toNat_natCast,List.getD_eq_getElem?_getD,uc k a b (j:=2 * k + 1) (by omega)]
 congr 1
 apply List.ext_getElem?;intro j;rw [List.getElem?_set]
 by_cases c:2 * k + 1=j
 ·subst c;rw [if_pos rfl,if_pos (by rw [sP];omega),uc k a (b + 1) (j:=2 * k + 1) (by omega)];have d1:(2 * k + 1) / 2=k:=by omega
  have d2:(2 * k + 1) % 2=1:=by omega
  simp only [d1,d2,Nat.lt_irrefl,if_false,if_true,Option.getD_some,Nat.one_ne_zero];rw [List.take_add_one,hx];rfl
 ·rw [if_neg c]
  by_cases c2:j < 16
  ·rw [uc k a b c2,uc k a (b + 1) c2]
   by_cases c3:j / 2=k
   ·have:j % 2=0:=by omega
    simp only [this,if_true]
   ·rw [if_neg c3,if_neg c3]
  ·rw [List.getElem?_eq_none (by rw [sP];omega),List.getElem?_eq_none (by rw [sP];omega)]
theorem WK:List.replicate 16 []=qK s 0 0 0:=by
 refine (List.eq_replicate_iff.2 ⟨sP 0 0 0,fun l hl=>?_⟩).symm;unfold qK at hl;obtain ⟨j,_,rfl⟩:=List.mem_map.1 hl
 split
 ·omega
 ·split
  ·split <;> simp
  ·rfl
theorem WL {k:Nat}:qK s k (cn s ((k:Int) + 1)).recv.length (cn s ((k:Int) + 1)).send.length=qK s (k + 1) 0 0:=by
 unfold qK;refine List.map_congr_left fun j hj=>?_
 by_cases c:j / 2 < k
 ·rw [if_pos c,if_pos (show j / 2 < k + 1 by omega)]
 ·rw [if_neg c]
  by_cases c2:j / 2=k
  ·rw [if_pos c2,if_pos (show j / 2 < k + 1 by omega),List.take_of_length_le (Nat.le_refl _),List.take_of_length_le (Nat.le_refl _),c2]
  ·rw [if_neg c2,if_neg (show ¬ j / 2 < k + 1 by omega)]
   split
   ·split <;> simp
   ·rfl
theorem WM:qK s s.au.length 0 0=(List.range 16).map fun j=>if j % 2=0 then (cn s ((j / 2:Nat) + 1)).recv else (cn s ((j / 2:Nat) + 1)).send:=by
 unfold qK;refine List.map_congr_left fun j hj=>?_
 by_cases c:j / 2 < s.au.length
 ·rw [if_pos c]
 ·rw [if_neg c];have e:cn s ((j / 2:Nat) + 1)=lW:=by
   unfold cn;rw [List.getD_eq_getElem?_getD,List.getElem?_eq_none (by omega)];rfl
  rw [e]
  split
  ·split <;> simp [lW]
  ·split <;> rfl
theorem Good.qs (h:Good s):Qs s:=by
 have h':=h.toMInv;refine ⟨h.c8,fun k hk i hi=>?_,fun k hk=>?_⟩
 ·have:=Inv.q h'.v ((k:Int) + 1) (by omega) (by omega) i hi;obtain ⟨a1,a2,a3,a4,a5,_⟩:=this;exact ⟨a1,a2,a3,fun e=>(a4 e).2,fun e=>(a5 e).2⟩
 ·exact Inv.nd h'.v ((k:Int) + 1) (by omega) (by omega)
end Sx
namespace Sx
structure Bg (n:Nat) (x:Gr):Prop where
 op:x.ops.length≤n
 oc:∀ o∈x.ops,o.cases.length≤n
 od:x.order.length≤n
 lk:x.aF.length≤n
 sg:x.ay.length≤n
 wk:x.an.length≤n
structure Bh (n:Nat) (c:Cn):Prop where
 cp:0≤c.cap
 bf:c.buf.length≤n
 rv:c.recv.length≤n
 sd:c.send.length≤n
structure Bd (n:Nat) (s:ah):Prop where
 g8:s.gs.length≤8
 c8:s.au.length≤8
 kJ:s.aC.length≤64
 dn:s.done.length≤n
 dr:s.cG.length≤1000
 cl:s.cache.length=s.gs.length
 cb:∀ l∈s.cache,l.length≤n
 mb:s.middle.length≤n
 fr:0≤s.fresh
 gs:∀ x∈s.gs,Bg n x
 cs:∀ c∈s.au,Bh n c
section
variable {n m:Nat} {s:ah} {g:Nat}
theorem Bd.gr (h:Bd n s) (g:Nat):Bg n (aa s g):=by
 unfold Sx.aa;rw [List.getD_eq_getElem?_getD]
 cases e:s.gs[g]? with
 | none=>exact ⟨by simp [clean],by simp [clean],by simp [clean],by simp [clean],by simp [clean],by simp [clean]⟩
 | some x=>exact h.gs x (List.mem_of_getElem? e)
end
theorem vT {C:List (List Int)} {l:List Int} (h:l∈C):l.length≤C.flatten.length:=by
 induction C with
 | nil=>simp at h
 | cons a C ih =>
  rcases List.mem_cons.1 h with rfl | h
  ·simp
  ·have:=ih h;rw [List.flatten_cons,List.length_append];omega
end Sx
end Go.Proofs.YtofnbflkhgammaaGreat
