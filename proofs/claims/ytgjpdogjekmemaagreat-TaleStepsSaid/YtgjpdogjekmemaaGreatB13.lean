/-
  What the laws need, part B13.
  Conditions: none.
-/
import Derived.Test.YtgjpdogjekmemaaGreatB12
set_option linter.unusedVariables false
set_option linter.unusedSimpArgs false
set_option linter.unnecessarySimpa false
set_option maxHeartbeats 2000000
set_option maxHeartbeats 2000000
namespace Go.Proofs.YtgjpdogjekmemaaGreat
namespace Sx
variable {s t:ai} {g:Nat} {nc ns n:Int}
theorem qO {l:List Int} (h:l.length≠0):l.headD 0∈l:=by
 cases l with
 | nil=>simp at h
 | cons a l=>simp
theorem BX {l:List Int} {r v:Int} (h:(fX l r v).2=true):((fX l r v).1.length:Int)≤r:=by
 unfold fX at h ⊢
 split at h
 ·cases h
 ·grind
theorem BY {l:List Int}:(eW l).1.length≤l.length:=by
 unfold eW;split <;> simp
theorem MInv.bH (h:MInv s) (hg:g < s.gs.length) (st:(aa s g).status=0):MInv (bH s g).1:=by
 unfold Sx.bH;simp only
 by_cases k:(ag s g).kind≠2∧(ag s g).kind≠4
 ·grind
 rw [if_neg k];have k2:2≤(ag s g).kind∧(ag s g).kind≤5:=by omega
 by_cases hc:(Sx.common s g).2=true
 ·rw [if_pos hc];exact h.common hg st (.inl (by omega))
 rw [if_neg hc]
 by_cases hm:Sx.aR s (ag s g).ch=false
 ·grind
 rw [if_neg hm];have ov:=l5.1 (show Sx.aR s (ag s g).ch=true by simpa using hm)
 by_cases e1:(aa s g).place=1
 ·rw [if_pos e1]
  split
  ·exact h.fQ hg st (by omega) (by omega) (x:={ aa s g with place:=4 }) rfl rfl rfl rfl rfl rfl (by show bp _ 4;unfold bp;omega) (by simp) (by rw [e1];unfold hP;simp)
  ·have pl:=((h.loc hg).pl.resolve_left (by omega)).2;have hk:(aI (aa s g)).kind=(ag s g).kind:=rfl;rw [hk,e1] at pl;exact h.fQ hg st (by omega) (by omega) (x:={ aa s g with bS:=s.step,res:=(aa s g).res,place:=2 }) rfl rfl rfl rfl rfl rfl (by show bp _ 2;unfold bp at pl ⊢;omega) (by simp) (by rw [e1];unfold hP;simp)
 rw [if_neg e1]
 by_cases e2:(aa s g).place=2
 ·rw [if_pos e2]
  split
  ·exact h.fQ hg st (by omega) (by omega) (x:={ aa s g with bS:=0,place:=4 }) rfl rfl rfl rfl rfl rfl (by show bp _ 4;unfold bp;omega) (by simp) (by rw [e2];unfold hP;simp)
  ·exact h.fQ hg st (by omega) (by omega) (x:={ aa s g with res:={ (aa s g).res with code:=2 },place:=18 }) rfl rfl rfl rfl rfl rfl (.inl rfl) (by simp) (by rw [e2];unfold hP;simp)
 rw [if_neg e2]
 by_cases e5:(aa s g).place=5
 ·rw [if_pos e5]
  split
  ·exact h.fQ hg st (by omega) (by omega) (x:={ aa s g with bS:=s.step,res:=res 3,place:=16 }) rfl rfl rfl rfl rfl rfl (by show bp _ 16;unfold bp;omega) (by simp) (by rw [e5];unfold hP;simp)
  ·exact h.fQ hg st (by omega) (by omega) (x:={ aa s g with place:=6 }) rfl rfl rfl rfl rfl rfl (by show bp _ 6;unfold bp;omega) (by simp) (by rw [e5];unfold hP;simp)
 rw [if_neg e5]
 by_cases e6:(aa s g).place=6
 ·rw [if_pos e6]
  split
  ·exact h.fQ hg st (by omega) (by omega) (x:={ aa s g with place:=9 }) rfl rfl rfl rfl rfl rfl (by show bp _ 9;unfold bp;omega) (by simp) (by rw [e6];unfold hP;simp)
  ·rename_i hl;exact h.s6 hg st k2 e6 (.inl (qO hl))
 rw [if_neg e6]
 by_cases e7:(aa s g).place=7
 ·rw [if_pos e7];exact h.s7 hg st k2 e7
 rw [if_neg e7]
 by_cases e8:(aa s g).place=8
 ·rw [if_pos e8];exact h.Iy hg st k2 e8 _
 rw [if_neg e8]
 by_cases e9:(aa s g).place=9
 ·rw [if_pos e9]
  split
  ·rename_i hp;exact h.s9 hg st k2 e9 (BX hp) _
  split
  ·exact h.fQ hg st (by omega) (by omega) (x:={ aa s g with bS:=s.step,res:=res 2,place:=16 }) rfl rfl rfl rfl rfl rfl (by show bp _ 16;unfold bp;omega) (by simp) (by rw [e9];unfold hP;simp)
  ·exact h.fQ hg st (by omega) (by omega) (x:={ aa s g with place:=10 }) rfl rfl rfl rfl rfl rfl (by show bp _ 10;unfold bp;omega) (by simp) (by rw [e9];unfold hP;simp)
 rw [if_neg e9];have hk:(aI (aa s g)).kind=(ag s g).kind:=rfl
 by_cases jT:(aa s g).place=10
 ·rw [if_pos jT];have pl:=((h.loc hg).pl.resolve_left (by omega)).2;rw [hk,jT] at pl;have k3:(ag s g).kind=2:=by unfold bp at pl;omega
  exact h.kT hg st (.inl k3) jT ⟨rfl,rfl,rfl,by simp [k3]⟩
 rw [if_neg jT]
 by_cases jU:(aa s g).place=11
 ·rw [if_pos jU];have pl:=((h.loc hg).pl.resolve_left (by omega)).2;rw [hk,jU] at pl;have k3:(ag s g).kind=2:=by unfold bp at pl;omega
  exact h.oo hg st (.inl k3) jU rfl rfl rfl (by rw [if_pos k3]) (by rw [if_pos k3])
 rw [if_neg jU]
 by_cases gU:(aa s g).place=14
 ·rw [if_pos gU];have pl:=((h.loc hg).pl.resolve_left (by omega)).2;rw [hk,gU] at pl;have k3:(ag s g).kind=2:=by unfold bp at pl;omega
  exact h.BW hg st (.inl k3) gU _
 rw [if_neg gU];exact h
theorem MInv.bF (h:MInv s) (hg:g < s.gs.length) (st:(aa s g).status=0):MInv (bF s g).1:=by
 unfold Sx.bF;simp only
 by_cases k:(ag s g).kind≠3∧(ag s g).kind≠5
 ·grind
 rw [if_neg k];have k2:2≤(ag s g).kind∧(ag s g).kind≤5:=by omega
 by_cases hc:(Sx.common s g).2=true
 ·rw [if_pos hc];exact h.common hg st (.inl (by omega))
 rw [if_neg hc]
 by_cases hm:Sx.aR s (ag s g).ch=false
 ·grind
 rw [if_neg hm];have ov:=l5.1 (show Sx.aR s (ag s g).ch=true by simpa using hm);have hk:(aI (aa s g)).kind=(ag s g).kind:=rfl
 by_cases e1:(aa s g).place=1
 ·rw [if_pos e1]
  split
  ·exact h.fQ hg st (by omega) (by omega) (x:={ aa s g with place:=4 }) rfl rfl rfl rfl rfl rfl (by show bp _ 4;unfold bp;omega) (by simp) (by rw [e1];unfold hP;simp)
  ·have pl:=((h.loc hg).pl.resolve_left (by omega)).2;rw [hk,e1] at pl;exact h.fQ hg st (by omega) (by omega) (x:={ aa s g with bS:=s.step,res:=(aa s g).res,place:=2 }) rfl rfl rfl rfl rfl rfl (by show bp _ 2;unfold bp at pl ⊢;omega) (by simp) (by rw [e1];unfold hP;simp)
 rw [if_neg e1]
 by_cases e2:(aa s g).place=2
 ·rw [if_pos e2];have pl:=((h.loc hg).pl.resolve_left (by omega)).2;rw [hk,e2] at pl
  split
  ·exact h.fQ hg st (by omega) (by omega) (x:={ aa s g with place:=3 }) rfl rfl rfl rfl rfl rfl (by show bp _ 3;unfold bp at pl ⊢;omega) (by simp) (by rw [e2];unfold hP;simp)
  ·exact h.fQ hg st (by omega) (by omega) (x:={ aa s g with res:={ (aa s g).res with code:=2 },place:=18 }) rfl rfl rfl rfl rfl rfl (.inl rfl) (by simp) (by rw [e2];unfold hP;simp)
 rw [if_neg e2]
 by_cases e3:(aa s g).place=3
 ·rw [if_pos e3]
  split
  ·exact h.fQ hg st (by omega) (by omega) (x:={ aa s g with bS:=0,place:=4 }) rfl rfl rfl rfl rfl rfl (by show bp _ 4;unfold bp;omega) (by simp) (by rw [e3];unfold hP;simp)
  ·exact h.fQ hg st (by omega) (by omega) (x:={ aa s g with bS:=s.step,res:=dA 0 false,place:=18 }) rfl rfl rfl rfl rfl rfl (.inl rfl) (by simp) (by rw [e3];unfold hP;simp)
 rw [if_neg e3]
 by_cases e5:(aa s g).place=5
 ·rw [if_pos e5]
  split
  ·exact h.fQ hg st (by omega) (by omega) (x:={ aa s g with bS:=s.step,res:=dA 0 false,place:=16 }) rfl rfl rfl rfl rfl rfl (by show bp _ 16;unfold bp;omega) (by simp) (by rw [e5];unfold hP;simp)
  split
  ·exact h.fQ hg st (by omega) (by omega) (x:={ aa s g with place:=9 }) rfl rfl rfl rfl rfl rfl (by show bp _ 9;unfold bp;omega) (by simp) (by rw [e5];unfold hP;simp)
  ·exact h.fQ hg st (by omega) (by omega) (x:={ aa s g with place:=6 }) rfl rfl rfl rfl rfl rfl (by show bp _ 6;unfold bp;omega) (by simp) (by rw [e5];unfold hP;simp)
 rw [if_neg e5]
 by_cases e6:(aa s g).place=6
 ·rw [if_pos e6]
  split
  ·exact h.fQ hg st (by omega) (by omega) (x:={ aa s g with place:=9 }) rfl rfl rfl rfl rfl rfl (by show bp _ 9;unfold bp;omega) (by simp) (by rw [e6];unfold hP;simp)
  ·rename_i hl;exact h.s6 hg st k2 e6 (.inr (qO hl))
 rw [if_neg e6]
 by_cases e7:(aa s g).place=7
 ·rw [if_pos e7];exact h.s7 hg st k2 e7
 rw [if_neg e7]
 by_cases e8:(aa s g).place=8
 ·rw [if_pos e8];exact h.Iz hg st k2 e8
 rw [if_neg e8]
 by_cases e9:(aa s g).place=9
 ·rw [if_pos e9]
  split
  ·have hc:=h.fA ov.1 ov.2;exact h.s9 hg st k2 e9 (by have:=BY (l:=(cn s (ag s g).ch).buf);omega) _
  split
  ·exact h.fQ hg st (by omega) (by omega) (x:={ aa s g with bS:=s.step,res:=res 2,place:=16 }) rfl rfl rfl rfl rfl rfl (by show bp _ 16;unfold bp;omega) (by simp) (by rw [e9];unfold hP;simp)
  ·exact h.fQ hg st (by omega) (by omega) (x:={ aa s g with place:=10 }) rfl rfl rfl rfl rfl rfl (by show bp _ 10;unfold bp;omega) (by simp) (by rw [e9];unfold hP;simp)
 rw [if_neg e9]
 by_cases jT:(aa s g).place=10
 ·rw [if_pos jT];have pl:=((h.loc hg).pl.resolve_left (by omega)).2;rw [hk,jT] at pl;have k3:(ag s g).kind=3:=by unfold bp at pl;omega
  exact h.kT hg st (.inr k3) jT ⟨rfl,rfl,rfl,by simp [k3]⟩
 rw [if_neg jT]
 by_cases jU:(aa s g).place=11
 ·rw [if_pos jU];have pl:=((h.loc hg).pl.resolve_left (by omega)).2;rw [hk,jU] at pl;have k3:(ag s g).kind=3:=by unfold bp at pl;omega
  exact h.oo hg st (.inr k3) jU rfl rfl rfl (by rw [if_neg (by omega)]) (by rw [if_neg (by omega)])
 rw [if_neg jU]
 by_cases gU:(aa s g).place=14
 ·rw [if_pos gU];have pl:=((h.loc hg).pl.resolve_left (by omega)).2;rw [hk,gU] at pl;have k3:(ag s g).kind=3:=by unfold bp at pl;omega
  exact h.BW hg st (.inr k3) gU _
 rw [if_neg gU];exact h
end Sx
namespace Sx
variable {s t:ai} {g:Nat} {nc ns n:Int}
theorem BZ {s:ai} {g o:Nat} {i c:Int} (hg:g < s.gs.length) (ho:o < s.gs.length) (hi:(aa s g).hold=i) (so:(su s i).g=o) (sc:(su s i).ch=c) (c0:1≤c) (c1:c≤s.aK.length) (ck:o≠g) :
  gz s g=ah (bh (ah (aH s c (bQ (cn s c) i)) o { aa s o with bS:=s.step,c7:=(su s i).cs,param:=i }) i { su s i with done:=false }) g { aa s g with t:=s.step,an:=(aa s g).an ++ [(o:Int)],hold:=-1 }:=by
 subst hi;have e1:bE (ah s g { aa s g with t:=s.step }) (aa s g).hold=aH (ah s g { aa s g with t:=s.step }) c (bQ (cn s c) (aa s g).hold):=drop_eq (s:=ah s g { aa s g with t:=s.step }) sc c0 c1;have e0:∀ s1,bE (ah s g { aa s g with t:=s.step }) (aa s g).hold=s1→gz s g=serve (ah s1 (su s1 (aa s g).hold).g.toNat { aa s1 (su s1 (aa s g).hold).g.toNat with bS:=(aa s1 g).t,c7:=(su s1 (aa s g).hold).cs }) g (aa s g).hold false:=fun s1 h=>by subst h;rfl
 rw [e0 _ e1];generalize (aa s g).hold=i at *;have l1:∀ x,(aH (ah s g x) c (bQ (cn s c) i)).gs.length=s.gs.length:=fun x=>by show (ah s g x).gs.length=_;rw [fB]
 have es:∀ x,su (aH (ah s g x) c (bQ (cn s c) i)) i=su s i:=fun _=>rfl
 have g1:∀ x,aa (aH (ah s g x) c (bQ (cn s c) i)) g=x:=fun x=>by rw [vj,fT hg,if_pos rfl]
 have g2:∀ x,aa (aH (ah s g x) c (bQ (cn s c) i)) o=aa s o:=fun x=>by rw [vj,fT hg,if_neg ck]
 rw [es,so,Int.toNat_natCast,g1,g2];rw [tu (o:=o) (by rw [fB,l1];exact hg) (by rw [fB,l1];exact ho) (by show (su s i).g=o;exact so) ck];have g3:∀ x y,aa (ah (aH (ah s g x) c (bQ (cn s c) i)) o y) o=y:=fun x y=>by rw [fT (by rw [l1];exact ho),if_pos rfl]
 have g4:∀ x y,aa (ah (aH (ah s g x) c (bQ (cn s c) i)) o y) g=x:=fun x y=>by rw [fT (by rw [l1];exact ho),if_neg (by omega),g1]
 rw [g3,g4];unfold ah bh aH;simp only [List.set_set];rw [vr ck];rfl
theorem MInv.Ca (h:MInv s) (hg:g < s.gs.length) (st:(aa s g).status=0) (k:(ag s g).kind=6) (e:(aa s g).place=22∨(aa s g).place=23) {o:Nat} {i c:Int} {x y:Gr} (q:qJ s g c i o) (c0:1≤c) (c1:c≤s.aK.length) (hq:i∈(cn s c).recv∨i∈(cn s c).send) (ck:o≠g) (hh:bl (aa s g) c)
  (hp:(su s i).cs < 0∨0≤(su s i).cs∧(aa s o).br=false∧y.br=true) (py:Part (aa s o) y) (e1:y.param=i) (e2:y.token=(aa s o).token) (e3:y.status=(aa s o).status) (e4:(aa s o).br=true→y.br=true)
  (h1:x.ops=(aa s g).ops) (h2:x.at_=(aa s g).at_) (h3:x.status=(aa s g).status) (h4:x.token=(aa s g).token) (h5:x.param=(aa s g).param) (h6:x.an=(aa s g).an ++ [(o:Int)]) (h7:x.place=22) {d:Su}
  (hd:d.g=(su s i).g∧d.ch=(su s i).ch∧d.cs=(su s i).cs∧d.send=(su s i).send∧d.live=(su s i).live) :
  MInv (ah (bh (ah (aH s c (bQ (cn s c) i)) o y) i d) g x):=by
 have hk:(aI (aa s g)).kind=(ag s g).kind:=rfl;have L:=h.loc hg;have G:eY (aa s g) { x with an:=(aa s g).an }:=by
  refine ⟨h1,h2,h3,h4,h5,rfl,by unfold SE;omega,st,by omega,by omega,by simp only;omega,?_,?_,?_,?_⟩
  ·show bp _ x.place;rw [h7];unfold bp;omega
  ·grind
  ·simp only;omega
  ·grind
 have Cb:Wt (aa s o)∧(aa s o).param=-1:=by
  have Lo:=h.loc q.o1;rcases hp with hp | hp
  ·rcases q.q with w | w
   ·exact ⟨.inl ⟨w.1,w.2.1,w.2.2.1⟩,w.2.2.2.2⟩
   ·omega
  ·have ia:SE (aa s o):=by
    rcases q.mt with m | m
    ·omega
    ·exact m.1
   refine ⟨?_,?_⟩
   ·have:=Inv.BA h.v c0 c1 hq (g:=g) (by omega) (by omega) (by rw [dR];exact hh) (by rw [q.g_];omega);rw [q.g_,dR] at this;rcases this with w | w
    ·exact w
    ·grind
   ·by_cases z:0≤(aa s o).param
    ·have:=Lo.p3 z ia;rw [hp.2.1] at this;cases this
    ·have:=Lo.p0;omega
 have Cc:(o:Int)∉(aa s g).an:=by
  intro w;have:=Inv.wk h.v g (by omega) (by omega) o (by rw [dR];exact w);rw [dR] at this;omega
 have G1:=G.loc L (by simp only;omega);have yy:=L.w3;have lx:Loc s.aK.length s.aL.length s.gs.length x:=by
  have:=G1.yD (l:=(aa s g).an ++ [(o:Int)]) (.inr (.inr (.inl h7))) (fun p hp=>by
   rcases List.mem_append.1 hp with w | w
   ·exact yy p w
   ·have:=List.mem_singleton.1 w;have:=q.o1;omega) (List.nodup_append.2 ⟨L.w4,by simp,fun a ha b hb=>by rw [List.mem_singleton.1 hb];exact fun z=>Cc (z ▸ ha)⟩) (by simp)
  rw [← h6] at this;exact this
 have tv:∀ i,¬ Own x i:=by
  have ho:aI x=aI (aa s g):=by unfold aI;rw [h1,h2]
  rintro i ⟨_,w | w⟩
  ·have:=w.2.2.1;omega
  ·have:=w.1;unfold SE at this;rw [ho] at this;omega
 have me:∀ ch,bl x ch↔bl (aa s g) ch:=by
  intro ch;have:=G.hh (by show hP _↔hP x.place;rw [h7];unfold hP;omega) ch;exact this
 refine h.yz hg c0 c1 lx ⟨.inl ⟨rfl,me⟩,h.fA c0 c1,⟨gH,gH⟩,.inr hh⟩ (fun i=>⟨fun w=>absurd w (tv i),fun w=>absurd w (G.own i).1⟩) (fun i d w=>absurd w (tv i)) G.nq (by unfold bW;omega) (by unfold cB;omega) (fun z hz=>?_) G.nw q.ch q.g_ q.o1 ck Cb.1 Cb.2 q.own (fun w=>?_) ⟨kG,kG⟩ ?_ py e1 e2 e3 h2 hd
 ·grind
 ·rcases hp with hp | hp
  ·rcases q.mt with m | m
   ·exact absurd w m.1.ne
   ·omega
  ·exact hp.2.2
 ·intro k a b cl ek;have:=Inv.cl h.v k (by omega) (by omega);rw [dR] at this;obtain ⟨s1,s2,s3,s4,s5,s6,s7,s8,s9,kT,oo⟩:=this cl;rw [ek,dR] at s7 s8 s9 kT oo;rcases hp with hp | hp
  ·rcases q.mt with m | m
   ·have k1:=oo m.1;have e5:(aa s k).hold=i:=by
     have m1:=s9.2;have m2:=q.own.2;rcases m1 with m1 | m1
     ·rcases m2 with m2 | m2
      ·omega
      ·exact absurd m2.1 m.1.ne
     ·exact absurd m1.1 m.1.ne
    rw [e5,q.ch] at k1;rcases hq with hq | hq
    ·exact k1.1 hq
    ·exact k1.2 hq
   ·omega
  ·have ia:SE (aa s o):=by
    rcases q.mt with m | m
    ·omega
    ·exact m.1
   have:=kT ia;rw [hp.2.1] at this;cases this
theorem MInv.drain (h:MInv s) (hg:g < s.gs.length) (st:(aa s g).status=0) (k:(ag s g).kind=6) (e:(aa s g).place=22) {i:Int} (hq:i∈(cn s (ag s g).ch).recv∨i∈(cn s (ag s g).ch).send):MInv (ju s g i):=by
 have hk:(aI (aa s g)).kind=(ag s g).kind:=rfl;obtain ⟨c0,c1⟩:=h.mV hg (by omega) (by omega);have L:=h.loc hg;obtain ⟨o,q⟩:=h.qK (g:=g) c0 c1 hq;have hh:bl (aa s g) (ag s g).ch:=.inl ⟨by omega,by omega,rfl,by omega⟩;have G:eY (aa s g) { aa s g with hold:=i,place:=23 }:=by
  refine ⟨rfl,rfl,rfl,rfl,rfl,rfl,by unfold SE;omega,st,by omega,by omega,by simp,?_,?_,?_,?_⟩
  ·show bp _ 23;unfold bp;omega
  ·grind
  ·simp only;omega
  ·simp
 have ck:=q.ne h G.nq;unfold ju;simp only;have es:su (ah s g { aa s g with hold:=i }) i=su s i:=rfl;rw [es]
 by_cases hn:0≤(su s i).cs
 ·rw [if_pos hn,kF _ _ _ _ hg];refine h.self hg (G.sf L (fun _=>⟨q.i0,q.i1⟩) ?_ (by simp)) rfl (fun _=>?_)
  ·rw [e];unfold hP;simp
  ·simp only;rw [q.ch];exact ⟨c0,c1,.inl ⟨by show 2≤(aI (aa s g)).kind;omega,by show (aI (aa s g)).kind≤6;omega,rfl,by simp⟩,hq,hn⟩
 ·rw [if_neg hn];have l1:(ah s g { aa s g with hold:=i }).gs.length=s.gs.length:=fB;have gg:aa (ah s g { aa s g with hold:=i }) g={ aa s g with hold:=i }:=by rw [fT hg,if_pos rfl]
  have go:aa (ah s g { aa s g with hold:=i }) o=aa s o:=by rw [fT hg,if_neg ck]
  rw [BZ (s:=ah s g { aa s g with hold:=i }) (i:=i) (by rw [l1];exact hg) (by rw [l1];exact q.o1) (by rw [gg]) q.g_ q.ch c0 c1 ck,gg,go,es];have ef:∀ y d x,ah (bh (ah (aH (ah s g { aa s g with hold:=i }) (ag s g).ch (bQ (cn (ah s g { aa s g with hold:=i }) (ag s g).ch) i)) o y) i d) g x=ah (bh (ah (aH s (ag s g).ch (bQ (cn s (ag s g).ch) i)) o y) i d) g x:=by
   intro y d x;unfold ah bh aH;simp only;rw [vr ck];rfl
  rw [ef];exact h.Ca hg st k (.inl e) (x:={ aa s g with t:=s.step,an:=(aa s g).an ++ [(o:Int)],hold:=-1 }) (y:={ aa s o with bS:=s.step,c7:=(su s i).cs,param:=i }) q c0 c1 hq ck hh (.inl (by omega)) ⟨rfl,rfl,rfl,rfl,rfl,rfl,rfl,rfl,rfl,rfl,rfl⟩ rfl rfl rfl id rfl rfl rfl rfl rfl rfl e ⟨rfl,rfl,rfl,rfl,rfl⟩
theorem MInv.j8 (h:MInv s) (hg:g < s.gs.length) (st:(aa s g).status=0) (k:(ag s g).kind=6) (e:(aa s g).place=23):MInv (j8 s g):=by
 have hk:(aI (aa s g)).kind=(ag s g).kind:=rfl;have L:=h.loc hg;have G:eY (aa s g) { aa s g with hold:=-1,place:=22 }:=by
  refine ⟨rfl,rfl,rfl,rfl,rfl,rfl,by unfold SE;omega,st,by omega,by omega,by simp,?_,?_,?_,?_⟩
  ·show bp _ 22;unfold bp;omega
  ·grind
  ·simp only;omega
  ·simp
 obtain ⟨o,q,c0,c1,hh,hq,lu⟩:=h.yA hg (.inr (.inl e));have ck:o≠g:=q.ne h G.nq;unfold Sx.j8;simp only [q.g_,Int.toNat_natCast]
 cases hp:(aa s o).br with
 | true =>
  rw [if_pos rfl,drop_eq rfl c0 c1];exact h.qH hg G c0 c1 ⟨.inl ⟨rfl,G.hh (by rw [e];unfold hP;simp)⟩,h.fA c0 c1,⟨gH,gH⟩,.inr hh⟩ (by unfold bW;simp) (by simp)
 | false =>
  rw [if_neg (by simp)];have l1:(ah s o { aa s o with br:=true }).gs.length=s.gs.length:=fB;have gg:aa (ah s o { aa s o with br:=true }) g=aa s g:=by rw [fT q.o1,if_neg (by omega)]
  have go:aa (ah s o { aa s o with br:=true }) o={ aa s o with br:=true }:=by rw [fT q.o1,if_pos rfl]
  have es:su (ah s o { aa s o with br:=true }) (aa s g).hold=su s (aa s g).hold:=rfl;rw [BZ (s:=ah s o { aa s o with br:=true }) (i:=(aa s g).hold) (by rw [l1];exact hg) (by rw [l1];exact q.o1) (by rw [gg]) q.g_ q.ch c0 c1 ck,gg,go,es];rw [kF _ _ _ _ (by simp only [bh,ah,aH,List.length_set];exact hg)];have ef:∀ y d x c,ah (bh (ah (aH (ah s o { aa s o with br:=true }) c (bQ (cn (ah s o { aa s o with br:=true }) c) (aa s g).hold)) o y) (aa s g).hold d) g x=ah (bh (ah (aH s c (bQ (cn s c) (aa s g).hold)) o y) (aa s g).hold d) g x:=by
   intro y d x c;unfold ah bh aH;simp only [List.set_set];rfl
  rw [ef];exact h.Ca hg st k (.inr e) (x:={ aa s g with t:=s.step,an:=(aa s g).an ++ [(o:Int)],hold:=-1,place:=22 }) (y:={ aa s o with br:=true,bS:=s.step,c7:=(su s (aa s g).hold).cs,param:=(aa s g).hold }) q c0 c1 hq ck hh (.inr ⟨lu,hp,rfl⟩) ⟨rfl,rfl,rfl,rfl,rfl,rfl,rfl,rfl,rfl,rfl,rfl⟩ rfl rfl rfl (fun _=>rfl) rfl rfl rfl rfl rfl rfl rfl ⟨rfl,rfl,rfl,rfl,rfl⟩
theorem MInv.c9 (h:MInv s) (hg:g < s.gs.length) (st:(aa s g).status=0):MInv (c9 s g).1:=by
 unfold Sx.c9;simp only
 by_cases k:(ag s g).kind≠6
 ·grind
 rw [if_neg k];have k6:(ag s g).kind=6:=by omega
 have hk:(aI (aa s g)).kind=(ag s g).kind:=rfl
 by_cases hc:(Sx.common s g).2=true
 ·rw [if_pos hc];exact h.common hg st (.inl (by omega))
 rw [if_neg hc]
 by_cases hm:Sx.aR s (ag s g).ch=false
 ·grind
 rw [if_neg hm];have ov:=l5.1 (show Sx.aR s (ag s g).ch=true by simpa using hm)
 by_cases e1:(aa s g).place=21
 ·rw [if_pos e1]
  split
  ·exact h.fQ hg st (by omega) (by omega) (x:={ aa s g with bS:=s.step,res:=res 4,place:=16 }) rfl rfl rfl rfl rfl rfl (by show bp _ 16;unfold bp;omega) (by simp) (by rw [e1];unfold hP;simp)
  ·have hc:=h.fA ov.1 ov.2;have G:=h.yF hg st (by omega) (by omega) (x:={ aa s g with bS:=s.step,res:=kP,place:=22 }) rfl rfl rfl rfl rfl rfl (by show bp _ 22;unfold bp;omega) (by simp);exact h.qH hg G ov.1 ov.2 (c':={ cn s (ag s g).ch with closed:=true }) ⟨.inl ⟨rfl,G.hh (by rw [e1];unfold hP;simp)⟩,hc,⟨List.Sublist.refl _,List.Sublist.refl _⟩,.inl ⟨rfl,rfl⟩⟩ (by unfold bW;simp) (by simp)
 rw [if_neg e1]
 by_cases e2:(aa s g).place=22
 ·rw [if_pos e2]
  by_cases q1:0 < (cn s (ag s g).ch).recv.length
  ·rw [if_pos q1];exact h.drain hg st k6 e2 (.inl (qO (by omega)))
  rw [if_neg q1]
  by_cases q2:0 < (cn s (ag s g).ch).send.length
  ·rw [if_pos q2];exact h.drain hg st k6 e2 (.inr (qO (by omega)))
  rw [if_neg q2];have G:eY (aa s g) { aa s g with place:=16 }:=by
   refine ⟨rfl,rfl,rfl,rfl,rfl,rfl,by unfold SE;omega,st,by omega,by omega,by simp,?_,?_,?_,?_⟩
   ·show bp _ 16;unfold bp;omega
   ·grind
   ·simp only;omega
   ·simp
  exact h.BC hg G (by rw [e2];unfold hP;simp) (by unfold bW;simp) (by simp)
 rw [if_neg e2]
 by_cases e3:(aa s g).place=23
 ·rw [if_pos e3];exact h.j8 hg st k6 e3
 rw [if_neg e3];exact h
end Sx
namespace Sx
variable {s t:ai} {g:Nat} {nc ns n:Int}
theorem Sf.out {x y:Gr} (lx:Loc nc ns n y) (ox:∀ i,¬ Own x i) (oy:∀ i,¬ Own y i) (qx:∀ i j,¬ dy x i j) (hx:∀ ch,¬ bl x ch) (hy:∀ ch,¬ bl y ch) (wx:¬ Wt x) (eP:¬ cB y) (wk:y.an=[]):Sf nc ns n x y :=
 ⟨lx,fun ch=>⟨fun w=>absurd w (hy ch),fun w=>absurd w (hx ch)⟩,fun i=>⟨fun w=>absurd w (oy i),fun w=>absurd w (ox i)⟩,fun i d w=>absurd w (oy i),fun i j w=>absurd w (qx i j),eP,fun q=>by rw [wk];simp,fun w=>absurd w.1 wx,fun w=>absurd w.1 wx⟩
def dc (p:Int):Prop:=p=0∨p=1∨p=2∨p=3∨p=4∨p=17∨p=18∨p=19∨p=20
theorem dc.own {x:Gr} (h:dc x.place) (i:Int):¬ Own x i:=by
 rintro ⟨_,w | w⟩
 ·have:=w.2.1;have:=w.2.2.1;unfold dc at h;omega
 ·have:=w.2.1;unfold dc at h;omega
theorem dc.q {x:Gr} (h:dc x.place) (i j:Int):¬ dy x i j:=by
 rintro (w | w)
 ·have:=w.2.1;have:=w.2.2.1;unfold dc at h;omega
 ·have:=w.2.2.2.2;unfold dc at h;omega
theorem dc.holds {x:Gr} (h:dc x.place) (c:Int):¬ bl x c:=by
 rintro (w | w)
 ·have:=w.2.2.2;unfold dc at h;omega
 ·have:=w.2;unfold dc at h;omega
theorem dc.wt {x:Gr} (h:dc x.place):¬ Wt x:=by
 rintro (w | w)
 ·have:=w.2;unfold dc at h;omega
 ·have:=w.2;unfold dc at h;omega
theorem dc.eP {x:Gr} (h:dc x.place):¬ cB x:=by unfold cB;unfold dc at h;omega
theorem dc.nw {x:Gr} (h:dc x.place):¬ bW x:=by unfold bW;unfold dc at h;omega
theorem dc.pm {x:Gr} (h:dc x.place) (L:Loc nc ns n x):x.param=-1∧x.token=false:=by
 constructor
 ·have:=L.p0
  by_cases c:0≤x.param
  ·exact absurd (L.p2 c).1 h.wt
  ·omega
 ·cases c:x.token
  ·rfl
  ·exact absurd (L.tk c).1 h.wt
theorem Sf.outs {x y:Gr} (lx:Loc nc ns n y) (hx:dc x.place) (hy:dc y.place) (wk:y.an=[]):Sf nc ns n x y :=
 .out lx hx.own hy.own hx.q hx.holds hy.holds hx.wt hy.eP wk
theorem Loc.fresh {x y:Gr} (L:Loc nc ns n x) (h1:y.ops=x.ops) (h2:y.at_=x.at_) (lt:x.at_ < x.ops.length) (ok:bp (aI x).kind y.place) (hp:y.place=1∨y.place=4∨y.place=18∨y.place=20∨y.place=19) (hs:y.place=19∧y.status=1∨y.place≠19∧y.status=0) (ht:y.token=false) (pm:y.param=-1) (wk:y.an=[])
  (mk:y.place=1∨y.place=4→1≤(aI x).ch∧(aI x).ch≤nc) (MG:y.place=20→(aI x).kind=1∨7≤(aI x).kind) (oz:0≤ns):Loc nc ns n y:=by
 have ho:aI y=aI x:=by unfold aI;rw [h1,h2]
 have MH:dc y.place:=by unfold dc;omega
 have fy:=L.fy
 constructor
 ·rw [h1];exact L.kS
 ·rw [h1];exact fy
 ·rw [h2];exact L.a0
 ·grind
 ·grind
 ·grind
 ·omega
 ·omega
 ·omega
 ·omega
 ·rw [ht];simp
 ·rw [wk];simp
 ·omega
 ·rw [wk];simp
 ·rw [wk];simp
 ·omega
 ·omega
 ·rw [pm];omega
 ·omega
 ·rw [pm];omega
 ·rw [pm];omega
 ·intro _ c;unfold cU at c;omega
theorem MInv.gI (h:MInv s):(0:Int)≤s.aL.length:=by omega
theorem swap_perm (l:List Int) (i j:Nat) (hi:i < l.length) (hj:j < l.length):(swap l i j).Perm l:=by
 unfold swap;rw [List.getD_eq_getElem?_getD,List.getD_eq_getElem?_getD,List.getElem?_eq_getElem hi,List.getElem?_eq_getElem hj];simp only [Option.getD_some];exact List.set_set_perm hi hj
theorem vt (ds:List Int):∀ n:Nat,(dx ds n).Perm ((List.range n).map Int.ofNat)
 | 0=>by simp [dx]
 | n + 1=>by
  have ih:=vt ds n;have hl:(dx ds n).length=n:=by have:=ih.length_eq;simpa using this
  unfold dx;have hm:(ds.getD n 0 % ((n:Int) + 1)).toNat < n + 1:=by
   have h1:=Int.emod_nonneg (ds.getD n 0) (show ((n:Int) + 1)≠0 by omega);have h2:=Int.emod_lt_of_pos (ds.getD n 0) (show (0:Int) < (n:Int) + 1 by omega);omega
  refine (swap_perm _ _ _ (by rw [List.length_append,hl];exact hm) (by rw [List.length_append,hl];exact Nat.lt_succ_self n)).trans ?_;rw [List.range_succ,List.map_append];exact ih.append_right _
theorem IA (ds:List Int) (n:Nat) (i:Int):i∈dx ds n↔0≤i∧i < n:=by
 rw [(vt ds n).mem_iff];simp only [List.mem_map,List.mem_range]
 constructor
 ·grind
 ·rintro ⟨h1,h2⟩;exact ⟨i.toNat,by omega,by simp;omega⟩
theorem IB (ds:List Int) (n:Nat):(dx ds n).Nodup:=by
 rw [(vt ds n).nodup_iff];exact List.pairwise_map.2 (List.nodup_range.imp (fun h e=>h (Int.ofNat.inj e)))
theorem insert_perm (x:Int):∀ l,(insert x l).Perm (x :: l)
 | []=>List.Perm.refl _
 | y :: l=>by
  unfold insert
  split
  ·exact ((insert_perm x l).cons y).trans (List.Perm.swap x y l)
  ·exact List.Perm.refl _
theorem insert_sorted (x:Int):∀ l:List Int,l.Pairwise (·≤·)→(insert x l).Pairwise (·≤·)
 | [],_=>by simp [insert]
 | y :: l,h=>by
  unfold insert;have h2:=List.pairwise_cons.1 h
  split
  ·rename_i c;refine List.pairwise_cons.2 ⟨fun z hz=>?_,insert_sorted x l h2.2⟩;rcases List.mem_cons.1 ((insert_perm x l).mem_iff.1 hz) with w | w
   ·omega
   ·exact h2.1 z w
  ·rename_i c;refine List.pairwise_cons.2 ⟨fun z hz=>?_,h⟩;rcases List.mem_cons.1 hz with w | w
   ·omega
   ·have:=h2.1 z w;omega
theorem IC (l:List Int):∀ acc:List Int,acc.Pairwise (·≤·)→(l.foldl (fun acc x=>insert x acc) acc).Pairwise (·≤·)∧∀ x,x∈l.foldl (fun acc x=>insert x acc) acc↔x∈acc∨x∈l:=by
 induction l with
 | nil=>intro acc h;simp [h]
 | cons y l ih =>
  intro acc h;have:=ih (insert y acc) (insert_sorted y acc h);simp only [List.foldl_cons];refine ⟨this.1,fun x=>?_⟩;rw [this.2,(insert_perm y acc).mem_iff];simp only [List.mem_cons]
  grind
theorem ID (l:List Int):∀ acc:List Int,acc.Pairwise (· < ·)→(∀ x∈acc,0 < x)→l.Pairwise (·≤·)→(∀ x∈acc,∀ y∈l,x≤y)→(l.foldl fJ acc).Pairwise (· < ·)∧∀ x,x∈l.foldl fJ acc↔x∈acc∨x∈l∧0 < x:=by
 induction l with
 | nil=>intro acc h h0 _ _;simp [h]
 | cons y l ih =>
  intro acc h h0 hl hle;have mC:=List.pairwise_cons.1 hl;simp only [List.foldl_cons];have Cd:0 < acc.length→acc.getLastD 0∈acc:=fun hp=>by
   cases acc with
   | nil=>simp at hp
   | cons a b=>simp [List.getLastD]
  unfold fJ
  split
  ·rename_i c;have:=ih acc h h0 mC.2 (fun x hx z hz=>hle x hx z (List.mem_cons_of_mem _ hz));unfold fJ at this;refine ⟨this.1,fun x=>?_⟩;rw [this.2];simp only [List.mem_cons]
   constructor
   ·rintro (w | w)
    ·exact .inl w
    ·exact .inr ⟨.inr w.1,w.2⟩
   ·rintro (w | ⟨w | w,w2⟩)
    ·exact .inl w
    ·subst w;rcases c with c | c
     ·omega
     ·exact .inl (c.2 ▸ Cd c.1)
    ·exact .inr ⟨w,w2⟩
  ·rename_i c;have hy:0 < y:=by omega
   have gq:∀ x∈acc,x < y:=by
    intro x hx;have h1:=hle x hx y (by simp);have h2:acc.getLastD 0≠y:=fun e=>c (.inr ⟨List.length_pos_iff.2 (List.ne_nil_of_mem hx),e⟩)
    by_cases q:x=y
    ·exfalso
     subst q;have hp:0 < acc.length:=List.length_pos_iff.2 (List.ne_nil_of_mem hx);have h3:=hle _ (Cd hp) x (by simp);have ha:=Po.xl (List.ne_nil_of_mem hx);generalize acc.getLastD 0=z at *;rw [ha] at h hx;rcases List.mem_append.1 hx with w | w
     ·grind
     ·grind
    ·omega
   have:=ih (acc ++ [y]) (List.pairwise_append.2 ⟨h,by simp,fun a ha b hb=>by rw [List.mem_singleton.1 hb];exact gq a ha⟩) (fun x hx=>by
    rcases List.mem_append.1 hx with w | w
    ·exact h0 x w
    ·rw [List.mem_singleton.1 w];exact hy) mC.2 (fun x hx z hz=>by
    rcases List.mem_append.1 hx with w | w
    ·exact hle x w z (List.mem_cons_of_mem _ hz)
    ·rw [List.mem_singleton.1 w];exact mC.1 z hz)
   unfold fJ at this;refine ⟨this.1,fun x=>?_⟩;rw [this.2];simp only [List.mem_append,List.mem_singleton,List.mem_cons,List.not_mem_nil,or_false]
   constructor
   ·rintro ((w | w) | w)
    ·exact .inl w
    ·subst w;exact .inr ⟨.inl rfl,hy⟩
    ·exact .inr ⟨.inr w.1,w.2⟩
   ·rintro (w | ⟨w | w,w2⟩)
    ·exact .inl (.inl w)
    ·exact .inl (.inr w)
    ·exact .inr ⟨w,w2⟩
theorem yG (l:List Int):(aE l).Pairwise (· < ·)∧∀ x,x∈aE l↔x∈l∧0 < x:=by
 have h1:=IC l [] List.Pairwise.nil;have h2:=ID (sort l) [] List.Pairwise.nil (by simp) h1.1 (by simp);refine ⟨h2.1,fun x=>?_⟩;have:=h2.2 x;unfold aE;rw [this];have h3:=h1.2 x;unfold sort;rw [h3];simp
theorem Ce (s:ai) (h0:0≤s.drawn) (h1:s.drawn≤s.cY.length):∀ n,s.drawn≤(drawn s n).2∧(drawn s n).2≤s.cY.length
 | 0=>⟨Int.le_refl _,h1⟩
 | n + 1=>by
  have ih:=Ce s h0 h1 n;unfold drawn draw
  split
  ·exact ih
  ·simp only;omega
end Sx
namespace Sx
variable {s t:ai} {g:Nat} {nc ns n:Int}
theorem MInv.IE (h:MInv s) {d:Int} (d0:0≤d) (d1:d≤s.cY.length):MInv { s with drawn:=d } :=
 ⟨h.v,h.n1,h.n8,h.c8,h.sn,h.mT,h.c1,h.oq,h.ca,h.f0,h.po,d0,d1,h.du,h.d5,h.dn⟩
theorem MInv.outs (h:MInv s) (hg:g < s.gs.length) {y:Gr} (lx:Loc s.aK.length s.aL.length s.gs.length y) (hx:dc (aa s g).place) (hy:dc y.place) (wk:y.an=[]) (ha:y.at_=(aa s g).at_):MInv (ah s g y) :=
 h.self hg (.outs lx hx hy wk) ha (fun w=>absurd w hy.nw)
theorem kH {x y:Gr}:ah (ah s g x) g y=ah s g y:=by unfold ah;simp only [List.set_set]
theorem IF (hg:g < s.gs.length) (st:(aa s g).status=0) (ht:(aa s g).token=false):never s g=ah s g { aa s g with place:=19,status:=1 }:=by
 unfold never fH aT;simp only [gf s g g _ hg,if_true,st,ht];rw [if_neg (by simp),kH]
theorem yI (s:ai) (g:Nat) (x:Gr) (r:Md.ak) (p:Int) (hg:g < s.gs.length):bG (ah s g x) g r p=ah s g { x with bS:=s.step,res:=r,place:=p }:=by
 unfold bG;rw [gf s g g x hg,if_pos rfl,kH];rfl
theorem Cf (s:ai) (g:Nat) (x:Gr) (hg:g < s.gs.length) (st:x.status=0) (ht:x.token=false):never (ah s g x) g=ah s g { x with place:=19,status:=1 }:=by
 have e:aa (ah s g x) g=x:=by rw [gf s g g x hg,if_pos rfl]
 rw [IF (by rw [fB];exact hg) (by rw [e];exact st) (by rw [e];exact ht),e,kH]
theorem Loc.IG {x y:Gr} (L:Loc nc ns n x) (h1:y.ops=x.ops) (h2:y.at_=x.at_) (lt:x.at_ < x.ops.length) (k:(aI x).kind=9) (e:y.place=24) (st:y.status=0) (ht:y.token=false) (pm:y.param=-1) (wk:y.an=[]) (ek:y.k=0) (es:y.aq=[]) (er:y.res.code=0) (oz:0≤ns)
  (o1:∀ i∈y.order,0≤i∧i < (aI x).cases.length∧bJ x i∈y.aE) (o2:y.order.Nodup) (o3:1≤y.order.length) (l1:∀ c∈y.aE,1≤c∧c≤nc) (l2:y.aE.Pairwise (· < ·)) (l3:1≤y.aE.length):Loc nc ns n y:=by
 have ho:aI y=aI x:=by unfold aI;rw [h1,h2]
 have hc:∀ j,bJ y j=bJ x j:=fun j=>by unfold bJ;rw [ho]
 have fy:=L.fy
 constructor
 ·rw [h1];exact L.kS
 ·rw [h1];exact fy
 ·rw [h2];exact L.a0
 ·grind
 ·rw [h1,h2,ho,e];exact .inr ⟨lt,by unfold bp;omega⟩
 ·grind
 ·omega
 ·omega
 ·omega
 ·omega
 ·rw [ht];simp
 ·rw [wk];simp
 ·omega
 ·rw [wk];simp
 ·rw [wk];simp
 ·omega
 ·omega
 ·rw [pm];omega
 ·omega
 ·rw [pm];omega
 ·rw [pm];omega
 ·intro _ _
  constructor
  ·grind
  ·exact o2
  ·exact o3
  ·exact l1
  ·exact l2
  ·exact l3
  ·omega
  ·omega
  ·omega
  ·omega
  ·intro _;exact es
  ·omega
  ·omega
  ·grind
  ·omega
  ·intro c;omega
  ·omega
  ·intro _;exact er
  ·omega
  ·intro c;omega
theorem Cg {x:Gr} (L:Loc nc ns n x) (lt:x.at_ < x.ops.length):Pn.dO (aI x)=true:=by
 have:=L.a0;unfold aI;rw [List.getD_eq_getElem?_getD,List.getElem?_eq_getElem (by omega)];exact L.fy _ (List.getElem_mem _)
theorem yJ {o:Pn.Op} (h:Pn.dO o=true):1≤o.kind∧o.kind≤9∧0≤o.ch∧o.ch≤8∧0≤o.n∧o.n≤4∧0≤o.v∧o.v≤255∧o.cases.length≤6∧∀ c∈o.cases,Pn.iN c=true:=by
 unfold Pn.dO at h;simp only [decide_eq_true_eq] at h;exact ⟨h.1,h.2.1,h.2.2.1,h.2.2.2.1,h.2.2.2.2.1,h.2.2.2.2.2.1,h.2.2.2.2.2.2.1,h.2.2.2.2.2.2.2.1,h.2.2.2.2.2.2.2.2.1,h.2.2.2.2.2.2.2.2.2.2.2.2.2⟩
theorem MInv.iA (h:MInv s) (hg:g < s.gs.length) {x:Gr} (hx:dc (aa s g).place) (h1:x.ops=(aa s g).ops) (h2:x.at_=(aa s g).at_) (lt:x.at_ < x.ops.length) (k:(aI (aa s g)).kind=9) (st:x.status=0) (ht:x.token=false) (pm:x.param=-1) (wk:x.an=[]) (ek:x.k=0) (es:x.aq=[]) (er:x.res.code=0) (eo:x.order=[]):MInv (Sx.iA (ah s g x) g (aI (aa s g))):=by
 have L:=h.loc hg;obtain ⟨o,ho⟩:∃ o,aI (aa s g)=o:=⟨_,rfl⟩
 have MI:aI x=o:=by rw [← ho];unfold aI;rw [h1,h2]
 rw [ho] at k ⊢;unfold Sx.iA;simp only;have jY:=Ce (ah s g x) h.ot h.oX o.cases.length;obtain ⟨d,hd⟩:∃ d,(drawn (ah s g x) o.cases.length).2=d:=⟨_,rfl⟩
 rw [hd] at jY ⊢;have h':MInv { s with drawn:=d }:=h.IE (by have:=h.ot;have:(ah s g x).drawn=s.drawn:=rfl;omega) jY.2;have II:=IA (drawn (ah s g x) o.cases.length).1 o.cases.length;have MJ:=IB (drawn (ah s g x) o.cases.length).1 o.cases.length;generalize dx (drawn (ah s g x) o.cases.length).1 o.cases.length=ord at *;have em:∀ c,aR (ah s g x) c=aR s c:=fun _=>rfl
 simp only [em];have gx:aa (ah s g x) g=x:=by rw [gf s g g x hg,if_pos rfl]
 rw [gx,eo,List.nil_append];have eL:g < ({ s with drawn:=d }:ai).gs.length:=hg;obtain ⟨gQ,tw⟩:∃ gQ,ord.filter (fun i=>aR s (bT o i).ch)=gQ:=⟨_,rfl⟩
 rw [tw];have gm:∀ i∈gQ,0≤i∧i < o.cases.length∧1≤(bT o i).ch∧(bT o i).ch≤s.aK.length:=by
  intro i hi;rw [← tw,List.mem_filter] at hi;have a:=(II i).1 hi.1;have b:=l5.1 hi.2;omega
 have gn:gQ.Nodup:=by grind
 have ls:=yG (gQ.map (fun i=>(bT o i).ch));obtain ⟨y,hy⟩:∃ y,({ x with order:=gQ,aE:=aE (gQ.map (fun i=>(bT o i).ch)),place:=24 }:Gr)=y:=⟨_,rfl⟩
 rw [hy];have e1:ah { ah s g x with drawn:=d } g y=ah { s with drawn:=d } g y:=by unfold ah;simp only [List.set_set]
 rw [e1];have y1:y.ops=(aa s g).ops∧y.at_=(aa s g).at_∧y.place=24∧y.status=0∧y.token=false∧y.param=-1∧y.an=[]∧y.k=0∧y.aq=[]∧y.res.code=0∧y.order=gQ∧y.aE=aE (gQ.map (fun i=>(bT o i).ch)):=by grind
 have kL:∀ p:Int,bp 9 p→(p=18∨p=19)→∀ z:Gr,z.ops=y.ops→z.at_=y.at_→z.place=p→(p=19∧z.status=1∨p≠19∧z.status=0)→z.token=false→z.param=-1→z.an=[]→MInv (ah { s with drawn:=d } g z):=by
  intro p ok hp z z1 z2 z3 z4 z5 z6 z7;refine h'.outs eL (Loc.fresh L (z1.trans y1.1) (z2.trans y1.2.1) (by rw [← h1,← h2];exact lt) (by rw [ho,k,z3];exact ok) (by rw [z3];omega) (by rw [z3];exact z4) z5 z6 z7 (by rw [z3];omega) (by rw [z3];omega) h.gI) hx (by unfold dc;omega) z7 (z2.trans y1.2.1)
 split
 ·rename_i hp;have yH:∀ ch,¬ bl y ch:=by
   rintro ch (w | w)
   ·omega
   ·simp_all
  have yO:∀ i,¬ Own y i:=by
   rintro i ⟨_,w | w⟩
   ·omega
   ·have:=w.2.1;omega
  have ck:gQ≠[]:=by grind
  refine h'.self eL (Sf.out (Loc.IG L y1.1 y1.2.1 (by rw [← h1,← h2];exact lt) (by rw [ho];exact k) y1.2.2.1 y1.2.2.2.1 y1.2.2.2.2.1 y1.2.2.2.2.2.1 y1.2.2.2.2.2.2.1 y1.2.2.2.2.2.2.2.1 y1.2.2.2.2.2.2.2.2.1 y1.2.2.2.2.2.2.2.2.2.1 h.gI ?_ ?_ ?_ ?_ ?_ ?_) hx.own yO hx.q hx.holds yH hx.wt (by unfold cB;omega) y1.2.2.2.2.2.2.1) y1.2.1 (fun w=>by unfold bW at w;omega)
  ·intro i hi;rw [y1.2.2.2.2.2.2.2.2.2.2.1] at hi;have:=gm i hi;rw [ho,y1.2.2.2.2.2.2.2.2.2.2.2];refine ⟨this.1,this.2.1,?_⟩;unfold bJ;rw [ho];exact (ls.2 _).2 ⟨List.mem_map.2 ⟨i,hi,rfl⟩,by omega⟩
  ·grind
  ·grind
  ·grind
  ·grind
  ·rw [y1.2.2.2.2.2.2.2.2.2.2.2];obtain ⟨i,hi⟩:=List.exists_mem_of_ne_nil _ ck;have:=gm i hi;exact List.length_pos_iff.2 (List.ne_nil_of_mem ((ls.2 _).2 ⟨List.mem_map.2 ⟨i,hi,rfl⟩,by omega⟩))
 ·split
  ·rw [yI _ _ _ _ _ eL];exact kL 18 (.inl rfl) (.inl rfl) _ rfl rfl rfl (.inr ⟨by decide,y1.2.2.2.1⟩) y1.2.2.2.2.1 y1.2.2.2.2.2.1 y1.2.2.2.2.2.2.1
  ·rw [Cf _ _ _ eL y1.2.2.2.1 y1.2.2.2.2.1];exact kL 19 (by unfold bp;omega) (.inr rfl) _ rfl rfl rfl (.inl ⟨rfl,rfl⟩) y1.2.2.2.2.1 y1.2.2.2.2.2.1 y1.2.2.2.2.2.2.1
end Sx
namespace Sx
variable {s t:ai} {g:Nat} {nc ns n:Int}
theorem MInv.iB (h:MInv s) (hg:g < s.gs.length) (st:(aa s g).status=0) (e:(aa s g).place=0):MInv (iB s g):=by
 have L:=h.loc hg;have hx:dc (aa s g).place:=.inl e;obtain ⟨pm,tk⟩:=hx.pm L;have wk:=h.qM hg (by omega);unfold Sx.iB;simp only
 by_cases ha:((aa s g).ops.length:Int)≤(aa s g).at_
 ·rw [if_pos ha];refine h.outs hg (y:={ aa s g with status:=2,token:=false }) ?_ hx hx wk rfl;have fy:=L.fy;have a1:=L.a1
  constructor
  ·exact L.kS
  ·exact fy
  ·exact L.a0
  ·exact a1
  ·exact .inl e
  ·grind
  ·exact .inr (.inr rfl)
  ·simp
  ·simp only;omega
  ·grind
  ·simp
  ·grind
  ·simp only;omega
  ·grind
  ·grind
  ·simp only;omega
  ·simp only;omega
  ·exact L.p0
  ·simp only;omega
  ·simp only;omega
  ·simp only;omega
  ·intro _ c;unfold cU at c;simp only at c;omega
 rw [if_neg ha];have lt:(aa s g).at_ < (aa s g).ops.length:=by omega
 obtain ⟨x,Ci⟩:∃ x,({ kO (aa s g) with call:=s.step }:Gr)=x:=⟨_,rfl⟩
 have e2:ah (clear s g) g { aa (clear s g) g with call:=(clear s g).step }=ah s g x:=by
  unfold clear;rw [gf s g g _ hg,if_pos rfl,kH,← Ci];rfl
 have x1:x.ops=(aa s g).ops∧x.at_=(aa s g).at_∧x.place=0∧x.status=0∧x.token=false∧x.param=-1∧x.an=[]∧x.k=0∧x.aq=[]∧x.res.code=0∧x.order=[]:=by
  subst Ci;exact ⟨rfl,rfl,e,st,tk,rfl,rfl,rfl,rfl,rfl,rfl⟩
 have gx:aa (ah s g x) g=x:=by rw [gf s g g x hg,if_pos rfl]
 have eo:ag (ah s g x) g=aI (aa s g):=by unfold ag;rw [gx,x1.1,x1.2.1];rfl
 have em:∀ c,Sx.aR (ah s g x) c=Sx.aR s c:=fun _=>rfl
 rw [e2,eo];simp only [em];have rf:=yJ (Cg L lt);generalize hk:(aI (aa s g)).kind=kd at *;have fin:∀ (p:Int),bp kd p→(p=1∨p=4∨p=18∨p=20∨p=19)→(p=1∨p=4→Sx.aR s (aI (aa s g)).ch=true)→(p=20→kd=1∨7≤kd)→∀ z:Gr,z.ops=x.ops→z.at_=x.at_→z.place=p→(p=19∧z.status=1∨p≠19∧z.status=0)→z.token=false→z.param=-1→z.an=[]→MInv (ah s g z):=by
  intro p ok hp hm hq z z1 z2 z3 z4 z5 z6 z7;refine h.outs hg (Loc.fresh L (z1.trans x1.1) (z2.trans x1.2.1) lt (by rw [hk,z3];exact ok) (by rw [z3];exact hp) (by rw [z3];exact z4) z5 z6 z7 (by rw [z3];exact fun w=>l5.1 (hm w)) (by rw [z3,hk];exact hq) h.gI) hx (by unfold dc;rw [z3];omega) z7 (z2.trans x1.2.1)
 have gT:∀ p:Int,aT (ah s g x) g p=ah s g { x with place:=p }:=fun p=>kF _ _ _ _ hg
 have pT:∀ r,bG (ah s g x) g r 18=ah s g { x with bS:=s.step,res:=r,place:=18 }:=fun r=>yI _ _ _ _ _ hg
 have nT:never (ah s g x) g=ah s g { x with place:=19,status:=1 }:=Cf _ _ _ hg x1.2.2.2.1 x1.2.2.2.2.1;have vu:∀ p:Int,bp kd p→(p=1∨p=4∨p=20)→(p=1∨p=4→Sx.aR s (aI (aa s g)).ch=true)→(p=20→kd=1∨7≤kd)→MInv (aT (ah s g x) g p):=by grind
 have MK:∀ r,MInv (bG (ah s g x) g r 18):=by
  intro r;rw [pT];exact fin 18 (.inl rfl) (by simp) (by simp) (by simp) _ rfl rfl rfl (.inr ⟨by decide,x1.2.2.2.1⟩) x1.2.2.2.2.1 x1.2.2.2.2.2.1 x1.2.2.2.2.2.2.1
 have goN:bp kd 19→MInv (never (ah s g x) g):=by grind
 by_cases k1:kd=1∨kd=7∨kd=8
 ·rw [if_pos k1];exact vu 20 (.inr (.inl ⟨k1,rfl⟩)) (by simp) (by simp) (by omega)
 rw [if_neg k1]
 by_cases k2:kd=2∨kd=3
 ·rw [if_pos k2]
  by_cases hm:Sx.aR s (aI (aa s g)).ch=true
  ·rw [if_pos hm];exact vu 4 (.inr (.inr (.inl ⟨k2,by simp⟩))) (by simp) (fun _=>hm) (by simp)
  ·rw [if_neg hm];exact goN (.inr (.inr (.inl ⟨k2,by simp⟩)))
 rw [if_neg k2]
 by_cases k3:kd=4∨kd=5
 ·rw [if_pos k3]
  by_cases hm:Sx.aR s (aI (aa s g)).ch=true
  ·rw [if_pos hm];exact vu 1 (by unfold bp;omega) (by simp) (fun _=>hm) (by simp)
  ·grind
 rw [if_neg k3]
 by_cases k4:kd=6
 ·rw [if_pos k4]
  by_cases hm:Sx.aR s (aI (aa s g)).ch=true
  ·rw [if_pos hm];exact vu 4 (by unfold bp;omega) (by simp) (fun _=>hm) (by simp)
  ·grind
 rw [if_neg k4];exact h.iA hg hx x1.1 x1.2.1 (by rw [x1.1,x1.2.1];exact lt) (by rw [hk];omega) x1.2.2.2.1 x1.2.2.2.2.1 x1.2.2.2.2.2.1 x1.2.2.2.2.2.2.1 x1.2.2.2.2.2.2.2.1 x1.2.2.2.2.2.2.2.2.1 x1.2.2.2.2.2.2.2.2.2.1 x1.2.2.2.2.2.2.2.2.2.2
theorem MInv.makes (h:MInv s) (hl:s.aK.length < 8) {m:Int} (m0:0≤m) (m4:m≤4):MInv { s with aK:=s.aK ++ [⟨m,[],false,-1,[],[]⟩] }:=by
 have ec:∀ c:Int,1≤c→c≤s.aK.length→cn { s with aK:=s.aK ++ [⟨m,[],false,-1,[],[]⟩] } c=cn s c:=by
  intro c a b;unfold cn;simp only;rw [List.getD_eq_getElem?_getD,List.getD_eq_getElem?_getD,List.getElem?_append_left (by omega)]
 have en:∀ c:Int,c=s.aK.length + 1→cn { s with aK:=s.aK ++ [⟨m,[],false,-1,[],[]⟩] } c=⟨m,[],false,-1,[],[]⟩:=by
  intro c a;unfold cn;simp only;rw [List.getD_eq_getElem?_getD,List.getElem?_append_right (by omega)];have:(c - 1).toNat - s.aK.length=0:=by omega
  rw [this];rfl
 have I:=h.v;have hh:∀ g,0≤g→g < (s.gs.length:Int)→∀ c,bl (gA s g) c→c≤s.aK.length:=by
  intro g a b c hc;have L:=I.loc g a b;rcases hc with w | w
  ·rw [w.2.2.1];exact (L.uZ (by omega) (by omega) (by omega) w.1 w.2.1).2
  ·have sp:cU (gA s g).place:=by unfold cU;omega
   rcases w.2 with q | q
   ·exact ((L.se w.1 sp).l1 c q.2).2
   ·exact ((L.se w.1 sp).l1 c (List.mem_of_mem_take q.2)).2
 refine ⟨?_,h.n1,h.n8,by simp;omega,h.sn,h.mT,h.c1,h.oq,h.ca,h.f0,h.po,h.ot,h.oX,h.du,h.d5,h.dn⟩;unfold V;have el:(({ s with aK:=s.aK ++ [⟨m,[],false,-1,[],[]⟩] }:ai).aK.length:Int)=s.aK.length + 1:=by simp
 rw [el];generalize hs:({ s with aK:=s.aK ++ [⟨m,[],false,-1,[],[]⟩] }:ai)=s2 at *;have jE:s2.gs=s.gs:=by subst hs;rfl
 have eg:gA s2=gA s:=by funext g;unfold gA aa;rw [jE]
 have lp:su s2=su s:=by funext g;unfold su;subst hs;rfl
 have IJ:s2.aL=s.aL:=by subst hs;rfl
 have Cj:∀ i,fG s2 i=fG s i:=fun i=>by subst hs;rfl
 rw [eg,lp,jE,IJ];have sp:∀ c:Int,1≤c→c≤s.aK.length + 1→c≤s.aK.length∨c=s.aK.length + 1:=fun c _ _=>by omega
 constructor
 ·intro g a b;exact (I.loc g a b).mono (by omega)
 ·intro c a b;rcases sp c a b with w | w
  ·rw [ec c a w];exact I.iD c a w
  ·grind
 ·intro g a b c d e;rcases sp c d e with w | w
  ·rw [ec c d w];exact I.gV g a b c d w
  ·grind
 ·intro c a b;rcases sp c a b with w | w
  ·rw [ec c a w];exact I.cap c a w
  ·grind
 ·intro g a b i hi;have:=I.own g a b i hi;rw [Cj];exact this
 ·intro c a b i;rcases sp c a b with w | w
  ·rw [ec c a w];exact I.q c a w i
  ·rw [en c w];simp
 ·intro c a b;rcases sp c a b with w | w
  ·rw [ec c a w];exact I.nd c a w
  ·rw [en c w];simp
 ·intro k a b w;have:=I.cR k a b w;rw [ec _ this.1 this.2.1];exact ⟨this.1,by omega,this.2.2⟩
 ·intro k a b w;have:=I.cl k a b w;rw [ec _ this.1 this.2.1];exact ⟨this.1,by omega,this.2.2⟩
 ·exact I.mJ
 ·exact I.wk
 ·exact I.lY
 ·exact I.su
 ·intro i hi;rw [Cj] at hi;exact I.lv i hi
theorem MInv.iC (h:MInv s) (hg:g < s.gs.length) (st:(aa s g).status=0) (e:(aa s g).place=20):MInv (iC s g):=by
 have L:=h.loc hg;have hx:dc (aa s g).place:=by unfold dc;omega
 obtain ⟨pm,tk⟩:=hx.pm L;have wk:=h.qM hg (by omega);have lt:=(L.pl.resolve_left (by omega)).1;have rf:=yJ (Cg L lt);have ho:ag s g=aI (aa s g):=rfl;have key:∀ (t:ai) (r:Md.ak),MInv t→t.gs=s.gs→MInv (bG t g r 18):=by
  intro t r ht Ck;have eg:aa t g=aa s g:=by unfold aa;rw [Ck]
  have eL:g < t.gs.length:=by rw [Ck];exact hg
  refine ht.outs eL (y:={ aa t g with bS:=t.step,res:=r,place:=18 }) ?_ (by rw [eg];exact hx) (by unfold dc;simp) (by rw [eg];exact wk) rfl;have Lt:=ht.loc eL;exact Loc.fresh Lt rfl rfl (by rw [eg];exact lt) (.inl rfl) (by simp) (.inr ⟨by simp,by rw [eg];exact st⟩) (by rw [eg];exact tk) (by rw [eg];exact pm) (by rw [eg];exact wk) (by simp) (by simp) ht.gI
 unfold Sx.iC;simp only
 split
 ·exact key s _ h rfl
 split
 ·rename_i c1 c2;exact key _ _ (h.makes (by omega) (by rw [ho];exact rf.2.2.2.2.1) (by rw [ho];exact rf.2.2.2.2.2.1)) rfl
 split
 ·exact key s _ h rfl
 split
 ·exact key s _ h rfl
 ·exact key s _ h rfl
theorem IK {l:List Nat} (f f':Nat→Int) {g:Nat} (hn:l.Nodup) (hg:g∈l) (he:∀ h∈l,h≠g→f' h=f h):(l.map f').sum=(l.map f).sum + (f' g - f g):=by
 induction l with
 | nil=>simp at hg
 | cons a l ih =>
  have nr:=List.nodup_cons.1 hn;simp only [List.map_cons,List.sum_cons];rcases List.mem_cons.1 hg with w | w
  ·subst w;have:l.map f'=l.map f:=List.map_congr_left fun h hh=>he h (List.mem_cons_of_mem _ hh) (fun c=>nr.1 (c ▸ hh))
   rw [this];omega
  ·grind
theorem MInv.answer (h:MInv s) (hg:g < s.gs.length) (st:(aa s g).status=0) (e:(aa s g).place=18):MInv (answer s g):=by
 have L:=h.loc hg;have hx:dc (aa s g).place:=by unfold dc;omega
 obtain ⟨pm,tk⟩:=hx.pm L;have lt:=(L.pl.resolve_left (by omega)).1;have fy:=L.fy;obtain ⟨y,hy⟩:∃ y,kO { aa s g with at_:=(aa s g).at_ + 1,place:=0 }=y:=⟨_,rfl⟩
 have y1:y.ops=(aa s g).ops∧y.at_=(aa s g).at_ + 1∧y.place=0∧y.status=0∧y.token=false∧y.param=-1∧y.an=[]:=by
  subst hy;exact ⟨rfl,rfl,rfl,st,tk,rfl,rfl⟩
 have ea:Sx.answer s g={ ah s g y with done:=s.done ++ [mark s g s.step] }:=by
  unfold Sx.answer clear;simp only;have e1:aa { s with done:=s.done ++ [mark s g s.step] } g=aa s g:=rfl;rw [e1,gf { s with done:=s.done ++ [mark s g s.step] } g g _ hg,if_pos rfl,kH,hy];rfl
 rw [ea];have ly:Loc s.aK.length s.aL.length s.gs.length y:=by
  have a0:=L.a0;have oz:=h.gI
  constructor
  ·rw [y1.1];exact L.kS
  ·rw [y1.1];exact fy
  ·omega
  ·rw [y1.1];omega
  ·exact .inl y1.2.2.1
  ·omega
  ·exact .inl y1.2.2.2.1
  ·omega
  ·omega
  ·omega
  ·grind
  ·grind
  ·omega
  ·grind
  ·grind
  ·omega
  ·omega
  ·omega
  ·omega
  ·omega
  ·omega
  ·intro _ c;unfold cU at c;omega
 have f:Sf s.aK.length s.aL.length s.gs.length (aa s g) y:=.outs ly hx (.inl y1.2.2.1) y1.2.2.2.2.2.2;have v:V (ah s g y):=by
  have eA:=dR s g;have I:=Inv.self h.v (g:=g) (x:=y) (by omega) (by omega) f.lx (by rw [eA];exact f.hh) (by rw [eA];exact f.ow) (by rw [eA];exact f.mt) (by rw [eA];exact f.qx) (fun w=>by unfold bW at w;omega) f.eP (by rw [eA];exact f.wx) (by rw [eA];exact f.wg) (by rw [eA];exact f.cg);unfold V;rw [fB];exact I.oe (fun k k0 _=>mS hg rfl k k0) (fun _ _ _=>rfl) (fun _ _ _=>rfl) (fun _ _ _=>Iff.rfl)
 refine ⟨v,by rw [show ({ ah s g y with done:=s.done ++ [mark s g s.step] }:ai).gs.length=s.gs.length from fB];exact h.n1,by rw [show ({ ah s g y with done:=s.done ++ [mark s g s.step] }:ai).gs.length=s.gs.length from fB];exact h.n8,h.c8,h.sn,h.mT,h.c1,h.oq,by rw [show ({ ah s g y with done:=s.done ++ [mark s g s.step] }:ai).gs.length=s.gs.length from fB];exact h.ca,h.f0,h.po,h.ot,h.oX,h.du,h.d5,?_⟩;have hs:kE { ah s g y with done:=s.done ++ [mark s g s.step] }=kE s + 1:=by
  have hl:(ah s g y).gs.length=s.gs.length:=fB;unfold kE
  show ((List.range (ah s g y).gs.length).map (fun k=>(aa (ah s g y) k).at_)).sum=_;rw [hl,IK (fun k=>(aa s k).at_) (fun k=>(aa (ah s g y) k).at_) (g:=g) List.nodup_range (by simpa using hg) (fun k _ ck=>by rw [gf s g k y hg,if_neg ck])];rw [gf s g g y hg,if_pos rfl,y1.2.1];omega
 rw [hs];have:=h.dn;simp only [List.length_append,List.length_cons,List.length_nil];omega
theorem MInv.gC (h:MInv s) (hg:g < s.gs.length) (st:(aa s g).status=0):MInv (gC s g).1:=by
 unfold Sx.gC;simp only
 by_cases e0:(aa s g).place=0
 ·rw [if_pos e0];exact h.iB hg st e0
 rw [if_neg e0]
 by_cases e1:(aa s g).place=20
 ·rw [if_pos e1];exact h.iC hg st e1
 rw [if_neg e1]
 by_cases e2:(aa s g).place=18
 ·rw [if_pos e2];exact h.answer hg st e2
 rw [if_neg e2];exact h
end Sx
namespace Sx
variable {s t:ai} {g:Nat} {nc ns n:Int} {x y:Gr}
theorem Loc.jB (L:Loc nc ns n x) (hs:SE x) (xp:x.place≠0) (h1:y.ops=x.ops) (h2:y.at_=x.at_) (st:y.status=0) (tk:y.token=false) (pm:y.param=-1) (yp:24≤y.place∧y.place≤34) (w1:y.an≠[]→y.place=34∨y.place=30∧y.res.code≠0) (w3:∀ p∈y.an,0≤p∧p < n) (w4:y.an.Nodup)
  (hd:y.place=26∨y.place=27→0≤y.hold∧y.hold < ns) (oz:0≤ns) (ys:eN nc ns y):Loc nc ns n y:=by
 have ho:aI y=aI x:=by unfold aI;rw [h1,h2]
 have fy:=L.fy;have pl:=L.pl.resolve_left xp;have hk:(aI x).kind=9:=hs
 constructor
 ·rw [h1];exact L.kS
 ·rw [h1];exact fy
 ·rw [h2];exact L.a0
 ·grind
 ·rw [h1,h2,ho];exact .inr ⟨pl.1,by unfold bp;omega⟩
 ·grind
 ·exact .inl st
 ·intro c;omega
 ·intro c;omega
 ·intro c;omega
 ·rw [tk];simp
 ·grind
 ·intro c;omega
 ·exact w3
 ·exact w4
 ·omega
 ·intro _ _ c;omega
 ·rw [pm];omega
 ·intro c;omega
 ·omega
 ·omega
 ·intro _ _;exact ys
theorem kI (h:24≤x.place∧x.place≤29∨31≤x.place∧x.place≤34∨x.place=30∧x.res.code≠0):¬ Wt x:=by
 rintro (w | w)
 ·have:=w.2;omega
 ·have:=w.2;omega
theorem Loc.pe (L:Loc nc ns n x) (h:¬ Wt x):x.param=-1∧x.token=false:=by
 constructor
 ·have:=L.p0
  by_cases c:0≤x.param
  ·exact absurd (L.p2 c).1 h
  ·omega
 ·cases c:x.token
  ·rfl
  ·exact absurd (L.tk c).1 h
theorem tA {l:List Int} {k:Int} (k0:0≤k) (k1:k < l.length):l.take (k + 1).toNat=l.take k.toNat ++ [aB l k]:=by
 have e:(k + 1).toNat=k.toNat + 1:=by omega
 have:k.toNat < l.length:=by omega
 rw [e,List.take_add_one,List.getElem?_eq_getElem this];unfold aB;rw [List.getD_eq_getElem?_getD,List.getElem?_eq_getElem this];rfl
theorem vv {l:List Int} {k:Int} (k0:0≤k) (k1:k < l.length):l.drop k.toNat=aB l k :: l.drop (k + 1).toNat:=by
 have e:(k + 1).toNat=k.toNat + 1:=by omega
 have:k.toNat < l.length:=by omega
 rw [e,List.drop_eq_getElem_cons this];unfold aB;rw [List.getD_eq_getElem?_getD,List.getElem?_eq_getElem this];rfl
theorem nF {l:List Int} {k:Int} (k0:0≤k) (k1:k < l.length):aB l k∈l:=by
 have:k.toNat < l.length:=by omega
 unfold aB;rw [List.getD_eq_getElem?_getD,List.getElem?_eq_getElem this];exact List.getElem_mem this
theorem IL {l:List Int} {k:Int} (h:k=l.length):l.take k.toNat=l:=by simp_all
structure gJ (x y:Gr):Prop where
 ops:y.ops=x.ops
 at_:y.at_=x.at_
 status:y.status=x.status
 token:y.token=x.token
 br:y.br=x.br
 param:y.param=x.param
 bt:y.bt=x.bt
 order:y.order=x.order
 aE:y.aE=x.aE
theorem gJ.aI (h:gJ x y):aI y=aI x:=by unfold Sx.aI;rw [h.ops,h.at_]
theorem gJ.se (h:gJ x y):SE y↔SE x:=by unfold SE;rw [h.aI]
theorem gJ.ch (h:gJ x y) (j:Int):bJ y j=bJ x j:=by unfold bJ;rw [h.aI]
theorem eN.lock (b:eN nc ns x) (h:gJ x y) (e:x.place=24∨x.place=31) (es:y.aq=x.aq) (ec:y.res.code=x.res.code)
  (hp:y.place=x.place∧y.k=x.k + 1∧x.k + 1 < x.aE.length∨y.place=x.place + 1∧y.k=0∧x.k + 1=x.aE.length):eN nc ns y:=by
 have ho:=h.aI;have hc:=h.ch;have o1:=b.o1;have ab:24≤y.place∧y.place≤27→24≤x.place∧x.place≤27:=by omega
 have kk:0≤y.k∧(y.place=24∨y.place=31→y.k < x.aE.length):=by have:=b.k0;omega
 have yK:∀ {P:Prop},y.place=28∨y.place=29∨y.place=30∨y.place=33∨y.place=34∨y.place=13∨y.place=14→P:=fun c=>by omega
 have yL:31≤y.place∧y.place≤33→31≤x.place∧x.place≤33:=by omega
 have k2:25≤y.place∧y.place≤29∨y.place=32∨y.place=34→y.k=0:=by omega
 constructor
 ·rw [h.order,h.aE,ho];simp only [hc];exact o1
 ·rw [h.order];exact b.o2
 ·rw [h.order];exact b.o3
 ·rw [h.aE];exact b.l1
 ·rw [h.aE];exact b.l2
 ·rw [h.aE];exact b.l3
 ·exact kk.1
 ·rw [h.aE];exact kk.2
 ·rw [h.order];intro c;rw [k2 c];have:=b.o3;omega
 ·omega
 ·rw [es];intro c;exact b.s1 (ab c)
 ·rw [es,ho];intro c
  by_cases d:31≤y.place∧y.place≤33
  ·have:=yL d;exact b.s2 (.inr (.inl ⟨this.1,by omega⟩))
  ·exact yK (by omega)
 ·omega
 ·rw [es,h.order];exact b.s4
 ·omega
 ·rw [es,h.order];intro c
  by_cases d:31≤y.place∧y.place≤33
  ·exact b.s6 (.inl (yL d))
  ·exact yK (by omega)
 ·omega
 ·rw [ec];intro c
  by_cases d:24≤y.place∧y.place≤27
  ·have:=ab d;exact b.c1 (.inl ⟨this.1,by omega⟩)
  ·exact yK (by omega)
 ·rw [h.br];intro c;exact b.c2 (yL c)
 ·omega
theorem MInv.ic (h:MInv s) (hg:g < s.gs.length) (k:(ag s g).kind=9) (e:cU (aa s g).place):eN s.aK.length s.aL.length (aa s g):=(h.loc hg).se k e
theorem MInv.Cl (h:MInv s) (hg:g < s.gs.length) (st:(aa s g).status=0) (k:(ag s g).kind=9) (p:Int) (e:(aa s g).place=24∧p=25∨(aa s g).place=31∧p=32):MInv (lock s g p):=by
 have L:=h.loc hg;have b:=h.ic hg k (by unfold cU;omega);have kx:SE (aa s g):=k;unfold lock;simp only;have k1:=b.k1 (by omega);have mY:=b.l1 _ (nF b.k0 k1);have nw:¬ Wt (aa s g):=kI (by omega);obtain ⟨pm,tk⟩:=L.pe nw;have wk:(aa s g).an=[]:=by
  by_cases w:(aa s g).an=[]
  ·exact w
  ·have:=L.w1 w;omega
 unfold tryLock
 by_cases hl:(cn s (aB (aa s g).aE (aa s g).k)).lock=-1
 ·rw [if_pos hl];simp only [if_true];have key:∀ y,gJ (aa s g) y→y.an=(aa s g).an→y.aq=(aa s g).aq→y.res.code=(aa s g).res.code→(y.place=(aa s g).place∧y.k=(aa s g).k + 1∧(aa s g).k + 1 < (aa s g).aE.length∨y.place=(aa s g).place + 1∧y.k=0∧(aa s g).k + 1=(aa s g).aE.length) →
    MInv (ah (aH s (aB (aa s g).aE (aa s g).k) { cn s (aB (aa s g).aE (aa s g).k) with lock:=g }) g y):=by
   intro y hk hw hs hc hp;have ys:=b.lock hk (by omega) hs hc hp;have dz:SE y:=hk.se.2 kx;refine h.chan hg mY.1 mY.2 (L.jB kx (by omega) hk.ops hk.at_ (by rw [hk.status];exact st) (by rw [hk.token];exact tk) (by rw [hk.param];exact pm) (by omega) (by rw [hw,wk];simp) (by rw [hw,wk];simp) (by rw [hw,wk];simp) (by omega) h.gI ys) ⟨.inr (.inl ⟨hl,rfl,fun ch=>?_⟩),h.fA mY.1 mY.2,⟨List.Sublist.refl _,List.Sublist.refl _⟩,.inl ⟨rfl,rfl⟩⟩ ?_ ?_ ?_ ?_ ?_ ?_ (fun w=>absurd w.1 nw) (fun w=>absurd w.1 nw) hk.at_
   ·-- it has one lock more
    have Cm:∀ z:Gr,SE z→(bl z ch↔(25≤z.place∧z.place≤29∨z.place=32)∧ch∈z.aE∨(z.place=24∨z.place=31∨z.place=30∨z.place=33)∧ch∈z.aE.take z.k.toNat):=by
     intro z hz;unfold bl;have:(aI z).kind=9:=hz
     constructor
     ·grind
     ·grind
    rw [Cm y dz,Cm _ kx,hk.aE];have tk:=tA b.k0 k1;rcases hp with hp | hp
    ·grind
    ·have ML:(aa s g).aE=(aa s g).aE.take (aa s g).k.toNat ++ [aB (aa s g).aE (aa s g).k]:=by rw [← tk,IL hp.2.2]
     constructor
     ·grind
     ·grind
   ·intro i;unfold Own;rw [hk.se,hs];have n1:¬ SR y:=fun c=>c.ne dz
    have n2:¬ SR (aa s g):=fun c=>c.ne kx
    simp only [n1,n2,false_and,false_or]
    constructor
    ·grind
    ·grind
   ·intro i d _ m;rcases m with m | m
    ·exact absurd kx m.1.ne
    ·exact .inr ⟨dz,by rw [hs,hk.aI,hk.order,hk.ch];exact m.2⟩
   ·intro i j q ch a0 b0 hi;have eH:0≤i:=by
     have:i∈(cn s ch).recv∨i∈(cn s ch).send:=by
      unfold up at hi
      split at hi
      ·grind
      ·exact hi
     obtain ⟨o,z⟩:=h.qK (g:=g) a0 b0 this;exact z.i0
    rcases q with q | q
    ·omega
    ·obtain ⟨q1,q2,q3,q4,q5⟩:=q;have qP:(aa s g).place=31:=by omega
     have hj:=(b.s4 j q2 q3).2.2 (by omega);refine .inr ⟨dz,q2,by rw [hs];exact q3,by rw [hs];exact q4,?_⟩;rcases hp with hp | hp
     ·omega
     ·refine .inr (.inr (.inr (.inr (.inr ⟨by omega,?_⟩))));rw [hk.order,hp.2.1];simpa using hj
   ·unfold bW;omega
   ·unfold cB;omega
   ·grind
  split
  ·rename_i c;exact key _ ⟨rfl,rfl,rfl,rfl,rfl,rfl,rfl,rfl,rfl⟩ rfl rfl rfl (.inr ⟨by simp only;omega,rfl,c⟩)
  ·rename_i c;exact key _ ⟨rfl,rfl,rfl,rfl,rfl,rfl,rfl,rfl,rfl⟩ rfl rfl rfl (.inl ⟨rfl,rfl,by omega⟩)
 ·grind
end Sx
namespace Sx
variable {s t:ai} {g:Nat} {nc ns n:Int} {x y:Gr}
theorem pn (hz:SE x) (ch:Int):bl x ch↔(25≤x.place∧x.place≤29∨x.place=32)∧ch∈x.aE∨(x.place=24∨x.place=31∨x.place=30∨x.place=33)∧ch∈x.aE.take x.k.toNat:=by
 unfold bl;have:(aI x).kind=9:=hz
 constructor
 ·grind
 ·grind
def ie (x:Gr):Prop:=25≤x.place∧x.place≤29∨x.place=32∨(x.place=30∨x.place=33)∧x.k=x.aE.length
theorem jF (hz:SE x) (h:ie x) (ch:Int):bl x ch↔ch∈x.aE:=by
 rw [pn hz];rcases h with h | h | h
 ·grind
 ·grind
 ·simp_all
theorem MInv.l9 (h:MInv s) (hg:g < s.gs.length) (e:24≤(aa s g).place∧(aa s g).place≤29∨31≤(aa s g).place∧(aa s g).place≤33∨(aa s g).place=14∨(aa s g).place=13∨(aa s g).place=30∧(aa s g).res.code=0):(aa s g).an=[]:=by
 by_cases w:(aa s g).an=[]
 ·exact w
 ·have:=(h.loc hg).w1 w;omega
theorem eN.polls (oz:0≤ns) (b:eN nc ns x) (h:gJ x y) (e:25≤x.place∧x.place≤27)
  (hp:(25≤y.place∧y.place≤27)∧0≤y.k∧y.k < x.order.length∧y.aq=[]∧y.res.code=0∨y.place=30∧y.k=x.aE.length∧y.aq=[]∧y.res.code≠0 ∨
   y.place=28∧y.k=0∧y.aq=List.replicate (aI x).cases.length (-1)∧y.res.code=0):eN nc ns y:=by
 have ho:=h.aI;have hc:=h.ch;have o1:=b.o1;have l3:=b.l3;have o3:=b.o3;have hk:0≤y.k∧(25≤y.place∧y.place≤29∨y.place=32∨y.place=34→y.k < x.order.length)∧(y.place=30∨y.place=33→1≤y.k∧y.k≤x.aE.length):=by omega
 have no:y.place≠24∧y.place≠29∧y.place≠31∧y.place≠32∧y.place≠33∧y.place≠34∧y.place≠13∧y.place≠14:=by omega
 have hs:y.aq=[]∨y.aq=List.replicate (aI x).cases.length (-1):=by grind
 have rep:∀ j:Int,0≤j→j < y.aq.length→aB y.aq j=-1:=by
  intro j a c;rcases hs with w | w
  ·grind
  ·rw [w] at c ⊢;simp only [List.length_replicate] at c;unfold aB;rw [List.getD_eq_getElem?_getD,List.getElem?_replicate];rw [if_pos (by omega)];rfl
 constructor
 ·rw [h.order,h.aE,ho];simp only [hc];exact o1
 ·rw [h.order];exact b.o2
 ·rw [h.order];exact b.o3
 ·rw [h.aE];exact b.l1
 ·rw [h.aE];exact b.l2
 ·rw [h.aE];exact b.l3
 ·exact hk.1
 ·intro c;omega
 ·rw [h.order];exact hk.2.1
 ·rw [h.aE];exact hk.2.2
 ·grind
 ·grind
 ·grind
 ·grind
 ·intro c j hj;rw [h.order] at hj;have:=o1 j (List.mem_of_mem_drop hj);rcases hp with w | w | w
  ·omega
  ·omega
  ·grind
 ·omega
 ·intro c;omega
 ·omega
 ·intro c;omega
 ·intro c j hj;rcases hp with w | w | w
  ·omega
  ·omega
  ·simp_all
theorem qQ {x:Gr} (hs:SE x) (h:24≤x.place∧x.place≤27∨x.aq=[]∨∀ i∈x.aq,i=-1) (i:Int):¬ Own x i:=by
 rintro ⟨w0,w | w⟩
 ·exact w.1.ne hs
 ·grind
theorem mX {x:Gr} (hs:SE x) (h:24≤x.place∧x.place≤28∨x.place=33∨x.place=34∨x.place=30∧x.res.code≠0) (i j:Int):¬ dy x i j:=by
 rintro (w | w)
 ·exact w.1.ne hs
 ·omega
structure Poll (ns:Int) (x y:Gr):Prop where
 kp:gJ x y
 hp:(25≤y.place∧y.place≤27)∧0≤y.k∧y.k < x.order.length∧y.aq=[]∧y.res.code=0∨y.place=30∧y.k=x.aE.length∧y.aq=[]∧y.res.code≠0 ∨
   y.place=28∧y.k=0∧y.aq=List.replicate (aI x).cases.length (-1)∧y.res.code=0
 hd:y.place=26∨y.place=27→0≤y.hold∧y.hold < ns
theorem Poll.loc {x y:Gr} (f:Poll ns x y) (L:Loc nc ns n x) (b:eN nc ns x) (hs:SE x) (st:x.status=0) (e:25≤x.place∧x.place≤27) (wk:y.an=[]) (oz:0≤ns):Loc nc ns n y:=by
 have hp:=f.hp;obtain ⟨pm,tk⟩:=L.pe (kI (x:=x) (by omega));refine L.jB hs (by omega) f.kp.ops f.kp.at_ (by rw [f.kp.status];exact st) (by rw [f.kp.token];exact tk) (by rw [f.kp.param];exact pm) (by omega) (by rw [wk];simp) (by rw [wk];simp) (by rw [wk];simp) f.hd oz (b.polls oz f.kp e hp)
theorem Poll.ie {x y:Gr} (f:Poll ns x y):ie y:=by
 have hp:=f.hp;have:=f.kp.aE;unfold Sx.ie;rw [this];omega
theorem Poll.mZ {x y:Gr} (f:Poll ns x y) (hs:SE x) (i:Int):¬ Own y i:=by
 refine qQ (f.kp.se.2 hs) ?_ i;rcases f.hp with w | w | w
 ·omega
 ·grind
 ·grind
theorem Poll.holds {x y:Gr} (f:Poll ns x y) (hs:SE x) (e:25≤x.place∧x.place≤27) (ch:Int):bl y ch↔bl x ch:=by
 rw [jF (f.kp.se.2 hs) f.ie,jF hs (by unfold Sx.ie;omega),f.kp.aE]
theorem MInv.Co (h:MInv s) (hg:g < s.gs.length) (st:(aa s g).status=0) (k:(ag s g).kind=9) (e:25≤(aa s g).place∧(aa s g).place≤27) {y:Gr} (f:Poll s.aL.length (aa s g) y) (wk:y.an=(aa s g).an) (n2:y.place≠26∧y.place≠27) {c:Int} {c':Cn} (c0:1≤c) (c1:c≤s.aK.length)
  (e1:c'.lock=(cn s c).lock) (e2:0≤c'.cap∧c'.cap≤4∧(c'.buf.length:Int)≤c'.cap) (e3:c'.recv.Sublist (cn s c).recv∧c'.send.Sublist (cn s c).send) (e4:c'.recv=(cn s c).recv∧c'.send=(cn s c).send∨bl (aa s g) c):MInv (ah (aH s c c') g y):=by
 have L:=h.loc hg;have kx:SE (aa s g):=k;have b:=h.ic hg k (by unfold cU;omega);have di:=h.l9 hg (by omega);have nw:¬ Wt (aa s g):=kI (by omega);exact h.chan hg c0 c1 (f.loc L b kx st e (wk.trans di) h.gI) ⟨.inl ⟨e1,f.holds kx e⟩,e2,e3,e4⟩ (fun i=>⟨fun w=>absurd w (f.mZ kx i),fun w=>absurd w (qQ kx (.inl ⟨by omega,by omega⟩) i)⟩) (fun i d w=>absurd w (f.mZ kx i)) (fun i j w=>absurd w (mX kx (by omega) i j)) (by have:=f.hp;unfold bW;omega) (by have:=f.hp;unfold cB;omega) (fun q=>by rw [wk];exact id) (fun w=>absurd w.1 nw) (fun w=>absurd w.1 nw) f.kp.at_
theorem MInv.vw (h:MInv s) (hg:g < s.gs.length) (st:(aa s g).status=0) (k:(ag s g).kind=9) (e:25≤(aa s g).place∧(aa s g).place≤27) {y:Gr} (f:Poll s.aL.length (aa s g) y) (wk:y.an=(aa s g).an) (n2:y.place≠27)
  (wn:bW y→1≤(su s y.hold).ch∧(su s y.hold).ch≤s.aK.length∧bl y (su s y.hold).ch∧(y.hold∈(cn s (su s y.hold).ch).recv∨y.hold∈(cn s (su s y.hold).ch).send)∧0≤(su s y.hold).cs):MInv (ah s g y):=by
 have L:=h.loc hg;have kx:SE (aa s g):=k;have b:=h.ic hg k (by unfold cU;omega);have di:=h.l9 hg (by omega);have nw:¬ Wt (aa s g):=kI (by omega);exact h.self hg ⟨f.loc L b kx st e (wk.trans di) h.gI,f.holds kx e,fun i=>⟨fun w=>absurd w (f.mZ kx i),fun w=>absurd w (qQ kx (.inl ⟨by omega,by omega⟩) i)⟩,fun i d w=>absurd w (f.mZ kx i),fun i j w=>absurd w (mX kx (by omega) i j),by have:=f.hp;unfold cB;omega,fun q=>by rw [wk];exact id,fun w=>absurd w.1 nw,fun w=>absurd w.1 nw⟩ f.kp.at_ wn
theorem eN.hand (b:eN nc ns x) (k:25≤x.place∧x.place≤29∨x.place=32∨x.place=34):aB x.order x.k∈x.order∧0≤aB x.order x.k∧aB x.order x.k < (aI x).cases.length∧bJ x (aB x.order x.k)∈x.aE∧1≤bJ x (aB x.order x.k)∧bJ x (aB x.order x.k)≤nc:=by
 have hm:=nF b.k0 (b.k2 k);have o:=b.o1 _ hm;have l:=b.l1 _ o.2.2;exact ⟨hm,o.1,o.2.1,o.2.2,l.1,l.2⟩
theorem IM {s:ai} {g:Nat} {x:Gr} {r:Md.ak} {i:Int} (hg:g < s.gs.length):dL (ah s g x) g r i=ah s g { x with bS:=s.step,res:={ r with cs:=i },c7:=i,k:=x.aE.length,place:=30 }:=by
 unfold dL;simp only;rw [yI _ _ _ _ _ hg,gf s g g _ hg,if_pos rfl,kH];unfold unlock;rw [gf s g g _ hg,if_pos rfl,kH]
theorem Cp {s:ai} {g:Nat} (hg:g < s.gs.length):ah s g (aa s g)=s:=by
 unfold ah aa;rw [List.getD_eq_getElem?_getD,List.getElem?_eq_getElem hg];simp
theorem Cq {s:ai} {g:Nat} {r:Md.ak} {i:Int} (hg:g < s.gs.length):dL s g r i=ah s g { aa s g with bS:=s.step,res:={ r with cs:=i },c7:=i,k:=(aa s g).aE.length,place:=30 }:=by
 have:=IM (s:=s) (g:=g) (x:=aa s g) (r:=r) (i:=i) hg;rw [Cp hg] at this;exact this
theorem IN {s:ai} {g:Nat} {c:Int} {c':Cn} {r:Md.ak} {i:Int} (hg:g < s.gs.length):dL (aH s c c') g r i=ah (aH s c c') g { aa s g with bS:=s.step,res:={ r with cs:=i },c7:=i,k:=(aa s g).aE.length,place:=30 }:=by
 rw [Cq (by exact hg)];rfl
theorem tC {s:ai} {g:Nat} {x:Gr} {p:Int} (hg:g < s.gs.length):next (ah s g x) g p=ah s g (if x.k + 1=x.order.length then { x with k:=0,place:=p } else { x with k:=x.k + 1 }):=by
 unfold next;simp only;rw [gf s g g _ hg,if_pos rfl]
 split <;> rw [kH]
theorem yM {s:ai} {g:Nat} {p:Int} (hg:g < s.gs.length):next s g p=ah s g (if (aa s g).k + 1=(aa s g).order.length then { aa s g with k:=0,place:=p } else { aa s g with k:=(aa s g).k + 1 }):=by
 have:=tC (s:=s) (g:=g) (x:=aa s g) (p:=p) hg;rw [Cp hg] at this;exact this
theorem vz {s:ai} {g:Nat} {x:Gr} (hg:g < s.gs.length):eT (ah s g x) g=ah s g (if x.place=27 then { x with c7:=aB x.order x.k } else x):=by
 unfold eT;simp only;rw [gf s g g _ hg,if_pos rfl]
 split <;> rw [kH]
theorem MInv.Cr (h:MInv s) (hg:g < s.gs.length) (st:(aa s g).status=0) (k:(ag s g).kind=9) (e:(aa s g).place=25) {i c:Int} (hc:c∈(aa s g).aE) (hq:i∈(cn s c).recv∨i∈(cn s c).send):MInv (eT (taken s g i 26 27) g):=by
 have L:=h.loc hg;have kx:SE (aa s g):=k;have b:=h.ic hg k (by unfold cU;omega);have di:=h.l9 hg (by omega);have nw:¬ Wt (aa s g):=kI (by omega);obtain ⟨c0,c1⟩:=b.l1 c hc;obtain ⟨o,q⟩:=h.qK (g:=g) c0 c1 hq;have nq:=mX kx (x:=aa s g) (by omega);have ck:=q.ne h nq;have k2:=b.k2 (by omega);have s1:=b.s1 (by omega);have cc:=b.c1 (by omega)
 by_cases hn:0≤(su s i).cs
 ·rw [BP hg hn,vz hg,if_neg (by simp)];have f:Poll s.aL.length (aa s g) { aa s g with hold:=i,place:=26 }:=⟨⟨rfl,rfl,rfl,rfl,rfl,rfl,rfl,rfl,rfl⟩,.inl ⟨by simp,b.k0,k2,s1,cc⟩,fun _=>⟨q.i0,q.i1⟩⟩
  refine h.vw hg st k (by omega) f rfl (by simp) (fun _=>?_);simp only;rw [q.ch];exact ⟨c0,c1,(f.holds kx (by omega) c).2 ((jF kx (by unfold ie;omega) c).2 hc),hq,hn⟩
 ·rw [BO hg q.g_ ck q.ch c0 c1 hn];rw [vz (by rw [fB];exact hg),if_pos rfl];have f:Poll s.aL.length (aa s g) { aa s g with hold:=i,t:=s.step,bS:=s.step,wi:=o,place:=27,c7:=aB (aa s g).order (aa s g).k }:=⟨⟨rfl,rfl,rfl,rfl,rfl,rfl,rfl,rfl,rfl⟩,.inl ⟨by simp,b.k0,k2,s1,cc⟩,fun _=>⟨q.i0,q.i1⟩⟩
  refine h.vq hg q (f.loc L b kx st (by omega) di h.gI) ⟨.inl ⟨rfl,f.holds kx (by omega)⟩,h.fA c0 c1,⟨gH,gH⟩,.inr ?_⟩ (fun i=>⟨fun w=>absurd w (f.mZ kx i),fun w=>absurd w (qQ kx (.inl ⟨by omega,by omega⟩) i)⟩) (fun i d w=>absurd w (f.mZ kx i)) nq (by unfold bW;simp) (fun q=>id) nw (.inr rfl) rfl c0 c1 ?_ hq ⟨rfl,rfl,rfl,rfl,rfl,rfl,rfl,rfl,rfl,rfl,rfl⟩ rfl rfl rfl (.inl ⟨by omega,kG,kG,rfl⟩) rfl
  ·exact (jF kx (by unfold ie;omega) c).2 hc
  ·exact (f.holds kx (by omega) c).2 ((jF kx (by unfold ie;omega) c).2 hc)
theorem MInv.IP (h:MInv s) (hg:g < s.gs.length) (st:(aa s g).status=0) (k:(ag s g).kind=9) (e:(aa s g).place=26):MInv (eT (cR s g 25 27) g):=by
 have L:=h.loc hg;have kx:SE (aa s g):=k;have b:=h.ic hg k (by unfold cU;omega);have di:=h.l9 hg (by omega);have nw:¬ Wt (aa s g):=kI (by omega);have hd:=L.hd (by omega);have nq:=mX kx (x:=aa s g) (by omega);have k2:=b.k2 (by omega);have s1:=b.s1 (by omega);have cc:=b.c1 (by omega);obtain ⟨o,q,c0,c1,hh,hq,lu⟩:=h.yA hg (.inr (.inr e));have ck:o≠g:=q.ne h nq
 cases hp:(aa s o).br with
 | true =>
  rw [BQ (by rw [q.g_];exact hp),drop_eq rfl c0 c1,vz (by exact hg),if_neg (by simp)];have f:Poll s.aL.length (aa s g) { aa s g with hold:=-1,place:=25 }:=⟨⟨rfl,rfl,rfl,rfl,rfl,rfl,rfl,rfl,rfl⟩,.inl ⟨by simp,b.k0,k2,s1,cc⟩,by simp⟩
  exact h.Co hg st k (by omega) f rfl (by simp) c0 c1 rfl (h.fA c0 c1) ⟨gH,gH⟩ (.inr hh)
 | false =>
  rw [BR hg q.o1 q.g_ ck hp,vz (by rw [fB];exact hg),if_pos rfl];have f:Poll s.aL.length (aa s g) { aa s g with t:=s.step,bS:=s.step,wi:=o,place:=27,c7:=aB (aa s g).order (aa s g).k }:=⟨⟨rfl,rfl,rfl,rfl,rfl,rfl,rfl,rfl,rfl⟩,.inl ⟨by simp,b.k0,k2,s1,cc⟩,fun _=>hd⟩
  have:=h.vq hg q (c':=cn s (su s (aa s g).hold).ch) (f.loc L b kx st (by omega) di h.gI) ⟨.inl ⟨rfl,f.holds kx (by omega)⟩,h.fA c0 c1,⟨List.Sublist.refl _,List.Sublist.refl _⟩,.inr hh⟩ (fun i=>⟨fun w=>absurd w (f.mZ kx i),fun w=>absurd w (qQ kx (.inl ⟨by omega,by omega⟩) i)⟩) (fun i d w=>absurd w (f.mZ kx i)) nq (by unfold bW;simp) (fun q=>id) nw (.inr rfl) rfl c0 c1 ((f.holds kx (by omega) _).2 hh) hq (y:={ aa s o with br:=true,bS:=s.step,wi:=g,c7:=(su s (aa s g).hold).cs }) ⟨rfl,rfl,rfl,rfl,rfl,rfl,rfl,rfl,rfl,rfl,rfl⟩ rfl rfl rfl (.inr ⟨lu,hp,rfl,hh⟩) rfl;rw [BM c0 c1] at this;exact this
theorem MInv.iw (h:MInv s) (hg:g < s.gs.length) (st:(aa s g).status=0) (k:(ag s g).kind=9) (e:(aa s g).place=25):MInv (iw s g (ag s g)):=by
 have L:=h.loc hg;have kx:SE (aa s g):=k;have b:=h.ic hg k (by unfold cU;omega);have k2:=b.k2 (by omega);have s1:=b.s1 (by omega);have cc:=b.c1 (by omega);have k0:=b.k0;have l3:=b.l3;have hd:=b.hand (by omega);have ho:aI (aa s g)=ag s g:=rfl;have ng:(bT (ag s g) (aB (aa s g).order (aa s g).k)).ch=bJ (aa s g) (aB (aa s g).order (aa s g).k):=rfl;have Ct:∀ (r:Md.ak) (i:Int),r.code≠0→Poll s.aL.length (aa s g) { aa s g with bS:=s.step,res:={ r with cs:=i },c7:=i,k:=(aa s g).aE.length,place:=30 }:=fun r i hr =>
  ⟨⟨rfl,rfl,rfl,rfl,rfl,rfl,rfl,rfl,rfl⟩,.inr (.inl ⟨rfl,rfl,s1,hr⟩),by simp⟩
 have Cu:∀ (r:Md.ak) (i:Int),r.code≠0→MInv (dL s g r i):=fun r i hr=>by
  rw [Cq hg];exact h.vw hg st k (by omega) (Ct r i hr) rfl (by simp) (fun w=>by unfold bW at w;simp at w)
 have Cv:∀ (c:Int) (l:List Int) (r:Md.ak) (i:Int),1≤c→c≤s.aK.length→(l.length:Int)≤(cn s c).cap→r.code≠0→MInv (dL (aH s c { cn s c with buf:=l }) g r i):=fun c l r i c0 c1 hl hr=>by
  rw [IN hg];have yN:=h.fA c0 c1;exact h.Co hg st k (by omega) (Ct r i hr) rfl (by simp) c0 c1 rfl ⟨yN.1,yN.2.1,hl⟩ ⟨List.Sublist.refl _,List.Sublist.refl _⟩ (.inl ⟨rfl,rfl⟩)
 unfold Sx.iw;simp only;generalize hi:aB (aa s g).order (aa s g).k=i at *;rw [← ho];have ru:(bT (aI (aa s g)) i).ch=bJ (aa s g) i:=rfl;have MM:(gB s g i (bT (aI (aa s g)) i)).2=true→MInv (gB s g i (bT (aI (aa s g)) i)).1:=by
  unfold gB;simp only [ru]
  split
  ·grind
  split
  ·rename_i c;intro _;exact h.Cr hg st k e hd.2.2.2.1 (.inl (qO (by omega)))
  split
  ·rename_i c;intro _;exact Cv _ _ _ _ hd.2.2.2.2.1 hd.2.2.2.2.2 (BX c) (by decide)
  ·intro c;cases c
 have MN:(gZ s g i (bT (aI (aa s g)) i)).2=true→MInv (gZ s g i (bT (aI (aa s g)) i)).1:=by
  unfold gZ;simp only [ru]
  split
  ·rename_i c;intro _;exact h.Cr hg st k e hd.2.2.2.1 (.inr (qO (by omega)))
  split
  ·intro _;have yN:=h.fA hd.2.2.2.2.1 hd.2.2.2.2.2;exact Cv _ _ _ _ hd.2.2.2.2.1 hd.2.2.2.2.2 (by have:=BY (l:=(cn s (bJ (aa s g) i)).buf);omega) (by unfold dA;simp)
  split
  ·intro _;exact Cu _ _ (by unfold dA;simp)
  ·intro c;cases c
 have MO:(aa s g).k + 1 < (aa s g).order.length→MInv (next s g 25):=by
  intro c;rw [yM hg,av];exact h.vw hg st k (by omega) ⟨⟨rfl,rfl,rfl,rfl,rfl,rfl,rfl,rfl,rfl⟩,.inl ⟨by simp only;omega,by simp only;omega,c,s1,cc⟩,by simp only;omega⟩ rfl (by simp only;omega) (fun w=>by unfold bW at w;simp only at w;omega)
 have MP:¬ (aa s g).k + 1 < (aa s g).order.length→MInv (next (ah s g { aa s g with aq:=List.replicate (aI (aa s g)).cases.length (-1) }) g 28):=by
  intro c;rw [tC hg,if_pos (by simp only;omega)];exact h.vw hg st k (by omega) ⟨⟨rfl,rfl,rfl,rfl,rfl,rfl,rfl,rfl,rfl⟩,.inr (.inr ⟨rfl,rfl,rfl,cc⟩),by simp⟩ rfl (by simp) (fun w=>by unfold bW at w;simp at w)
 have MQ:MInv (dL s g ⟨2,0,0,false,0⟩ (-1)):=Cu _ _ (by decide)
 by_cases yP:(bT (aI (aa s g)) i).send=true
 ·grind
 ·grind
end Sx
namespace Sx
variable {s t:ai} {g:Nat} {nc ns n:Int} {x y:Gr}
theorem MInv.yQ (h:MInv s) (hg:g < s.gs.length) (st:(aa s g).status=0) (k:(ag s g).kind=9) (e:(aa s g).place=27) {o:Nat} {c i:Int} (hi:(aa s g).hold=i) (q:yB s g i c o) (other:∀ k:Nat,k < s.gs.length→k≠g→cB (aa s k)→(su s (aa s k).hold).g=o→False) (r:Md.ak) (hr:r.code≠0) (d:Su)
  (hd:d.g=(su s i).g∧d.ch=(su s i).ch∧d.cs=(su s i).cs∧d.send=(su s i).send∧d.live=(su s i).live) :
  MInv (ah (bh (ah (aH s c (bQ (cn s c) i)) o { aa s o with param:=i }) i d) g { aa s g with an:=(aa s g).an ++ [(o:Int)],hold:=-1,res:=r,k:=(aa s g).aE.length,place:=30 }):=by
 have L:=h.loc hg;have kx:SE (aa s g):=k;have b:=h.ic hg k (by unfold cU;omega);have di:=h.l9 hg (by omega);have nw:¬ Wt (aa s g):=kI (by omega);have nq:=mX kx (x:=aa s g) (by omega);have s1:=b.s1 (by omega);have f:Poll s.aL.length (aa s g) { aa s g with hold:=-1,res:=r,k:=(aa s g).aE.length,place:=30 }:=⟨⟨rfl,rfl,rfl,rfl,rfl,rfl,rfl,rfl,rfl⟩,.inr (.inl ⟨rfl,rfl,s1,hr⟩),by simp⟩
 have lz:=f.loc L b kx st (by omega) di h.gI;have lx:Loc s.aK.length s.aL.length s.gs.length { aa s g with an:=(aa s g).an ++ [(o:Int)],hold:=-1,res:=r,k:=(aa s g).aE.length,place:=30 } :=
  lz.yD (.inr (.inr (.inr (.inr (.inr ⟨rfl,hr⟩))))) (by rw [di];have:=q.o1;simp;omega) (by rw [di];simp) (by simp)
 have Cw:∀ i,¬ Own { aa s g with an:=(aa s g).an ++ [(o:Int)],hold:=-1,res:=r,k:=(aa s g).aE.length,place:=30 } i:=fun i w=>f.mZ kx i w
 refine h.yz hg q.c0 q.c1 lx ⟨.inl ⟨rfl,fun ch=>f.holds kx (by omega) ch⟩,h.fA q.c0 q.c1,⟨gH,gH⟩,.inr q.hh⟩ (fun i=>⟨fun w=>absurd w (Cw i),fun w=>absurd w (qQ kx (.inl ⟨by omega,by omega⟩) i)⟩) (fun i d w=>absurd w (Cw i)) nq (by unfold bW;simp) (by unfold cB;simp) (fun q hq=>?_) nw q.sc q.so q.o1 q.ne q.wt q.pm q.own (fun w=>q.se w) ⟨kG,kG⟩ other ⟨rfl,rfl,rfl,rfl,rfl,rfl,rfl,rfl,rfl,rfl,rfl⟩ rfl rfl rfl rfl hd;rcases List.mem_append.1 hq with w | w
 ·exact .inl w
 ·grind
theorem vD {s:ai} {g:Nat} {x:Gr} {p:Int} (hg:g < s.gs.length):unlock (ah s g x) g p=ah s g { x with k:=x.aE.length,place:=p }:=by
 unfold unlock;rw [gf s g g _ hg,if_pos rfl,kH]
theorem IQ {s:ai} {g:Nat} {p:Int} (hg:g < s.gs.length):unlock s g p=ah s g { aa s g with k:=(aa s g).aE.length,place:=p }:=rfl
theorem IS {s:ai} {g o:Nat} {i c:Int} {d:Su} {r:Md.ak} {kk p:Int} (hg:g < s.gs.length) (ho:o < s.gs.length) (so:d.g=o) (ck:o≠g) (i0:0≤i) (i1:i < s.aL.length) (hk:kk=(aa s g).aE.length) :
  unlock (ah (serve (bh (aH s c (bQ (cn s c) i)) i d) g i true) g { aa (serve (bh (aH s c (bQ (cn s c) i)) i d) g i true) g with res:=r }) g p =
  ah (bh (ah (aH s c (bQ (cn s c) i)) o { aa s o with param:=i }) i { d with done:=true }) g { aa s g with an:=(aa s g).an ++ [(o:Int)],hold:=-1,res:=r,k:=kk,place:=p }:=by
 have s1:su (bh (aH s c (bQ (cn s c) i)) i d) i=d:=BS i0 i1;have e:=tu (s:=bh (aH s c (bQ (cn s c) i)) i d) (g:=g) (o:=o) (i:=i) (d:=true) hg ho (by rw [s1];exact so) ck;have g1:aa (bh (aH s c (bQ (cn s c) i)) i d) g=aa s g:=rfl;have g2:aa (bh (aH s c (bQ (cn s c) i)) i d) o=aa s o:=rfl;rw [s1,g1,g2] at e;rw [e];have hl:∀ y:Gr,g < (bh (ah (bh (aH s c (bQ (cn s c) i)) i d) o y) i { d with done:=true }).gs.length:=fun y=>by show g < (ah _ _ _).gs.length;rw [fB];exact hg
 have g3:∀ y z,aa (ah (bh (ah (bh (aH s c (bQ (cn s c) i)) i d) o y) i { d with done:=true }) g z) g=z:=fun y z=>by
  rw [fT (hl y),if_pos rfl]
 rw [g3,kH,vD (hl _),hk];unfold ah bh aH;simp only [List.set_set]
theorem Cy {s:ai} {g o:Nat} {i c:Int} {r:Md.ak} {kk p:Int} (hg:g < s.gs.length) (ho:o < s.gs.length) (so:(su s i).g=o) (ck:o≠g) (hk:kk=(aa s g).aE.length) :
  unlock (ah (serve (aH s c (bQ (cn s c) i)) g i true) g { aa (serve (aH s c (bQ (cn s c) i)) g i true) g with res:=r }) g p =
  ah (bh (ah (aH s c (bQ (cn s c) i)) o { aa s o with param:=i }) i { su s i with done:=true }) g { aa s g with an:=(aa s g).an ++ [(o:Int)],hold:=-1,res:=r,k:=kk,place:=p }:=by
 have e:=tu (s:=aH s c (bQ (cn s c) i)) (g:=g) (o:=o) (i:=i) (d:=true) hg ho so ck;have g1:aa (aH s c (bQ (cn s c) i)) g=aa s g:=rfl;have g2:aa (aH s c (bQ (cn s c) i)) o=aa s o:=rfl;have g4:su (aH s c (bQ (cn s c) i)) i=su s i:=rfl;rw [g1,g2,g4] at e;rw [e];have hl:∀ y:Gr,g < (bh (ah (aH s c (bQ (cn s c) i)) o y) i { su s i with done:=true }).gs.length:=fun y=>by show g < (ah _ _ _).gs.length;rw [fB];exact hg
 have g3:∀ y z,aa (ah (bh (ah (aH s c (bQ (cn s c) i)) o y) i { su s i with done:=true }) g z) g=z:=fun y z=>by
  rw [fT (hl y),if_pos rfl]
 rw [g3,kH,vD (hl _),hk]
theorem MInv.iy (h:MInv s) (hg:g < s.gs.length) (st:(aa s g).status=0) (k:(ag s g).kind=9) (e:(aa s g).place=27):MInv (iy s g (ag s g)):=by
 obtain ⟨o,q,qL⟩:=h.yC hg (.inr e);have L:=h.loc hg;have kx:SE (aa s g):=k;have b:=h.ic hg k (by unfold cU;omega);have dF:=b.hand (by omega);have hd:=L.hd (by omega);unfold Sx.iy;simp only;generalize hi:aB (aa s g).order (aa s g).k=j at *;have d0:=dF.2.2.2.2.1;have d1:=dF.2.2.2.2.2;have ng:(bT (ag s g) j).ch=bJ (aa s g) j:=rfl;rw [drop_eq q.sc q.c0 q.c1]
 by_cases yP:(bT (ag s g) j).send=true
 ·simp only [if_pos yP];have e1:su (aH s (su s (aa s g).hold).ch (bQ (cn s (su s (aa s g).hold).ch) (aa s g).hold)) (aa s g).hold=su s (aa s g).hold:=rfl;rw [e1,IS hg q.o1 (by exact q.so) q.ne hd.1 hd.2 rfl];exact h.yQ hg st k e rfl q qL _ (by simp) _ ⟨rfl,rfl,rfl,rfl,rfl⟩
 ·simp only [if_neg yP];rw [ng];obtain ⟨r,hr,hJ⟩:∃ r,({ dA (hand (aH s (su s (aa s g).hold).ch (bQ (cn s (su s (aa s g).hold).ch) (aa s g).hold)) (bJ (aa s g) j) (aa s g).hold).2 true with cs:=j }:Md.ak)=r∧r.code≠0:=⟨_,rfl,by simp [dA]⟩
  rw [hr];clear hr;unfold hand;simp only
  split
  ·rw [Cy hg q.o1 q.so q.ne rfl];exact h.yQ hg st k e rfl q qL _ hJ _ ⟨rfl,rfl,rfl,rfl,rfl⟩
  ·simp only;rw [BU q.c0 q.c1 d0 d1];obtain ⟨bf,hb,yE⟩:∃ b,(fj (cn (aH s (su s (aa s g).hold).ch (bQ (cn s (su s (aa s g).hold).ch) (aa s g).hold)) (bJ (aa s g) j)).buf (cn (aH s (su s (aa s g).hold).ch (bQ (cn s (su s (aa s g).hold).ch) (aa s g).hold)) (bJ (aa s g) j)).cap (su (aH s (su s (aa s g).hold).ch (bQ (cn s (su s (aa s g).hold).ch) (aa s g).hold)) (aa s g).hold).v).1=b∧b.length=(cn s (bJ (aa s g) j)).buf.length:=by
    refine ⟨_,rfl,?_⟩;rw [BV,jW q.c0 q.c1 rfl _ d0];unfold up
    split
    ·rename_i c;rw [c];rfl
    ·rfl
   rw [hb];have o9:=h.fA d0 d1;have h2:MInv (aH s (bJ (aa s g) j) { cn s (bJ (aa s g) j) with buf:=bf }):=h.buf d0 d1 rfl rfl rfl ⟨o9.1,o9.2.1,by simp only;rw [yE];exact o9.2.2⟩;obtain ⟨s2,gS⟩:∃ s2,aH s (bJ (aa s g) j) { cn s (bJ (aa s g) j) with buf:=bf }=s2:=⟨_,rfl⟩
   have eg:∀ j,aa s2 j=aa s j:=fun j=>by rw [← gS];rfl
   have es:∀ j,su s2 j=su s j:=fun j=>by rw [← gS];rfl
   have el:s2.gs.length=s.gs.length:=by rw [← gS];rfl
   have ec:s2.aK.length=s.aK.length:=by rw [← gS];simp [aH]
   have eq:∀ ch,1≤ch→(cn s2 ch).recv=(cn s ch).recv∧(cn s2 ch).send=(cn s ch).send:=by
    intro ch a;rw [← gS,jW d0 d1 rfl ch a];unfold up
    split
    ·grind
    ·exact ⟨rfl,rfl⟩
   rw [gS] at h2 ⊢;have eo:ag s2 g=ag s g:=by unfold ag;rw [eg]
   rw [← es,← eg];rw [Cy (by rw [el];exact hg) (by rw [el];exact q.o1) (by rw [es,eg];exact q.so) q.ne rfl];refine h2.yQ (by rw [el];exact hg) (by rw [eg];exact st) (by rw [eo];exact k) (by rw [eg];exact e) rfl ⟨?_,?_,rfl,?_,?_,q.ne,?_,?_,?_,?_,?_,?_⟩ ?_ _ hJ _ ⟨rfl,rfl,rfl,rfl,rfl⟩
   ·rw [es,eg];exact q.c0
   ·rw [es,eg,ec];exact q.c1
   ·rw [es,eg];exact q.so
   ·rw [el];exact q.o1
   ·rw [es,eg];exact q.hh
   ·rw [eg];exact q.wt
   ·rw [eg];exact q.pm
   ·rw [eg,eg];exact q.own
   ·rw [eg];exact q.se
   ·rw [es,eg,eg,(eq _ q.c0).1,(eq _ q.c0).2];exact q.sr
   ·grind
end Sx
namespace Sx
variable {s t:ai} {g:Nat} {nc ns n:Int} {x y:Gr}
theorem Cz {l:List Int} {i j v:Int} (i0:0≤i) (j0:0≤j) (j1:j < l.length):aB (l.set i.toNat v) j=if j=i then v else aB l j:=by
 unfold aB;simp only [List.getD_eq_getElem?_getD,List.getElem?_set]
 by_cases c:j=i
 ·grind
 ·grind
theorem kJ {l:List Int} {v:Int}:v∈l↔∃ j:Int,0≤j∧j < l.length∧aB l j=v:=by
 constructor
 ·intro h;obtain ⟨k,hk,e⟩:=List.getElem_of_mem h;refine ⟨k,by omega,by omega,?_⟩;unfold aB;rw [List.getD_eq_getElem?_getD,Int.toNat_natCast,List.getElem?_eq_getElem hk,e];rfl
 ·rintro ⟨j,a,b,rfl⟩
  exact nF a b
theorem pq (hs:SE x) (hy:SE y) (px:28≤x.place∧x.place≤34∨x.place=13∨x.place=14) (py:28≤y.place∧y.place≤34∨y.place=13∨y.place=14) (e:y.aq=x.aq) (i:Int):Own y i↔Own x i:=by
 have nx:¬ SR x:=fun w=>w.ne hs
 have ny:¬ SR y:=fun w=>w.ne hy
 unfold Own;simp only [nx,ny,false_and,false_or,e]
 constructor
 ·grind
 ·grind
theorem gJ.mt (h:gJ x y) (hs:SE x) (e:y.aq=x.aq) {i:Int} {d:Su} (m:Match x i d):Match y i d:=by
 rcases m with m | m
 ·grind [Wt,SE,SR]
 ·exact .inr ⟨h.se.2 hs,by rw [e,h.aI,h.order,h.ch];exact m.2⟩
theorem MInv.aL (h:MInv s) (hg:g < s.gs.length) (st:(aa s g).status=0) (k:(ag s g).kind=9) (e:(aa s g).place=28):MInv (aL s g (ag s g)):=by
 have L:=h.loc hg;have kx:SE (aa s g):=k;have b:=h.ic hg k (by unfold cU;omega);have di:=h.l9 hg (by omega);have nw:¬ Wt (aa s g):=kI (by omega);obtain ⟨pm,tk⟩:=L.pe nw;have dF:=b.hand (by omega);have k2:=b.k2 (by omega);have k0:=b.k0;have s2:=b.s2 (by omega);have s4:=b.s4;have s5:=b.s5 e;have cc:=b.c1 (by omega);have l3:=b.l3;have nq:=mX kx (x:=aa s g) (by omega);unfold Sx.aL;simp only;have ng:(bT (ag s g) (aB (aa s g).order (aa s g).k)).ch=bJ (aa s g) (aB (aa s g).order (aa s g).k):=rfl;rw [ng];have jY:=vv k0 k2;have ou:=tA k0 k2;have s8:=b.s8 e;generalize hi:aB (aa s g).order (aa s g).k=i at *
 by_cases ok:(bw s g).2.2=true
 ·rw [if_pos ok];have T:=vl h hg ok;generalize (bw s g).2.1=d at *;generalize (bw s g).1=t at *;have IT:g < (bh t d ⟨true,g,bJ (aa s g) i,i,(bT (ag s g) i).send,(bT (ag s g) i).v,false⟩).gs.length:=by show g < t.gs.length;rw [T.gs];exact hg
  rw [tC IT];obtain ⟨y,hy⟩:∃ y,(if ({ aa s g with aq:=(aa s g).aq.set i.toNat d }:Gr).k + 1=(({ aa s g with aq:=(aa s g).aq.set i.toNat d }:Gr).order.length:Int) then ({ ({ aa s g with aq:=(aa s g).aq.set i.toNat d }:Gr) with k:=0,place:=29 }:Gr) else { ({ aa s g with aq:=(aa s g).aq.set i.toNat d }:Gr) with k:=({ aa s g with aq:=(aa s g).aq.set i.toNat d }:Gr).k + 1 })=y:=⟨_,rfl⟩
  rw [hy];have hk:gJ (aa s g) y:=by rw [← hy];split <;> exact ⟨rfl,rfl,rfl,rfl,rfl,rfl,rfl,rfl,rfl⟩
  have ys:y.aq=(aa s g).aq.set i.toNat d∧y.an=(aa s g).an∧y.res.code=0:=by grind
  have yp:(y.place=29∧y.k=0∧(aa s g).k + 1=(aa s g).order.length)∨(y.place=28∧y.k=(aa s g).k + 1∧(aa s g).k + 1 < (aa s g).order.length):=by grind
  clear hy;have dz:SE y:=hk.se.2 kx;have iL:i < ((aa s g).aq.length:Int):=by omega
  have iF:∀ j:Int,0≤j→j < (aa s g).aq.length→aB y.aq j=if j=i then d else aB (aa s g).aq j:=fun j a c=>by rw [ys.1,Cz dF.2.1 a c]
  have kK:y.aq.length=(aa s g).aq.length:=by grind
  have IU:aB (aa s g).aq i=-1:=s5 i (by rw [jY];simp);have d0:=T.i0;have d1:=T.i1;have nodup:=b.o2;have lC:eN s.aK.length s.aL.length y:=by
   have ho:=hk.aI;have hc:=hk.ch;have o1:=b.o1;have o3:=b.o3;have kk:0≤y.k∧y.k < (aa s g).order.length:=by omega
   have MR:y.place=28∨y.place=29:=by omega
   constructor
   ·rw [hk.order,hk.aE,ho];simp only [hc];exact o1
   ·rw [hk.order];exact b.o2
   ·rw [hk.order];exact o3
   ·rw [hk.aE];exact b.l1
   ·rw [hk.aE];exact b.l2
   ·rw [hk.aE];exact b.l3
   ·exact kk.1
   ·intro c;omega
   ·rw [hk.order];intro _;exact kk.2
   ·intro c;omega
   ·intro c;omega
   ·grind
   ·intro c;omega
   ·intro j a c;rw [kK] at c;rw [iF j a c,hk.order]
    split
    ·grind
    ·exact s4 j a c
   ·intro c j hj;have lX:j∈(aa s g).order.drop ((aa s g).k + 1).toNat:=by
     rw [hk.order] at hj;rcases yp with w | w
     ·omega
     ·grind
    have lE:=o1 j (List.mem_of_mem_drop lX);have iX:j≠i:=by
     intro z;have:=nodup;rw [← List.take_append_drop (aa s g).k.toNat (aa s g).order,jY] at this;have:=(List.nodup_append.1 this).2.1;exact (List.nodup_cons.1 this).1 (z ▸ lX)
    rw [iF j lE.1 (by rw [s2];exact lE.2.1),if_neg iX];exact s5 j (by rw [jY];exact List.mem_cons_of_mem _ lX)
   ·intro c j hj;rw [hk.order] at hj;have lE:=o1 j hj;rw [iF j lE.1 (by rw [s2];exact lE.2.1)]
    split
    ·exact d0
    ·rename_i z;refine s8 j ?_;rw [← List.take_append_drop (aa s g).k.toNat (aa s g).order,jY] at hj;rcases List.mem_append.1 hj with w | w
     ·exact w
     ·rcases List.mem_cons.1 w with w | w
      ·exact absurd w z
      ·have:(aa s g).order.drop ((aa s g).k + 1).toNat=[]:=List.drop_eq_nil_of_le (by omega);rw [this] at w;simp at w
   ·intro c;omega
   ·intro _;exact ys.2.2
   ·intro c;omega
   ·intro c j hj;have c2:y.k=(aa s g).k + 1:=by omega
    rw [hk.order,c2,ou] at hj;have lE:0≤j∧j < (aI (aa s g)).cases.length:=by grind
    rw [iF j lE.1 (by rw [s2];exact lE.2)]
    split
    ·exact d0
    ·grind
  have CB:∀ j,Own (aa s g) j→∃ c:Int,0≤c∧c < (aa s g).aq.length∧aB (aa s g).aq c=j∧c≠i:=by
   rintro j ⟨j0,w | w⟩
   ·omega
   ·obtain ⟨c,c0,c1,c2⟩:=kJ.1 w.2.2;exact ⟨c,c0,c1,c2,fun z=>by rw [z,IU] at c2;omega⟩
  refine h.take hg T (x:=y) (L.jB kx (by omega) hk.ops hk.at_ (by rw [hk.status];exact st) (by rw [hk.token];exact tk) (by rw [hk.param];exact pm) (by omega) (by rw [ys.2.1,di];simp) (by rw [ys.2.1,di];simp) (by rw [ys.2.1,di];simp) (by omega) h.gI lC) ?_ ?_ ?_ ?_ rfl nq (by unfold bW;omega) (by unfold cB;omega) ys.2.1 nw hk.at_
  ·intro ch;rw [jF dz (by unfold ie;omega),jF kx (by unfold ie;omega),hk.aE]
  ·intro j
   constructor
   ·rintro ⟨j0,w | w⟩
    ·omega
    ·obtain ⟨c,c0,c1,c2⟩:=kJ.1 w.2.2;rw [kK] at c1;rw [iF c c0 c1] at c2
     split at c2
     ·exact .inr c2.symm
     ·exact .inl ⟨j0,.inr ⟨kx,by omega,kJ.2 ⟨c,c0,c1,c2⟩⟩⟩
   ·rintro (w | w)
    ·obtain ⟨c,c0,c1,c2,c3⟩:=CB j w;refine ⟨w.1,.inr ⟨dz,by omega,kJ.2 ⟨c,c0,by rw [kK];exact c1,?_⟩⟩⟩;rw [iF c c0 c1,if_neg c3];exact c2
    ·subst w;refine ⟨d0,.inr ⟨dz,by omega,kJ.2 ⟨i,dF.2.1,by rw [kK];exact iL,?_⟩⟩⟩;rw [iF i dF.2.1 iL,if_pos rfl]
  ·intro j w;obtain ⟨c,c0,c1,c2,c3⟩:=CB j w;have hO:=Inv.own h.v (g:Int) (by omega) (by omega) j (by rw [dR];exact w);rw [dR] at hO;rcases hO.2.1 with m | m
   ·exact absurd kx m.1.ne
   ·obtain ⟨_,m1,m2,m3,m4,m5,m6,m7⟩:=m;have ec:=m7 c c0 c1 c2;refine .inr ⟨dz,m1,by rw [kK];exact m2,?_,by rw [hk.ch];exact m4,by rw [hk.aI];exact m5,by rw [hk.order];exact m6,?_⟩
    ·grind
    ·intro q q0 q1 q2;rw [kK] at q1;rw [iF q q0 q1] at q2
     split at q2
     ·exfalso
      have:=hO.2.2.2;rw [← q2] at this;rw [T.nl] at this;cases this
     ·exact m7 q q0 q1 q2
  ·refine .inr ⟨dz,dF.2.1,by rw [kK];exact iL,by rw [iF i dF.2.1 iL,if_pos rfl],by rw [hk.ch],by rw [hk.aI];rfl,by rw [hk.order];exact dF.1,?_⟩;intro q q0 q1 q2;rw [kK] at q1;rw [iF q q0 q1] at q2
   split at q2
   ·rename_i z;exact z
   ·exfalso
    have w:Own (aa s g) d:=⟨d0,.inr ⟨kx,by omega,kJ.2 ⟨q,q0,q1,q2⟩⟩⟩
    have hO:=Inv.own h.v (g:Int) (by omega) (by omega) d (by rw [dR];exact w);have:=hO.2.2.2;rw [T.nl] at this;cases this
 ·rw [if_neg ok];have e1:(bw s g).1=s:=by
   unfold bw at ok ⊢
   split
   ·grind
   ·grind
  rw [e1,vD hg];obtain ⟨y,hy⟩:∃ y,({ ({ aa s g with res:={ (aa s g).res with code:=6 } }:Gr) with k:=(({ aa s g with res:={ (aa s g).res with code:=6 } }:Gr).aE.length:Int),place:=30 }:Gr)=y:=⟨_,rfl⟩
  rw [hy];have hk:gJ (aa s g) y:=by rw [← hy];exact ⟨rfl,rfl,rfl,rfl,rfl,rfl,rfl,rfl,rfl⟩
  have ys:y.aq=(aa s g).aq∧y.an=(aa s g).an∧y.res.code=6∧y.place=30∧y.k=(aa s g).aE.length:=by grind
  clear hy;have dz:SE y:=hk.se.2 kx;have lC:eN s.aK.length s.aL.length y:=by
   have ho:=hk.aI;have hc:=hk.ch;have o1:=b.o1;have pl:=ys.2.2.2.1
   constructor
   ·rw [hk.order,hk.aE,ho];simp only [hc];exact o1
   ·rw [hk.order];exact b.o2
   ·rw [hk.order];exact b.o3
   ·rw [hk.aE];exact b.l1
   ·rw [hk.aE];exact b.l2
   ·rw [hk.aE];exact l3
   ·omega
   ·intro c;omega
   ·intro c;omega
   ·rw [hk.aE];intro c;omega
   ·intro c;omega
   ·intro c;omega
   ·grind
   ·rw [ys.1,hk.order];exact s4
   ·intro c;omega
   ·intro c;omega
   ·intro c;omega
   ·intro c;omega
   ·intro c;omega
   ·intro c;omega
  refine h.self hg ⟨L.jB kx (by omega) hk.ops hk.at_ (by rw [hk.status];exact st) (by rw [hk.token];exact tk) (by rw [hk.param];exact pm) (by omega) (by rw [ys.2.1,di];simp) (by rw [ys.2.1,di];simp) (by rw [ys.2.1,di];simp) (by omega) h.gI lC,?_,pq kx dz (by omega) (by omega) ys.1,fun i d _ m=>hk.mt kx ys.1 m,fun i j w=>absurd w (nq i j),by unfold cB;omega,fun q=>by rw [ys.2.1];exact id,fun w=>absurd w.1 nw,fun w=>absurd w.1 nw⟩ hk.at_ (fun w=>by unfold bW at w;omega);intro ch;rw [jF dz (by unfold ie;rw [hk.aE];omega),jF kx (by unfold ie;omega),hk.aE]
end Sx
namespace Sx
variable {s t:ai} {g:Nat} {nc ns n:Int} {x y:Gr}
theorem MInv.tD (h:MInv s) (hg:g < s.gs.length) (k:(ag s g).kind=9) (px:28≤(aa s g).place∧(aa s g).place≤34∨(aa s g).place=13∨(aa s g).place=14) {i:Int} (i0:0≤i) (i1:i < (aa s g).aq.length) (v0:0≤aB (aa s g).aq i) :
  Own (aa s g) (aB (aa s g).aq i)∧aB (aa s g).aq i < s.aL.length∧(su s (aB (aa s g).aq i)).g=g∧(su s (aB (aa s g).aq i)).cs=i∧(su s (aB (aa s g).aq i)).ch=bJ (aa s g) i∧(su s (aB (aa s g).aq i)).send=(bT (ag s g) i).send∧Match (aa s g) (aB (aa s g).aq i) (su s (aB (aa s g).aq i)):=by
 have kx:SE (aa s g):=k;have w:Own (aa s g) (aB (aa s g).aq i):=⟨v0,.inr ⟨kx,px,kJ.2 ⟨i,i0,i1,rfl⟩⟩⟩
 have hO:=Inv.own h.v (g:Int) (by omega) (by omega) _ (by rw [dR];exact w);rw [dR] at hO;rcases hO.2.1 with m | m
 ·exact absurd kx m.1.ne
 ·have m':=m;obtain ⟨_,m1,m2,m3,m4,m5,m6,m7⟩:=m;have e:=m7 i i0 i1 rfl;rw [← e] at m4 m5;exact ⟨w,hO.1,hO.2.2.1,e.symm,m4,m5,.inr m'⟩
theorem MInv.ja (h:MInv s) (hg:g < s.gs.length) (st:(aa s g).status=0) (k:(ag s g).kind=9) (e:(aa s g).place=29):MInv (ja s g (ag s g)):=by
 have L:=h.loc hg;have kx:SE (aa s g):=k;have b:=h.ic hg k (by unfold cU;omega);have di:=h.l9 hg (by omega);have nw:¬ Wt (aa s g):=kI (by omega);obtain ⟨pm,tk⟩:=L.pe nw;have dF:=b.hand (by omega);have k2:=b.k2 (by omega);have k0:=b.k0;have s2:=b.s2 (by omega);have s4:=b.s4;have s6:=b.s6 (by omega);have cc:=b.c1 (by omega);have l3:=b.l3;have eA:=dR s g;have ou:=tA k0 k2;unfold Sx.ja;simp only;have ng:(bT (ag s g) (aB (aa s g).order (aa s g).k)).ch=bJ (aa s g) (aB (aa s g).order (aa s g).k):=rfl;rw [ng];generalize hi:aB (aa s g).order (aa s g).k=i at *;have iL:i < ((aa s g).aq.length:Int):=by omega
 have v0:=s6 i dF.1;obtain ⟨w,w1,w2,w3,w4,w5,w6⟩:=h.tD hg k (by omega) dF.2.1 iL v0;generalize hv:aB (aa s g).aq i=v at *;have fin:∀ (c':Cn) (y:Gr),gJ (aa s g) y→y.aq=(aa s g).aq→y.an=(aa s g).an→y.res.code=(aa s g).res.code→(y.place=29∧y.k=(aa s g).k + 1∧(aa s g).k + 1 < (aa s g).order.length∨y.place=30∧y.k=(aa s g).aE.length∧(aa s g).k + 1=(aa s g).order.length) →
   c'.lock=(cn s (bJ (aa s g) i)).lock→c'.cap=(cn s (bJ (aa s g) i)).cap→c'.buf=(cn s (bJ (aa s g) i)).buf→(c'.recv=if (su s v).send=true then (cn s (bJ (aa s g) i)).recv else (cn s (bJ (aa s g) i)).recv ++ [v])→(c'.send=if (su s v).send=true then (cn s (bJ (aa s g) i)).send ++ [v] else (cn s (bJ (aa s g) i)).send) →
   MInv (ah (aH s (bJ (aa s g) i) c') g y):=by
  intro c' y hk iT m8 IV hp e1 e2 e3 er es;have dz:SE y:=hk.se.2 kx;have lC:eN s.aK.length s.aL.length y:=by
   have ho:=hk.aI;have hc:=hk.ch;have o1:=b.o1
   constructor
   ·rw [hk.order,hk.aE,ho];simp only [hc];exact o1
   ·rw [hk.order];exact b.o2
   ·rw [hk.order];exact b.o3
   ·rw [hk.aE];exact b.l1
   ·rw [hk.aE];exact b.l2
   ·rw [hk.aE];exact l3
   ·omega
   ·intro c;omega
   ·rw [hk.order];intro c;omega
   ·rw [hk.aE];intro c;omega
   ·intro c;omega
   ·grind
   ·grind
   ·rw [iT,hk.order];exact s4
   ·intro c;omega
   ·rw [iT,hk.order];intro _;exact s6
   ·intro c;omega
   ·omega
   ·intro c;omega
   ·intro c;omega
  have hold:∀ ch,bl y ch↔bl (aa s g) ch:=by
   intro ch;rw [jF dz (by unfold ie;rw [hk.aE];omega),jF kx (by unfold ie;omega),hk.aE]
  have r:Rest s (ah (aH s (bJ (aa s g) i) c') g y):=(Rest.dI s _ c').trans (Rest.ff _ hg hk.at_);refine h.rest r (V.of r (Inv.push h.v (g:=g) (i:=v) (x:=y) (c:=bJ (aa s g) i) (c':=c') (by omega) (by omega) (by rw [eA];exact w) dF.2.2.2.2.1 dF.2.2.2.2.2 w4 (L.jB kx (by omega) hk.ops hk.at_ (by rw [hk.status];exact st) (by rw [hk.token];exact tk) (by rw [hk.param];exact pm) (by omega) (by rw [m8,di];simp) (by rw [m8,di];simp) (by rw [m8,di];simp) (by omega) h.gI lC) ?_ ?_ ?_ ?_ ?_ ?_ ?_ ?_ ?_ ?_ e1 e2 e3 er es) (fun j j0=>mS hg rfl j j0) (fun ch q=>jW dF.2.2.2.2.1 dF.2.2.2.2.2 rfl ch q) (fun _ _=>rfl))
  ·grind
  ·intro j;rw [eA];exact pq kx dz (by omega) (by omega) iT j
  ·intro j q;have q2:=(pq kx dz (by omega) (by omega) iT j).1 q;have hO:=Inv.own h.v (g:Int) (by omega) (by omega) j (by rw [eA];exact q2);rw [eA] at hO;exact hk.mt kx iT hO.2.1
  ·rw [eA,w3]
   rintro (q | q)
   ·exact q.1.ne kx
   ·have q5:=q.2.2.2.2;have:i∈(aa s g).order.take (aa s g).k.toNat:=by grind
    have nd:=b.o2;rw [← List.take_append_drop (aa s g).k.toNat (aa s g).order,vv k0 k2,hi] at nd;exact (List.nodup_append.1 nd).2.2 i this i (by simp) rfl
  ·rw [eA];intro j l q;rcases q with q | q
   ·omega
   ·obtain ⟨q1,q2,q3,q4,q5⟩:=q;refine .inr ⟨dz,q2,by rw [iT];exact q3,by rw [iT];exact q4,?_⟩;have q6:l∈(aa s g).order.take (aa s g).k.toNat:=by grind
    rcases hp with hp | hp
    ·refine .inl ⟨hp.1,?_⟩;rw [hk.order,hp.2.1,ou];exact List.mem_append_left _ q6
    ·omega
  ·rw [w3];refine .inr ⟨dz,dF.2.1,by rw [iT];exact iL,by rw [iT];exact hv,?_⟩;rcases hp with hp | hp
   ·refine .inl ⟨hp.1,?_⟩;rw [hk.order,hp.2.1,ou];simp
   ·omega
  ·unfold bW;omega
  ·unfold cB;omega
  ·rw [eA];exact m8
  ·rw [eA];exact nw
 obtain ⟨c',CE⟩:∃ c',(if (bT (ag s g) i).send=true then { cn s (bJ (aa s g) i) with send:=(cn s (bJ (aa s g) i)).send ++ [v] } else { cn s (bJ (aa s g) i) with recv:=(cn s (bJ (aa s g) i)).recv ++ [v] })=c':=⟨_,rfl⟩
 rw [CE];have c1:c'.lock=(cn s (bJ (aa s g) i)).lock:=by grind
 have c2:c'.cap=(cn s (bJ (aa s g) i)).cap:=by grind
 have c3:c'.buf=(cn s (bJ (aa s g) i)).buf:=by grind
 have c4:c'.recv=if (su s v).send=true then (cn s (bJ (aa s g) i)).recv else (cn s (bJ (aa s g) i)).recv ++ [v]:=by grind
 have c5:c'.send=if (su s v).send=true then (cn s (bJ (aa s g) i)).send ++ [v] else (cn s (bJ (aa s g) i)).send:=by grind
 clear CE;have dM:g < (aH s (bJ (aa s g) i) c').gs.length:=hg
 by_cases c:(aa s g).k + 1 < (aa s g).order.length
 ·rw [if_pos c,yM dM];have g0:aa (aH s (bJ (aa s g) i) c') g=aa s g:=rfl;rw [g0,av];exact fin c' _ ⟨rfl,rfl,rfl,rfl,rfl,rfl,rfl,rfl,rfl⟩ rfl rfl rfl (.inl ⟨e,rfl,c⟩) c1 c2 c3 c4 c5
 ·rw [if_neg c,vD dM];exact fin c' _ ⟨rfl,rfl,rfl,rfl,rfl,rfl,rfl,rfl,rfl⟩ rfl rfl rfl (.inr ⟨rfl,rfl,by omega⟩) c1 c2 c3 c4 c5
end Sx
namespace Sx
variable {s t:ai} {g:Nat} {nc ns n:Int} {x y:Gr}
theorem MInv.IW (h:MInv s) (hg:g < s.gs.length) (st:(aa s g).status=0) (k:(ag s g).kind=9) (e:(aa s g).place=14):MInv (jP s g):=by
 have L:=h.loc hg;have kx:SE (aa s g):=k;have b:=h.ic hg k (by unfold cU;omega);have di:=h.l9 hg (by omega);have pm:=L.p1 e st;have pk:=L.p3 pm kx;have s2:=b.s2 (by omega);have s4:=b.s4;have s6:=b.s6 (by omega);have l3:=b.l3;have tk:(aa s g).token=false:=by
  cases c:(aa s g).token
  ·rfl
  ·exact absurd e (L.tk c).2.2
 unfold jP;simp only;obtain ⟨r,hr⟩:∃ r,(if (su s (aa s g).param).send=true∧(su s (aa s g).param).done=true then ({ (if (su s (aa s g).param).done=true then ({ dA (su s (aa s g).param).v true with cs:=(su s (aa s g).param).cs }:Md.ak) else { dA 0 false with cs:=(su s (aa s g).param).cs }) with v:=0 }:Md.ak) else if (su s (aa s g).param).send=true then ⟨3,(su s (aa s g).param).cs,0,false,0⟩ else (if (su s (aa s g).param).done=true then ({ dA (su s (aa s g).param).v true with cs:=(su s (aa s g).param).cs }:Md.ak) else { dA 0 false with cs:=(su s (aa s g).param).cs }))=r:=⟨_,rfl⟩
 rw [hr];clear hr;obtain ⟨y,hy⟩:∃ y,({ aa s g with res:=r,param:=-1,k:=0,place:=31 }:Gr)=y:=⟨_,rfl⟩
 rw [hy];have y1:y.ops=(aa s g).ops∧y.at_=(aa s g).at_∧y.status=(aa s g).status∧y.token=(aa s g).token∧y.br=(aa s g).br∧y.param=-1∧y.order=(aa s g).order∧y.aE=(aa s g).aE∧y.aq=(aa s g).aq∧y.an=(aa s g).an∧y.k=0∧y.place=31:=by grind
 clear hy;obtain ⟨z1,z2,z3,z4,z5,z6,z7,z8,z9,vE,MS,IX⟩:=y1;have ho:aI y=aI (aa s g):=by unfold aI;rw [z1,z2]
 have hc:∀ j,bJ y j=bJ (aa s g) j:=fun j=>by unfold bJ;rw [ho]
 have dz:SE y:=by unfold SE;rw [ho];exact kx
 have o1:=b.o1;have lC:eN s.aK.length s.aL.length y:=by
  constructor
  ·grind
  ·rw [z7];exact b.o2
  ·rw [z7];exact b.o3
  ·rw [z8];exact b.l1
  ·rw [z8];exact b.l2
  ·rw [z8];exact l3
  ·omega
  ·grind
  ·intro c;omega
  ·intro c;omega
  ·intro c;omega
  ·grind
  ·intro c;omega
  ·rw [z9,z7];exact s4
  ·intro c;omega
  ·grind
  ·intro c;omega
  ·intro c;omega
  ·grind
  ·intro c;omega
 have vF:∀ ch,¬ bl (aa s g) ch:=by
  intro ch w;rw [pn kx] at w;omega
 have vH:∀ ch,¬ bl y ch:=by
  intro ch w;rw [pn dz] at w;rcases w with w | w
  ·omega
  ·simp_all
 refine h.self hg ⟨L.jB kx (by omega) z1 z2 (by rw [z3];exact st) (by rw [z4];exact tk) z6 (by omega) (by rw [vE,di];simp) (by rw [vE,di];simp) (by rw [vE,di];simp) (by omega) h.gI lC,fun ch=>⟨fun w=>absurd w (vH ch),fun w=>absurd w (vF ch)⟩,pq kx dz (by omega) (by omega) z9,?_,?_,by unfold cB;omega,fun q=>by rw [vE];exact id,fun w=>absurd st (w.2.2.2 e),fun w=>by have:=w.2.1;omega⟩ z2 (fun w=>by unfold bW at w;omega)
 ·intro i d _ m;rcases m with m | m
  ·exact absurd kx m.1.ne
  ·exact .inr ⟨dz,by rw [z9,ho,z7,hc];exact m.2⟩
 ·intro i j q;rcases q with q | q
  ·omega
  ·exact .inr ⟨dz,q.2.1,by rw [z9];exact q.2.2.1,by rw [z9];exact q.2.2.2.1,.inr (.inr (.inr (.inl IX)))⟩
theorem vI {s:ai} {g:Nat} (hg:g < s.gs.length):(cI s g).1=ah (aH s (aB (aa s g).aE ((aa s g).k - 1)) { cn s (aB (aa s g).aE ((aa s g).k - 1)) with lock:=-1 }) g { aa s g with k:=(aa s g).k - 1 }:=rfl
structure yR (nc ns n:Int) (x y:Gr):Prop where
 kp:gJ x y
 aq:y.aq=x.aq
 an:y.an=x.an
 code:y.res.code=x.res.code
 k:y.k=x.k - 1
 hp:(x.place=30∨x.place=33)∧y.place=x.place∧1≤y.k∨x.place=30∧x.res.code=0∧y.place=13∧y.k=0∨(x.place=33∨x.place=30∧x.res.code≠0∧x.aq≠[])∧y.place=34∧y.k=0 ∨
  x.place=30∧x.res.code≠0∧(∀ i∈x.aq,i < 0)∧y.k=0∧(y.place=17∧x.an≠[]∨y.place=18∧x.an=[])
theorem yR.jB (f:yR nc ns n x y) (b:eN nc ns x) (e:cU y.place):eN nc ns y:=by
 have h:=f.kp;have hp:=f.hp;have fk:=f.k;have ho:=h.aI;have hc:=h.ch;have o1:=b.o1;have l3:=b.l3;have o3:=b.o3;have k0:=b.k0;have k3:1≤x.k∧x.k≤x.aE.length:=b.k3 (by omega);have mz:y.place=x.place∧1≤y.k∧(x.place=30∨x.place=33)∨y.place=13∧x.place=30∧x.res.code=0∨y.place=34∧y.k=0:=by unfold cU at e;omega
 constructor
 ·rw [h.order,h.aE,ho];simp only [hc];exact o1
 ·rw [h.order];exact b.o2
 ·rw [h.order];exact o3
 ·rw [h.aE];exact b.l1
 ·rw [h.aE];exact b.l2
 ·rw [h.aE];exact l3
 ·omega
 ·intro c;omega
 ·rw [h.order];intro c;omega
 ·rw [h.aE];intro c;omega
 ·intro c;omega
 ·rw [f.aq,ho];intro c;rcases hp with w | w | w | w
  ·exact b.s2 (by omega)
  ·rcases b.s3 w.1 with z | z
   ·exact z
   ·omega
  ·rcases w.1 with q | q
   ·exact b.s2 (by omega)
   ·rcases b.s3 q.1 with z | z
    ·exact z
    ·grind
  ·omega
 ·rw [f.aq,ho,f.code];intro c;exact b.s3 (by omega)
 ·rw [f.aq,h.order];exact b.s4
 ·intro c;omega
 ·rw [f.aq,h.order,f.code];intro c;exact b.s6 (by omega)
 ·intro c j hj;rw [show y.k=0 by omega] at hj;simp at hj
 ·rw [f.code];intro c;rcases hp with w | w | w | w
  ·omega
  ·exact w.2.1
  ·omega
  ·omega
 ·rw [h.br];intro c;exact b.c2 (by omega)
 ·intro c;omega
end Sx
namespace Sx
variable {s t:ai} {g:Nat} {nc ns n:Int} {x y:Gr}
theorem Loc.fin (L:Loc nc ns n x) (hs:SE x) (xp:x.place≠0) (h1:y.ops=x.ops) (h2:y.at_=x.at_) (st:y.status=0) (tk:y.token=false) (pm:y.param=-1) (hp:y.place=17∧y.an≠[]∨y.place=18∧y.an=[]) (w3:∀ p∈y.an,0≤p∧p < n) (w4:y.an.Nodup) (oz:0≤ns):Loc nc ns n y:=by
 have ho:aI y=aI x:=by unfold aI;rw [h1,h2]
 have fy:=L.fy;have pl:=L.pl.resolve_left xp;have hk:(aI x).kind=9:=hs;have yp:y.place=17∨y.place=18:=by omega
 constructor
 ·rw [h1];exact L.kS
 ·rw [h1];exact fy
 ·rw [h2];exact L.a0
 ·grind
 ·rw [h1,h2,ho];exact .inr ⟨pl.1,by unfold bp;omega⟩
 ·grind
 ·exact .inl st
 ·intro c;omega
 ·intro c;omega
 ·intro c;omega
 ·rw [tk];simp
 ·grind
 ·grind
 ·exact w3
 ·exact w4
 ·intro c;omega
 ·intro _ c d;omega
 ·rw [pm];omega
 ·intro c;omega
 ·omega
 ·omega
 ·intro _ c;unfold cU at c;omega
theorem Loc.waits (L:Loc nc ns n x) (hs:SE x) (e:x.place=30) (ec:x.res.code=0) (h:gJ x y) (eg:y.aq=x.aq) (ew:y.an=x.an) (MT:y.res.code=x.res.code) (yp:y.place=30∨y.place=13) (st:x.status=0) (ys:eN nc ns y):Loc nc ns n y:=by
 have ho:=h.aI;have fy:=L.fy;have pl:=L.pl.resolve_left (by omega);have hk:(aI x).kind=9:=hs;have hy:SE y:=h.se.2 hs;have wy:Wt y:=.inr ⟨hy,by omega⟩;have di:x.an=[]:=by
  by_cases w:x.an=[]
  ·exact w
  ·have:=L.w1 w;omega
 constructor
 ·rw [h.ops];exact L.kS
 ·rw [h.ops];exact fy
 ·rw [h.at_];exact L.a0
 ·rw [h.ops,h.at_];exact L.a1
 ·rw [h.ops,h.at_,ho];exact .inr ⟨pl.1,by unfold bp;omega⟩
 ·grind
 ·rw [h.status];exact .inl st
 ·rw [h.status];intro c;omega
 ·intro c;omega
 ·rw [h.status];intro c;omega
 ·rw [h.token,h.param];intro c;exact ⟨wy,(L.tk c).2.1,by omega⟩
 ·rw [ew,di];simp
 ·intro c;omega
 ·rw [ew,di];simp
 ·rw [ew,di];simp
 ·intro c;omega
 ·intro c;exact absurd hy c.ne
 ·rw [h.param];exact L.p0
 ·intro c;omega
 ·rw [h.param];intro c;exact ⟨wy,(pq hs hy (by omega) (by omega) eg _).2 (L.p2 c).2⟩
 ·rw [h.param,h.br];intro c _;exact L.p3 c hs
 ·intro _ _;exact ys
theorem MInv.pz (h:MInv s) (hg:g < s.gs.length) (st:(aa s g).status=0) (k:(ag s g).kind=9) (e:(aa s g).place=30∨(aa s g).place=33) {y:Gr} (f:yR s.aK.length s.aL.length s.gs.length (aa s g) y):MInv (ah (aH s (aB (aa s g).aE ((aa s g).k - 1)) { cn s (aB (aa s g).aE ((aa s g).k - 1)) with lock:=-1 }) g y):=by
 have L:=h.loc hg;have kx:SE (aa s g):=k;have dz:SE y:=f.kp.se.2 kx;have b:=h.ic hg k (by unfold cU;omega);have k3:=b.k3 e;have hm:=nF (l:=(aa s g).aE) (k:=(aa s g).k - 1) (by omega) (by omega);have mY:=b.l1 _ hm;have hp:=f.hp;have fk:=f.k;have hk:=f.kp;have ey:cU y.place∨y.place=17∨y.place=18:=by unfold cU;omega
 have yS:=tA (l:=(aa s g).aE) (k:=(aa s g).k - 1) (by omega) (by omega);have IY:(aa s g).k - 1 + 1=(aa s g).k:=by omega
 rw [IY] at yS;have Cc:aB (aa s g).aE ((aa s g).k - 1)∉(aa s g).aE.take ((aa s g).k - 1).toNat:=by
  intro w;have l2:=b.l2;rw [← List.take_append_drop (aa s g).k.toNat (aa s g).aE,yS] at l2;have:=(List.pairwise_append.1 (List.pairwise_append.1 l2).1).2.2 _ w _ (List.mem_singleton.2 rfl);omega
 have IZ:∀ ch,bl (aa s g) ch↔ch∈(aa s g).aE.take (aa s g).k.toNat:=by
  intro ch;rw [pn kx]
  constructor
  ·grind
  ·grind
 have MU:∀ ch,bl y ch↔ch∈(aa s g).aE.take ((aa s g).k - 1).toNat:=by
  intro ch;rw [pn dz,hk.aE,fk]
  constructor
  ·grind
  ·intro w;refine .inr ⟨?_,w⟩
   by_cases z:(aa s g).k - 1=0
   ·simp_all
   ·omega
 have MV:(aa s g).place=33→(aa s g).an=[]:=fun c=>h.l9 hg (by omega)
 have jC:(aa s g).place=33∨(aa s g).res.code≠0→¬ Wt (aa s g):=fun c=>kI (by omega)
 have lx:Loc s.aK.length s.aL.length s.gs.length y:=by
  by_cases cw:(aa s g).place=30∧(aa s g).res.code=0
  ·exact L.waits kx cw.1 cw.2 hk f.aq f.an f.code (by omega) st (f.jB b (by unfold cU;omega))
  ·have nw:=jC (by omega);obtain ⟨pm,tk⟩:=L.pe nw;rcases ey with c | c
   ·have I0:=f.jB b c;refine L.jB kx (by omega) hk.ops hk.at_ (by rw [hk.status];exact st) (by rw [hk.token];exact tk) (by rw [hk.param];exact pm) (by unfold cU at c;omega) ?_ (by rw [f.an];exact L.w3) (by rw [f.an];exact L.w4) (by omega) h.gI I0;rw [f.an,f.code];intro w;have:=L.w1 w;have z:y.place=(aa s g).place∨y.place=13∧(aa s g).place=30∧(aa s g).res.code=0∨y.place=34:=by
     rcases hp with q | q | q | q
     ·exact .inl q.2.1
     ·omega
     ·omega
     ·exfalso;unfold cU at c;omega
    omega
   ·refine L.fin kx (by omega) hk.ops hk.at_ (by rw [hk.status];exact st) (by rw [hk.token];exact tk) (by rw [hk.param];exact pm) ?_ (by rw [f.an];exact L.w3) (by rw [f.an];exact L.w4) h.gI;rw [f.an];rcases hp with w | w | w | w
    ·omega
    ·omega
    ·omega
    ·exact w.2.2.2.2
 have ow:∀ i,Own y i↔Own (aa s g) i:=by
  intro i;rcases ey with c | c
  ·exact pq kx dz (by omega) (by unfold cU at c;omega) f.aq i
  ·constructor
   ·rintro ⟨_,w | w⟩
    ·omega
    ·have:=w.2.1;omega
   ·rintro ⟨i0,w | w⟩
    ·omega
    ·grind
 refine h.chan hg mY.1 mY.2 lx ⟨.inr (.inr ⟨(IZ _).2 (by rw [yS];simp),rfl,fun ch=>?_⟩),h.fA mY.1 mY.2,⟨List.Sublist.refl _,List.Sublist.refl _⟩,.inl ⟨rfl,rfl⟩⟩ ow (fun i d _ m=>hk.mt kx f.aq m) ?_ ?_ ?_ (fun q=>by rw [f.an];exact id) ?_ ?_ hk.at_
 ·grind
 ·intro i j q ch _ _ _;rcases q with q | q
  ·omega
  ·obtain ⟨q1,q2,q3,q4,q5⟩:=q;refine .inr ⟨dz,q2,by rw [f.aq];exact q3,by rw [f.aq];exact q4,?_⟩;have c:(aa s g).place=30∧(aa s g).res.code=0:=by omega
   rcases hp with w | w | w | w
   ·exact .inr (.inr (.inr (.inr (.inl ⟨by omega,by rw [f.code];exact c.2⟩))))
   ·omega
   ·omega
   ·omega
 ·unfold bW;unfold cU at ey;omega
 ·unfold cB;unfold cU at ey;omega
 ·rintro ⟨w1,w2,w3,w4⟩
  have c:(aa s g).place=30∧(aa s g).res.code=0:=by grind
  refine ⟨.inr ⟨dz,?_⟩,by rw [hk.param];exact w2,by rw [hk.token];exact w3,by intro z;omega⟩;have:y.place=30∨y.place=13:=by omega
  rcases this with z | z
  ·exact .inr (.inr ⟨z,by rw [f.code];exact c.2⟩)
  ·exact .inl z
 ·rintro ⟨w1,w2,w3⟩
  have c:(aa s g).place=30∧(aa s g).res.code=0:=by grind
  refine ⟨⟨.inr ⟨dz,?_⟩,by rw [hk.param];exact w2,fun _=>by rw [hk.br];exact w3 kx⟩,fun z=>absurd dz z.ne⟩;have:y.place=30∨y.place=13:=by omega
  rcases this with z | z
  ·exact .inr (.inr ⟨z,by rw [f.code];exact c.2⟩)
  ·exact .inl z
theorem I3 {s:ai} {g:Nat} (hg:g < s.gs.length):aa (cI s g).1 g={ aa s g with k:=(aa s g).k - 1 }:=by
 rw [vI hg,fT (by exact hg),if_pos rfl]
theorem tE {s:ai} {g:Nat} {p:Int} (hg:g < s.gs.length):aT (cI s g).1 g p=ah (aH s (aB (aa s g).aE ((aa s g).k - 1)) { cn s (aB (aa s g).aE ((aa s g).k - 1)) with lock:=-1 }) g { aa s g with k:=(aa s g).k - 1,place:=p }:=by
 rw [vI hg,kF _ _ _ _ (by exact hg)]
theorem CJ {l:List Int} (h:¬ j9 l=true):∀ i∈l,i < 0:=by
 intro i hi;unfold j9 at h
 by_cases c:0≤i
 ·grind
 ·omega
theorem I4 {l:List Int} (h:j9 l=true):l≠[]:=by
 intro c;rw [c] at h;simp [j9] at h
theorem MInv.I5 (h:MInv s) (hg:g < s.gs.length) (st:(aa s g).status=0) (k:(ag s g).kind=9) (e:(aa s g).place=30) :
  MInv (if (cI s g).2=true then (cI s g).1 else if (aa s g).res.code=0 then aT (cI s g).1 g 13 else if j9 (aa s g).aq=true then aT (cI s g).1 g 34 else an (cI s g).1 g):=by
 have b:=h.ic hg k (by unfold cU;omega);have k3:=b.k3 (by omega);have e2:(cI s g).2=decide (0 < (aa s g).k - 1):=rfl;have kp:∀ (kk p:Int),gJ (aa s g) { aa s g with k:=kk,place:=p }:=fun _ _=>⟨rfl,rfl,rfl,rfl,rfl,rfl,rfl,rfl,rfl⟩
 rw [e2]
 split
 ·rename_i c;have c:0 < (aa s g).k - 1:=by simpa using c
  rw [vI hg];exact h.pz hg st k (by omega) (y:={ aa s g with k:=(aa s g).k - 1 }) ⟨kp _ (aa s g).place,rfl,rfl,rfl,rfl,.inl ⟨.inl e,rfl,by simp only;omega⟩⟩
 rename_i c;have c:¬ 0 < (aa s g).k - 1:=by simpa using c
 split
 ·rename_i c2;rw [tE hg];exact h.pz hg st k (by omega) ⟨kp _ _,rfl,rfl,rfl,rfl,.inr (.inl ⟨e,c2,rfl,by simp only;omega⟩)⟩
 rename_i c2
 split
 ·rename_i c3;rw [tE hg];exact h.pz hg st k (by omega) ⟨kp _ _,rfl,rfl,rfl,rfl,.inr (.inr (.inl ⟨.inr ⟨e,c2,I4 c3⟩,rfl,by simp only;omega⟩))⟩
 rename_i c3;unfold an;rw [I3 hg]
 split
 ·rename_i c4;rw [tE hg];exact h.pz hg st k (by omega) ⟨kp _ _,rfl,rfl,rfl,rfl,.inr (.inr (.inr ⟨e,c2,CJ c3,by simp only;omega,.inl ⟨rfl,List.length_pos_iff.1 c4⟩⟩))⟩
 ·rename_i c4;rw [tE hg];exact h.pz hg st k (by omega) ⟨kp _ _,rfl,rfl,rfl,rfl,.inr (.inr (.inr ⟨e,c2,CJ c3,by simp only;omega,.inr ⟨rfl,List.length_eq_zero_iff.1 (by simp only at c4;omega)⟩⟩))⟩
theorem MInv.I6 (h:MInv s) (hg:g < s.gs.length) (st:(aa s g).status=0) (k:(ag s g).kind=9) (e:(aa s g).place=33):MInv (if (cI s g).2=true then (cI s g).1 else aT (cI s g).1 g 34):=by
 have b:=h.ic hg k (by unfold cU;omega);have k3:=b.k3 (by omega);have e2:(cI s g).2=decide (0 < (aa s g).k - 1):=rfl;have kp:∀ (kk p:Int),gJ (aa s g) { aa s g with k:=kk,place:=p }:=fun _ _=>⟨rfl,rfl,rfl,rfl,rfl,rfl,rfl,rfl,rfl⟩
 rw [e2]
 split
 ·rename_i c;have c:0 < (aa s g).k - 1:=by simpa using c
  rw [vI hg];exact h.pz hg st k (by omega) (y:={ aa s g with k:=(aa s g).k - 1 }) ⟨kp _ (aa s g).place,rfl,rfl,rfl,rfl,.inl ⟨.inr e,rfl,by simp only;omega⟩⟩
 ·rename_i c;have c:¬ 0 < (aa s g).k - 1:=by simpa using c
  rw [tE hg];exact h.pz hg st k (by omega) ⟨kp _ _,rfl,rfl,rfl,rfl,.inr (.inr (.inl ⟨.inl e,rfl,by simp only;omega⟩))⟩
end Sx
namespace Sx
variable {s t:ai} {g:Nat} {nc ns n:Int} {x y:Gr}
theorem MInv.jb (h:MInv s) (hg:g < s.gs.length) (st:(aa s g).status=0) (k:(ag s g).kind=9) (e:(aa s g).place=32):MInv (jb s g):=by
 have L:=h.loc hg;have kx:SE (aa s g):=k;have b:=h.ic hg k (by unfold cU;omega);have di:=h.l9 hg (by omega);have nw:¬ Wt (aa s g):=kI (by omega);obtain ⟨pm,tk⟩:=L.pe nw;have dF:=b.hand (by omega);have k2:=b.k2 (by omega);have k0:=b.k0;have s2:=b.s2 (by omega);have s6:=b.s6 (by omega);have l3:=b.l3;have pk:=b.c2 (by omega);have jY:=vv k0 k2;unfold Sx.jb;simp only;generalize hi:aB (aa s g).order (aa s g).k=i at *;have iL:i < ((aa s g).aq.length:Int):=by omega
 have v0:=s6 i dF.1;obtain ⟨w,w1,w2,w3,w4,w5,w6⟩:=h.tD hg k (by omega) dF.2.1 iL v0;generalize hv:aB (aa s g).aq i=v at *;rw [drop_eq w4 dF.2.2.2.2.1 dF.2.2.2.2.2];have fin:∀ (y:Gr),gJ (aa s g) y→y.aq=(aa s g).aq→y.an=(aa s g).an→y.res.code=(aa s g).res.code→(y.place=32∧y.k=(aa s g).k + 1∧(aa s g).k + 1 < (aa s g).order.length∨y.place=33∧y.k=(aa s g).aE.length∧(aa s g).k + 1=(aa s g).order.length) →
   MInv (ah (aH s (bJ (aa s g) i) (bQ (cn s (bJ (aa s g) i)) v)) g y):=by
  intro y hk iT m8 IV hp;have dz:SE y:=hk.se.2 kx;have ho:=hk.aI;have hc:=hk.ch;have o1:=b.o1;have lC:eN s.aK.length s.aL.length y:=by
   constructor
   ·rw [hk.order,hk.aE,ho];simp only [hc];exact o1
   ·rw [hk.order];exact b.o2
   ·rw [hk.order];exact b.o3
   ·rw [hk.aE];exact b.l1
   ·rw [hk.aE];exact b.l2
   ·rw [hk.aE];exact l3
   ·omega
   ·intro c;omega
   ·rw [hk.order];intro c;omega
   ·rw [hk.aE];intro c;omega
   ·intro c;omega
   ·grind
   ·intro c;omega
   ·rw [iT,hk.order];exact b.s4
   ·intro c;omega
   ·rw [iT,hk.order];intro _;exact s6
   ·intro c;omega
   ·intro c;omega
   ·intro _;rw [hk.br];exact pk
   ·intro c;omega
  have hold:∀ ch,bl y ch↔bl (aa s g) ch:=by
   intro ch;rw [jF dz (by unfold ie;rw [hk.aE];omega),jF kx (by unfold ie;omega),hk.aE]
  refine h.chan hg dF.2.2.2.2.1 dF.2.2.2.2.2 (L.jB kx (by omega) hk.ops hk.at_ (by rw [hk.status];exact st) (by rw [hk.token];exact tk) (by rw [hk.param];exact pm) (by omega) (by rw [m8,di];simp) (by rw [m8,di];simp) (by rw [m8,di];simp) (by omega) h.gI lC) ⟨.inl ⟨rfl,hold⟩,h.fA dF.2.2.2.2.1 dF.2.2.2.2.2,⟨gH,gH⟩,.inr ((jF kx (by unfold ie;omega) _).2 dF.2.2.2.1)⟩ (pq kx dz (by omega) (by omega) iT) (fun i d _ m=>hk.mt kx iT m) ?_ (by unfold bW;omega) (by unfold cB;omega) (fun q=>by rw [m8];exact id) (fun w=>absurd w.1 nw) (fun w=>absurd w.1 nw) hk.at_;intro j l q ch a c hj;rcases q with q | q
  ·omega
  ·obtain ⟨q1,q2,q3,q4,q5⟩:=q;have q6:l∈(aa s g).order.drop (aa s g).k.toNat:=by grind
   have ck:l≠i:=by
    intro z;subst z;have ej:j=v:=q4.symm.trans hv;subst ej;have hq:j∈(cn s ch).recv∨j∈(cn s ch).send:=by
     unfold up at hj
     split at hj
     ·rename_i z;subst z;exact hj.imp (fun h=>gH.subset h) (fun h=>gH.subset h)
     ·exact hj
    obtain ⟨o,qq⟩:=h.qK (g:=g) a c hq;have:ch=bJ (aa s g) l:=qq.ch.symm.trans w4;subst this;rw [fz] at hj;rcases hj with hj | hj
    ·exact kG hj
    ·exact kG hj
   rw [jY] at q6;have q7:=(List.mem_cons.1 q6).resolve_left ck;rcases hp with hp | hp
   ·refine .inr ⟨dz,q2,by rw [iT];exact q3,by rw [iT];exact q4,.inr (.inr (.inr (.inr (.inr ⟨hp.1,?_⟩))))⟩;rw [hk.order,hp.2.1];exact q7
   ·simp_all
 have dM:g < (aH s (bJ (aa s g) i) (bQ (cn s (bJ (aa s g) i)) v)).gs.length:=hg;have g0:aa (aH s (bJ (aa s g) i) (bQ (cn s (bJ (aa s g) i)) v)) g=aa s g:=rfl
 by_cases c:(aa s g).k + 1 < (aa s g).order.length
 ·rw [if_pos c,yM dM,g0,av];exact fin _ ⟨rfl,rfl,rfl,rfl,rfl,rfl,rfl,rfl,rfl⟩ rfl rfl rfl (.inl ⟨e,rfl,c⟩)
 ·rw [if_neg c,IQ dM,g0];exact fin _ ⟨rfl,rfl,rfl,rfl,rfl,rfl,rfl,rfl,rfl⟩ rfl rfl rfl (.inr ⟨rfl,rfl,by omega⟩)
structure I7 (x y:Gr) (i:Int):Prop where
 ops:y.ops=x.ops
 at_:y.at_=x.at_
 status:y.status=x.status
 token:y.token=x.token
 br:y.br=x.br
 param:y.param=x.param
 order:y.order=x.order
 aE:y.aE=x.aE
 an:y.an=x.an
 hp:y.place=34∧y.k=x.k + 1∧x.k + 1 < x.order.length∧y.aq=x.aq.set i.toNat (-1)∨x.k + 1=x.order.length∧y.aq=[]∧(y.place=17∧x.an≠[]∨y.place=18∧x.an=[])
theorem MInv.yT (h:MInv s) (hg:g < s.gs.length) (st:(aa s g).status=0) (k:(ag s g).kind=9) (e:(aa s g).place=34) {y:Gr} (f:I7 (aa s g) y (aB (aa s g).order (aa s g).k)) :
  MInv (ah (if 0≤aB (aa s g).aq (aB (aa s g).order (aa s g).k) then cL s g (aB (aa s g).aq (aB (aa s g).order (aa s g).k)) else s) g y):=by
 have L:=h.loc hg;have kx:SE (aa s g):=k;have b:=h.ic hg k (by unfold cU;omega);have nw:¬ Wt (aa s g):=kI (by omega);obtain ⟨pm,tk⟩:=L.pe nw;have dF:=b.hand (by omega);have k2:=b.k2 (by omega);have k0:=b.k0;have s2:=b.s2 (by omega);have s4:=b.s4;have s7:=b.s7 e;have l3:=b.l3;have jY:=vv k0 k2;have ou:=tA k0 k2;have nq:=mX kx (x:=aa s g) (by omega);generalize hi:aB (aa s g).order (aa s g).k=i at *;have iL:i < ((aa s g).aq.length:Int):=by omega
 have ho:aI y=aI (aa s g):=by unfold aI;rw [f.ops,f.at_]
 have hc:∀ j,bJ y j=bJ (aa s g) j:=fun j=>by unfold bJ;rw [ho]
 have dz:SE y:=by unfold SE;rw [ho];exact kx
 have hp:=f.hp;have iF:∀ j:Int,0≤j→j < (aa s g).aq.length→aB ((aa s g).aq.set i.toNat (-1)) j=if j=i then -1 else aB (aa s g).aq j:=fun j a c=>Cz dF.2.1 a c
 have o1:=b.o1;have o3:=b.o3;have lx:Loc s.aK.length s.aL.length s.gs.length y:=by
  rcases hp with p | p
  ·have lC:eN s.aK.length s.aL.length y:=by
    have kK:y.aq.length=(aa s g).aq.length:=by grind
    constructor
    ·rw [f.order,f.aE,ho];simp only [hc];exact o1
    ·rw [f.order];exact b.o2
    ·rw [f.order];exact o3
    ·rw [f.aE];exact b.l1
    ·rw [f.aE];exact b.l2
    ·rw [f.aE];exact l3
    ·omega
    ·intro c;omega
    ·rw [f.order];intro c;omega
    ·omega
    ·intro c;omega
    ·grind
    ·intro c;omega
    ·intro j a c;rw [kK] at c;rw [p.2.2.2,iF j a c,f.order]
     split
     ·omega
     ·exact s4 j a c
    ·intro c;omega
    ·intro c;omega
    ·intro _ j hj;rw [f.order,p.2.1,ou] at hj;have lE:0≤j∧j < (aI (aa s g)).cases.length:=by grind
     rw [p.2.2.2,iF j lE.1 (by rw [s2];exact lE.2)]
     split
     ·rfl
     ·grind
    ·intro c;omega
    ·intro c;omega
    ·intro c;omega
   exact L.jB kx (by omega) f.ops f.at_ (by rw [f.status];exact st) (by rw [f.token];exact tk) (by rw [f.param];exact pm) (by omega) (fun _=>.inl p.1) (by rw [f.an];exact L.w3) (by rw [f.an];exact L.w4) (by omega) h.gI lC
  ·exact L.fin kx (by omega) f.ops f.at_ (by rw [f.status];exact st) (by rw [f.token];exact tk) (by rw [f.param];exact pm) (by rw [f.an];exact p.2.2) (by rw [f.an];exact L.w3) (by rw [f.an];exact L.w4) h.gI
 have vF:∀ ch,¬ bl (aa s g) ch:=by
  intro ch w;rw [pn kx] at w;omega
 have vH:∀ ch,¬ bl y ch:=by
  intro ch w;rw [pn dz] at w;omega
 have own:∀ j,Own y j↔Own (aa s g) j∧j≠aB (aa s g).aq i:=by
  intro j;have uniq:∀ c:Int,0≤c→c < (aa s g).aq.length→0≤aB (aa s g).aq c→aB (aa s g).aq c=aB (aa s g).aq i→c=i:=by
   intro c c0 c1 c2 c3;have a1:=h.tD hg k (by omega) c0 c1 c2;have a2:=h.tD hg k (by omega) dF.2.1 iL (by rw [← c3];exact c2);have:=a1.2.2.2.1;rw [c3] at this;exact this.symm.trans a2.2.2.2.1
  rcases hp with p | p
  ·constructor
   ·rintro ⟨j0,w | w⟩
    ·omega
    ·have w3:=w.2.2;rw [p.2.2.2] at w3;obtain ⟨c,c0,c1,c2⟩:=kJ.1 w3;rw [List.length_set] at c1;rw [iF c c0 c1] at c2
     split at c2
     ·omega
     ·rename_i z;refine ⟨⟨j0,.inr ⟨kx,by omega,kJ.2 ⟨c,c0,c1,c2⟩⟩⟩,fun q=>z (uniq c c0 c1 (by omega) (c2.trans q))⟩
   ·rintro ⟨⟨j0,w | w⟩,w2⟩
    ·omega
    ·obtain ⟨c,c0,c1,c2⟩:=kJ.1 w.2.2;refine ⟨j0,.inr ⟨dz,by omega,?_⟩⟩;rw [p.2.2.2];refine kJ.2 ⟨c,c0,by rw [List.length_set];exact c1,?_⟩;rw [iF c c0 c1,if_neg (fun z=>w2 (by rw [← c2,z]))];exact c2
  ·constructor
   ·rintro ⟨j0,w | w⟩
    ·omega
    ·omega
   ·rintro ⟨⟨j0,w | w⟩,w2⟩
    ·omega
    ·exfalso
     obtain ⟨c,c0,c1,c2⟩:=kJ.1 w.2.2;have co:=(s4 c c0 c1).2.2 (by omega);rw [← List.take_append_drop (aa s g).k.toNat (aa s g).order,jY] at co;rcases List.mem_append.1 co with q | q
     ·have:=s7 c q;omega
     ·rcases List.mem_cons.1 q with q | q
      ·grind
      ·have:(aa s g).order.drop ((aa s g).k + 1).toNat=[]:=List.drop_eq_nil_of_le (by omega);rw [this] at q;simp at q
 have mt:∀ j d,Own y j→Match (aa s g) j d→Match y j d:=by
  intro j d wo m;have ck:=((own j).1 wo).2;have j0:=wo.1;rcases m with m | m
  ·exact absurd kx m.1.ne
  ·obtain ⟨_,m1,m2,m3,m4,m5,m6,m7⟩:=m;rcases hp with p | p
   ·have kK:y.aq.length=(aa s g).aq.length:=by rw [p.2.2.2,List.length_set]
    refine .inr ⟨dz,m1,by rw [kK];exact m2,?_,by rw [hc];exact m4,by rw [ho];exact m5,by rw [f.order];exact m6,?_⟩
    ·grind
    ·grind
   ·exfalso
    rcases wo.2 with w | w
    ·exact w.1.ne dz
    ·omega
 have CK:¬ bW y:=by unfold bW;omega
 have eP:¬ cB y:=by unfold cB;omega
 by_cases hv:0≤aB (aa s g).aq i
 ·rw [if_pos hv];exact h.BH hg (h.tD hg k (by omega) dF.2.1 iL hv).1 lx (fun ch=>⟨fun w=>absurd w (vH ch),fun w=>absurd w (vF ch)⟩) own mt nq CK eP f.an nw f.at_
 ·rw [if_neg hv];refine h.self hg ⟨lx,fun ch=>⟨fun w=>absurd w (vH ch),fun w=>absurd w (vF ch)⟩,fun j=>?_,mt,fun i j w=>absurd w (nq i j),eP,fun q=>by rw [f.an];exact id,fun w=>absurd w.1 nw,fun w=>absurd w.1 nw⟩ f.at_ (fun w=>absurd w CK);rw [own];exact ⟨fun w=>w.1,fun w=>⟨w,fun z=>by have:=w.1;omega⟩⟩
theorem I8 {s:ai} {g:Nat} {v:Int}:(cL s g v).gs.length=s.gs.length:=by
 unfold cL bh iZ
 split <;> rfl
theorem MInv.iz (h:MInv s) (hg:g < s.gs.length) (st:(aa s g).status=0) (k:(ag s g).kind=9) (e:(aa s g).place=34):MInv (iz s g):=by
 have b:=h.ic hg k (by unfold cU;omega);have k2:=b.k2 (by omega);unfold Sx.iz;simp only;obtain ⟨t,ht⟩:∃ t,(if 0≤aB (aa s g).aq (aB (aa s g).order (aa s g).k) then cL s g (aB (aa s g).aq (aB (aa s g).order (aa s g).k)) else s)=t:=⟨_,rfl⟩
 have hl:t.gs.length=s.gs.length:=by rw [← ht];split;exact I8;rfl
 rw [ht]
 split
 ·rename_i c;rw [tC (by rw [hl];exact hg),if_pos c];unfold an;rw [fT (by rw [hl];exact hg),if_pos rfl]
  split
  ·rename_i c2;rw [kF _ _ _ _ (by rw [hl];exact hg),← ht];exact h.yT hg st k e ⟨rfl,rfl,rfl,rfl,rfl,rfl,rfl,rfl,rfl,.inr ⟨c,rfl,.inl ⟨rfl,List.length_pos_iff.1 c2⟩⟩⟩
  ·rename_i c2;rw [kF _ _ _ _ (by rw [hl];exact hg),← ht];exact h.yT hg st k e ⟨rfl,rfl,rfl,rfl,rfl,rfl,rfl,rfl,rfl,.inr ⟨c,rfl,.inr ⟨rfl,List.length_eq_zero_iff.1 (by simp only at c2;omega)⟩⟩⟩
 ·rename_i c;rw [tC (by rw [hl];exact hg),if_neg c,← ht];exact h.yT hg st k e ⟨rfl,rfl,rfl,rfl,rfl,rfl,rfl,rfl,rfl,.inl ⟨e,rfl,by omega,rfl⟩⟩
theorem MInv.bn (h:MInv s) (hg:g < s.gs.length) (st:(aa s g).status=0):MInv (bn s g).1:=by
 unfold Sx.bn;simp only
 by_cases k:(ag s g).kind≠9
 ·grind
 rw [if_neg k];have k9:(ag s g).kind=9:=by omega
 by_cases tF:(aa s g).place=24
 ·rw [if_pos tF];exact h.Cl hg st k9 25 (.inl ⟨tF,rfl⟩)
 rw [if_neg tF]
 by_cases tG:(aa s g).place=25
 ·rw [if_pos tG];exact h.iw hg st k9 tG
 rw [if_neg tG]
 by_cases tH:(aa s g).place=26
 ·rw [if_pos tH];exact h.IP hg st k9 tH
 rw [if_neg tH]
 by_cases tI:(aa s g).place=27
 ·rw [if_pos tI];exact h.iy hg st k9 tI
 rw [if_neg tI]
 by_cases tJ:(aa s g).place=28
 ·rw [if_pos tJ];exact h.aL hg st k9 tJ
 rw [if_neg tJ]
 by_cases tK:(aa s g).place=29
 ·rw [if_pos tK];exact h.ja hg st k9 tK
 rw [if_neg tK]
 by_cases tM:(aa s g).place=30
 ·rw [if_pos tM];have:=h.I5 hg st k9 tM
  split
  ·grind
  rename_i c;rw [if_neg c] at this
  split
  ·grind
  rename_i c;rw [if_neg c] at this
  split
  ·grind
  ·grind
 rw [if_neg tM]
 by_cases gU:(aa s g).place=14
 ·rw [if_pos gU];exact h.IW hg st k9 gU
 rw [if_neg gU]
 by_cases qP:(aa s g).place=31
 ·rw [if_pos qP];exact h.Cl hg st k9 32 (.inr ⟨qP,rfl⟩)
 rw [if_neg qP]
 by_cases tN:(aa s g).place=32
 ·rw [if_pos tN];exact h.jb hg st k9 tN
 rw [if_neg tN]
 by_cases tO:(aa s g).place=33
 ·rw [if_pos tO];have:=h.I6 hg st k9 tO
  split
  ·grind
  ·grind
 rw [if_neg tO]
 by_cases tS:(aa s g).place=34
 ·rw [if_pos tS];exact h.iz hg st k9 tS
 rw [if_neg tS]
 by_cases e1:(aa s g).place=13∨(aa s g).place=17
 ·rw [if_pos e1];exact h.common hg st (.inr e1)
 rw [if_neg e1];exact h
theorem MInv.tick (h:MInv s):MInv { s with step:=s.step + 1 } :=
 ⟨h.v,h.n1,h.n8,h.c8,h.sn,h.mT,h.c1,h.oq,h.ca,h.f0,h.po,h.ot,h.oX,h.du,h.d5,h.dn⟩
theorem MInv.one (h:MInv s) (p:Int):MInv (one s p).1:=by
 unfold Sx.one
 split
 ·exact h
 rename_i c;have c0:0≤p∧p < s.gs.length∧(aa s p.toNat).status=0:=by omega
 have hg:p.toNat < ({ s with step:=s.step + 1 }:ai).gs.length:=by grind
 have ht:=h.tick;have st:(aa { s with step:=s.step + 1 } p.toNat).status=0:=c0.2.2;simp only
 split
 ·exact ht.gC hg st
 split
 ·exact ht.bH hg st
 split
 ·exact ht.bF hg st
 split
 ·exact ht.c9 hg st
 split
 ·exact ht.bn hg st
 ·exact h
end Sx
namespace Sx
theorem yU {p:List (List Pn.Op)} {a c:Int} {d:List Int} {g:Nat} (hg:g < p.length):aa (start p a c d) g=clean (p.getD g []) 0:=by
 unfold aa start;simp only [List.getD_eq_getElem?_getD,List.getElem?_map,List.getElem?_eq_getElem hg];rfl
theorem MInv.start {p:List (List Pn.Op)} {a c:Int} {d:List Int} (hp:Pn.right p=true) (hc:can a p.length c=true) (hd:∀ x∈d,0≤x∧x < 65536) (hl:d.length≤1000):MInv (start p a c d):=by
 unfold Pn.right at hp;simp only [decide_eq_true_eq] at hp;unfold can at hc;simp only [decide_eq_true_eq] at hc;obtain ⟨p1,p8,pr⟩:=hp;have lg:(Sx.start p a c d).gs.length=p.length:=by simp [Sx.start]
 have lc:(Sx.start p a c d).aK.length=0:=rfl;have ls:(Sx.start p a c d).aL.length=a.toNat:=by simp [Sx.start]
 have I9:∀ i,su (Sx.start p a c d) i=fF:=by
  intro i;unfold su Sx.start;simp only [List.getD_eq_getElem?_getD,List.getElem?_replicate]
  split <;> rfl
 have MW:∀ i,fG (Sx.start p a c d) i=false:=by
  intro i;unfold fG;have:(Sx.start p a c d).fresh=0:=rfl;rw [this]
  by_cases z:0≤i
  ·grind
  ·simp [z]
 have Ja:((Sx.start p a c d).cache).flatten=[]:=by
  unfold Sx.start;simp only
  induction p with
  | nil=>rfl
  | cons x l ih=>simp
 have qR:∀ g,0≤g→g < (p.length:Int)→gA (Sx.start p a c d) g=clean (p.getD g.toNat []) 0:=fun g a b=>yU (by omega)
 have nO:∀ (l:List Pn.Op) i,¬ Own (clean l 0) i:=fun l i=>dc.own (by unfold dc clean;simp) i
 have nH:∀ (l:List Pn.Op) i,¬ bl (clean l 0) i:=fun l i=>dc.holds (by unfold dc clean;simp) i
 refine ⟨?_,by omega,by omega,by omega,by rw [ls];show ((a.toNat:Nat):Int)=a;omega,by omega,hc.2.2.2.2.1,hc.2.2.2.2.2,by simp [Sx.start],Int.le_refl _,⟨List.replicate a.toNat false,?_⟩,Int.le_refl _,by show (0:Int)≤_;omega,hd,hl,?_⟩
 ·unfold V;rw [lg,lc,ls]
  constructor
  ·intro g g0 g1;rw [qR g g0 g1];have hm:p.getD g.toNat []∈p:=by grind
   have hr:=pr _ hm;unfold Pn.js at hr;simp only [decide_eq_true_eq] at hr
   constructor
   ·exact hr.1
   ·exact hr.2
   ·exact Int.le_refl _
   ·unfold clean;simp only;omega
   ·exact .inl rfl
   ·intro z;exact absurd rfl z
   ·exact .inl rfl
   ·intro z;exact absurd z (by unfold clean;simp)
   ·intro z;exact absurd z (by unfold clean;simp)
   ·intro z;exact absurd z (by unfold clean;simp)
   ·intro z;exact absurd z (by unfold clean;simp)
   ·intro z;exact absurd rfl z
   ·intro z;exact absurd z (by unfold clean;simp)
   ·intro q z;exact absurd z (by unfold clean;simp)
   ·unfold clean;exact List.nodup_nil
   ·intro z;exact absurd z (by unfold clean;simp)
   ·intro _ z;exact absurd z (by unfold clean;simp)
   ·unfold clean;simp only;omega
   ·intro z;exact absurd z (by unfold clean;simp)
   ·intro z;exact absurd z (by unfold clean;simp)
   ·intro z;exact absurd z (by unfold clean;simp)
   ·intro _ z;unfold cU clean at z;simp at z
  ·intro ch z1 z2;omega
  ·omega
  ·intro ch z1 z2;omega
  ·grind
  ·intro ch z1 z2;omega
  ·intro ch z1 z2;omega
  ·intro g g0 g1 w;rw [qR g g0 g1] at w;exact absurd w (by unfold clean;simp)
  ·intro g g0 g1 w;rw [qR g g0 g1] at w;exact absurd w (by unfold clean;simp)
  ·intro g k g0 g1 _ _ w;rw [qR g g0 g1] at w;exact absurd w (by unfold clean;simp)
  ·intro g g0 g1 q w;rw [qR g g0 g1] at w;exact absurd w (by unfold clean;simp)
  ·intro g k q g0 g1 _ _ w;rw [qR g g0 g1] at w;exact absurd w (by unfold clean;simp)
  ·intro i _ _;rw [I9];exact ⟨by simp [fF],by simp only [fF];omega,by simp [fF],by simp [fF]⟩
  ·grind
 ·have e:(Sx.start p a c d).eV.toNat=a.toNat:=rfl;have MX:∀ x,Po.fh ⟨(Sx.start p a c d).cache,(Sx.start p a c d).middle,(Sx.start p a c d).fresh.toNat,List.replicate a.toNat false⟩ x=0:=by
   intro x;unfold Po.fh;simp only;rw [Ja];rfl
  constructor
  ·show 1≤c.toNat;omega
  ·show c.toNat≤16;omega
  ·rw [e];omega
  ·simp [Sx.start]
  ·show (0:Int).toNat≤_;simp
  ·grind
  ·grind
  ·grind
  ·intro x z;have:x=[]:=by
    unfold Sx.start at z;simp only [List.mem_map] at z;obtain ⟨_,_,rfl⟩:=z;rfl
   rw [this];simp
 ·unfold kE;rw [lg];have:(List.range p.length).map (fun g=>(aa (Sx.start p a c d) g).at_)=(List.range p.length).map (fun _=>(0:Int)):=by
   refine List.map_congr_left fun g hg=>?_
   rw [yU (by simpa using hg)];rfl
  rw [this]
  show (0:Int)=_
  induction p.length with
  | zero=>rfl
  | succ n ih=>rw [List.range_succ,List.map_append,List.sum_append,← ih];rfl
end Sx
namespace Sx
structure Z (x:Gr):Prop where
 op:∀ o∈x.ops,o.cases.length≤6
 od:x.order.length≤6
 sg:x.aq.length≤6
 lk:x.aE.length≤6
def ZS (s:ai):Prop:=∀ g:Nat,Z (aa s g)
theorem Z.clean (a:Int):Z (clean [] a):=⟨by simp [Sx.clean],by simp [Sx.clean],by simp [Sx.clean],by simp [Sx.clean]⟩
section
variable {s t:ai} {g h:Nat}
theorem ZS.ff (z:ZS s) {x:Gr} (hx:Z x):ZS (ah s g x):=by
 intro k;unfold aa Sx.ah;simp only [List.getD_eq_getElem?_getD,List.getElem?_set]
 split
 ·split
  ·exact hx
  ·exact Z.clean _
 ·have:=z k;unfold aa at this;rw [List.getD_eq_getElem?_getD] at this;exact this
theorem ZS.of (z:ZS s) (e:t.gs=s.gs):ZS t:=by
 intro k;have:=z k;unfold aa at this ⊢;rw [e];exact this
theorem ZS.dI (z:ZS s) {c:Int} {x:Cn}:ZS (aH s c x):=z.of rfl
theorem ZS.gF (z:ZS s) {c:Int} {x:Su}:ZS (bh s c x):=z.of rfl
theorem Z.same {x y:Gr} (z:Z x) (h1:y.ops=x.ops) (h2:y.order=x.order) (h3:y.aq=x.aq) (h4:y.aE=x.aE):Z y:=⟨by rw [h1];exact z.op,by rw [h2];exact z.od,by rw [h3];exact z.sg,by rw [h4];exact z.lk⟩
theorem ZS.put (zt:ZS t) (z:ZS s) (h:Nat) {x:Gr} (e:x.ops=(aa s h).ops∧x.order=(aa s h).order∧x.aq=(aa s h).aq∧x.aE=(aa s h).aE:=by exact ⟨rfl,rfl,rfl,rfl⟩):ZS (Sx.ah t g x):=zt.ff ((z h).same e.1 e.2.1 e.2.2.1 e.2.2.2)
theorem ZS.ite {c:Prop} [Decidable c] {β:Type} {a b:ai × β} (h1:ZS a.1) (h2:ZS b.1):ZS (if c then a else b).1:=by split <;> assumption
theorem ZS.bN {c:Prop} [Decidable c] {a b:ai} (h1:ZS a) (h2:ZS b):ZS (if c then a else b):=by split <;> assumption
theorem ZS.aT (z:ZS s) {p:Int}:ZS (aT s g p):=z.put z g
theorem ZS.bG (z:ZS s) {r:Md.ak} {p:Int}:ZS (bG s g r p):=z.put z g
theorem ZS.free (z:ZS s) {c:Int}:ZS (free s c):=z.dI
theorem ZS.tryLock (z:ZS s) {c:Int}:ZS (tryLock s g c).1:=ZS.ite z.dI z
theorem ZS.an (z:ZS s):ZS (an s g):=ZS.bN z.aT z.aT
theorem ZS.fH (z:ZS s):ZS (fH s g):=by
 unfold Sx.fH;refine z.ff ?_
 split
 ·exact (z g).same rfl rfl rfl rfl
 ·split
  ·exact (z g).same rfl rfl rfl rfl
  ·exact z g
theorem ZS.ready (z:ZS s):ZS (ready s g):=by
 unfold Sx.ready;refine z.ff ?_
 split
 ·exact (z g).same rfl rfl rfl rfl
 ·split
  ·exact (z g).same rfl rfl rfl rfl
  ·exact z g
theorem ZS.iZ (z:ZS s) {v:Int}:ZS (iZ s g v):=ZS.bN (z.of rfl) z
theorem ZS.cL (z:ZS s) {v:Int}:ZS (cL s g v):=z.iZ.gF
theorem ZS.bw (z:ZS s):ZS (bw s g).1:=by
 unfold Sx.bw;refine ZS.ite (ZS.ite ?_ z) ?_
 ·exact z.of rfl
 ·exact z.of rfl
theorem ZS.drop (z:ZS s) {v:Int}:ZS (bE s v):=ZS.bN z.dI z
theorem ZS.pair (z:ZS s) {v:Int}:ZS (pair s g v):=ZS.put (ZS.put z z (su s v).g.toNat) z g
theorem ZS.serve (z:ZS s) {v:Int} {d:Bool}:ZS (serve s g v d):=by
 have z2:ZS (Sx.bh (Sx.ah s (su s v).g.toNat { aa s (su s v).g.toNat with param:=v }) v { su s v with done:=d }):=ZS.gF (ZS.put z z (su s v).g.toNat);exact ZS.put z2 z2 g
theorem ZS.common (z:ZS s):ZS (common s g).1:=by
 unfold Sx.common;simp only;refine ZS.ite (ZS.ite (ZS.ite (ZS.aT z.tryLock) (ZS.aT z.tryLock)) z) ?_;refine ZS.ite (ZS.aT z.free) ?_;refine ZS.ite (ZS.fH (ZS.aT z)) ?_;refine ZS.ite (ZS.aT (ZS.put z.cL z g)) ?_;refine ZS.ite (ZS.an z.free) ?_;refine ZS.ite (ZS.an (ZS.put z.ready z g)) z
theorem ZS.taken (z:ZS s) {i a b:Int}:ZS (taken s g i a b) :=
 ZS.bN (ZS.aT (ZS.put z z g)) (ZS.aT (ZS.pair (ZS.drop (ZS.put z z g))))
theorem ZS.cR (z:ZS s) {a b:Int}:ZS (cR s g a b) :=
 ZS.bN (ZS.put z.drop z g) (ZS.aT (ZS.pair (ZS.put (ZS.put z z g) z (su s (aa s g).hold).g.toNat )))
theorem ZS.bt (z:ZS s) {d:Su}:ZS (bt s g d) :=
 ZS.bN (ZS.put z.bw.gF z g) (ZS.put z.bw z g)
theorem ZS.jO (z:ZS s) {v:Int}:ZS (jO s g v):=ZS.serve (ZS.gF z.drop)
theorem ZS.hand (z:ZS s) {c i:Int}:ZS (hand s c i).1:=by unfold Sx.hand;simp only;split;exact z;exact z.dI
theorem ZS.bH (z:ZS s):ZS (bH s g).1:=by
 unfold Sx.bH;simp only;refine ZS.ite z ?_;refine ZS.ite z.common ?_;refine ZS.ite z ?_;refine ZS.ite (ZS.ite z.aT z.bG) ?_;refine ZS.ite (ZS.ite (ZS.put z z g) (ZS.put z z g)) ?_;refine ZS.ite (ZS.ite z.bG z.aT) ?_;refine ZS.ite (ZS.ite z.aT z.taken) ?_;refine ZS.ite z.cR ?_;refine ZS.ite (ZS.put z.jO z.jO g) ?_;refine ZS.ite (ZS.ite (ZS.bG z.dI) (ZS.ite z.bG z.aT)) ?_;refine ZS.ite z.bt ?_;refine ZS.ite (ZS.put z.dI z g) ?_;exact ZS.ite (ZS.put z z g) z
theorem ZS.bF (z:ZS s):ZS (bF s g).1:=by
 unfold Sx.bF;simp only;refine ZS.ite z ?_;refine ZS.ite z.common ?_;refine ZS.ite z ?_;refine ZS.ite (ZS.ite z.aT z.bG) ?_;refine ZS.ite (ZS.ite z.aT (ZS.put z z g)) ?_;refine ZS.ite (ZS.ite (ZS.put z z g) z.bG) ?_;refine ZS.ite (ZS.ite z.bG (ZS.ite z.aT z.aT)) ?_;refine ZS.ite (ZS.ite z.aT z.taken) ?_;refine ZS.ite z.cR ?_;refine ZS.ite (ZS.put (ZS.serve (ZS.hand z.drop)) (ZS.serve (ZS.hand z.drop)) g ) ?_;refine ZS.ite (ZS.ite (ZS.bG z.dI) (ZS.ite z.bG z.aT)) ?_;refine ZS.ite z.bt ?_;refine ZS.ite (ZS.put z.dI z g) ?_;exact ZS.ite (ZS.put z z g) z
theorem ZS.gz (z:ZS s):ZS (gz s g):=by
 have z2:ZS (Sx.bE (Sx.ah s g { aa s g with t:=s.step }) (aa s g).hold):=ZS.drop (ZS.put z z g);exact ZS.serve (ZS.put z2 z2 (su (Sx.bE (Sx.ah s g { aa s g with t:=s.step }) (aa s g).hold) (aa s g).hold).g.toNat)
theorem ZS.ju (z:ZS s) {i:Int}:ZS (ju s g i):=by
 have z2:ZS (Sx.ah s g { aa s g with hold:=i }):=ZS.put z z g;exact ZS.bN z2.aT z2.gz
theorem ZS.j8 (z:ZS s):ZS (j8 s g) :=
 ZS.bN (ZS.put z.drop z g) (ZS.aT (ZS.gz (ZS.put z z (su s (aa s g).hold).g.toNat)))
theorem ZS.c9 (z:ZS s):ZS (c9 s g).1:=by
 unfold Sx.c9;simp only;refine ZS.ite z ?_;refine ZS.ite z.common ?_;refine ZS.ite z ?_;refine ZS.ite (ZS.ite z.bG (ZS.bG z.dI)) ?_;refine ZS.ite (ZS.ite z.ju (ZS.ite z.ju z.aT)) ?_;exact ZS.ite z.j8 z
theorem ZS.unlock (z:ZS s) {p:Int}:ZS (unlock s g p):=ZS.put z z g
theorem ZS.dL (z:ZS s) {r:Md.ak} {i:Int}:ZS (dL s g r i):=by
 have z2:ZS (Sx.bG s g { r with cs:=i } 30):=z.bG;exact ZS.unlock (ZS.put z2 z2 g)
theorem ZS.lock (z:ZS s) {p:Int}:ZS (lock s g p) :=
 ZS.bN (ZS.bN (ZS.put z.tryLock z g) (ZS.put z.tryLock z g)) z
theorem ZS.next (z:ZS s) {p:Int}:ZS (next s g p):=ZS.bN (ZS.put z z g) (ZS.put z z g)
theorem ZS.eT (z:ZS s):ZS (eT s g):=ZS.bN (ZS.put z z g) (z.ff (z g))
theorem ZS.gB (z:ZS s) {i:Int} {k:Pn.Cs}:ZS (gB s g i k).1 :=
 ZS.ite z.dL (ZS.ite (ZS.eT z.taken) (ZS.ite (ZS.dL z.dI) z))
theorem ZS.gZ (z:ZS s) {i:Int} {k:Pn.Cs}:ZS (gZ s g i k).1 :=
 ZS.ite (ZS.eT z.taken) (ZS.ite (ZS.dL z.dI) (ZS.ite z.dL z))
theorem vJ (z:ZS s):(ag s g).cases.length≤6:=by
 unfold ag;rw [List.getD_eq_getElem?_getD]
 by_cases c:(aa s g).at_.toNat < (aa s g).ops.length
 ·rw [List.getElem?_eq_getElem c];exact (z g).op _ (List.getElem_mem c)
 ·rw [List.getElem?_eq_none (by omega)];simp [uE]
theorem ZS.iw (z:ZS s):ZS (iw s g (ag s g)):=by
 have hc:=vJ z (g:=g);have z2:ZS (Sx.ah s g { aa s g with aq:=List.replicate (ag s g).cases.length (-1) }):=z.ff ⟨(z g).op,(z g).od,by simp only [List.length_replicate];exact hc,(z g).lk⟩;unfold Sx.iw;simp only
 by_cases c1:(bT (ag s g) (aB (aa s g).order (aa s g).k)).send=true
 ·rw [if_pos c1];exact ZS.bN z.gB (ZS.bN z.next (ZS.bN z.dL z2.next))
 ·rw [if_neg c1];exact ZS.bN z.gZ (ZS.bN z.next (ZS.bN z.dL z2.next))
theorem ZS.iy (z:ZS s) {o:Pn.Op}:ZS (iy s g o):=by
 unfold Sx.iy;simp only;have z1:=z.drop (v:=(aa s g).hold)
 by_cases c:(bT o (aB (aa s g).order (aa s g).k)).send=true
 ·simp only [if_pos c];exact ZS.unlock (ZS.put (ZS.serve z1.gF) (ZS.serve z1.gF) g )
 ·simp only [if_neg c];exact ZS.unlock (ZS.put (ZS.serve z1.hand) (ZS.serve z1.hand) g )
theorem ZS.aL (z:ZS s) {o:Pn.Op}:ZS (aL s g o):=by
 unfold Sx.aL;simp only;refine ZS.bN (ZS.next ?_) (ZS.unlock ?_)
 ·refine ZS.ff z.bw.gF ?_;exact ⟨(z g).op,(z g).od,by simp only [List.length_set];exact (z g).sg,(z g).lk⟩
 ·refine ZS.put z.bw z g
theorem ZS.ja (z:ZS s) {o:Pn.Op}:ZS (ja s g o) :=
 ZS.bN (ZS.next z.dI) (ZS.unlock (ZS.put z.dI z g))
theorem ZS.cI (z:ZS s):ZS (cI s g).1:=ZS.put z.free z g
theorem ZS.jP (z:ZS s):ZS (jP s g):=ZS.put z z g
theorem ZS.jb (z:ZS s):ZS (jb s g):=ZS.bN (ZS.next z.drop) (ZS.unlock z.drop)
theorem ZS.iz (z:ZS s):ZS (iz s g):=by
 unfold Sx.iz;simp only;have z1:ZS (if 0≤aB (aa s g).aq (aB (aa s g).order (aa s g).k) then Sx.cL s g (aB (aa s g).aq (aB (aa s g).order (aa s g).k)) else s):=ZS.bN z.cL z;generalize (if 0≤aB (aa s g).aq (aB (aa s g).order (aa s g).k) then Sx.cL s g (aB (aa s g).aq (aB (aa s g).order (aa s g).k)) else s)=t at *;refine ZS.bN (ZS.an (ZS.next ?_)) (ZS.next ?_)
 ·refine ZS.ff z1 ?_;exact ⟨(z g).op,(z g).od,by simp,(z g).lk⟩
 ·refine ZS.ff z1 ?_;exact ⟨(z g).op,(z g).od,by simp only [List.length_set];exact (z g).sg,(z g).lk⟩
theorem ZS.bn (z:ZS s):ZS (bn s g).1:=by
 unfold Sx.bn;simp only;refine ZS.ite z ?_;refine ZS.ite z.lock ?_;refine ZS.ite z.iw ?_;refine ZS.ite (ZS.eT z.cR) ?_;refine ZS.ite z.iy ?_;refine ZS.ite z.aL ?_;refine ZS.ite z.ja ?_;refine ZS.ite (ZS.ite z.cI (ZS.ite (ZS.aT z.cI) (ZS.ite (ZS.aT z.cI) (ZS.an z.cI)))) ?_;refine ZS.ite z.jP ?_;refine ZS.ite z.lock ?_;refine ZS.ite z.jb ?_;refine ZS.ite (ZS.ite z.cI (ZS.aT z.cI)) ?_;refine ZS.ite z.iz ?_;exact ZS.ite z.common z
theorem ZS.never (z:ZS s):ZS (never s g):=ZS.fH z.aT
theorem ZS.clear (z:ZS s):ZS (clear s g):=by
 unfold Sx.clear;exact z.ff ⟨(z g).op,by simp [kO,Sx.clean],by simp [kO,Sx.clean],by simp [kO,Sx.clean]⟩
theorem Jb (l:List Int) (h:(aE l).Nodup):(aE l).length≤l.length:=by
 refine List.Nodup.length_le_of_subset h fun x hx=>((yG l).2 x).1 hx |>.1
theorem ZS.iA (z:ZS s) {o:Pn.Op} (hc:o.cases.length≤6) (ho:(aa s g).order=[]):ZS (iA s g o):=by
 unfold Sx.iA;simp only;have z1:ZS { s with drawn:=(drawn s o.cases.length).2 }:=z.of rfl;have hl:∀ (p:Int→Bool),((dx (drawn s o.cases.length).1 o.cases.length).filter p).length≤6:=by
  intro p;have h1:=List.length_filter_le p (dx (drawn s o.cases.length).1 o.cases.length);have h2:=(vt (drawn s o.cases.length).1 o.cases.length).length_eq;simp at h2;omega
 have zx:Z { aa s g with order:=(aa s g).order ++ (dx (drawn s o.cases.length).1 o.cases.length).filter (fun i=>aR s (bT o i).ch),aE:=Sx.aE (((dx (drawn s o.cases.length).1 o.cases.length).filter (fun i=>aR s (bT o i).ch)).map (fun i=>(bT o i).ch)),place:=24 }:=by
  refine ⟨(z g).op,?_,(z g).sg,?_⟩
  ·simp only [ho,List.nil_append];exact hl _
  ·have ls:=yG (((dx (drawn s o.cases.length).1 o.cases.length).filter (fun i=>aR s (bT o i).ch)).map (fun i=>(bT o i).ch));have:=Jb _ (ls.1.imp (fun h e=>by omega));have h2:=hl (fun i=>aR s (bT o i).ch);simp only [List.length_map] at this;simp only;omega
 have z2:=z1.ff (g:=g) zx;exact ZS.bN z2 (ZS.bN z2.bG z2.never)
theorem ZS.iB (z:ZS s):ZS (iB s g):=by
 unfold Sx.iB;simp only;refine ZS.bN (ZS.put z z g) ?_;have z2:ZS (Sx.ah (Sx.clear s g) g { aa (Sx.clear s g) g with call:=(Sx.clear s g).step }):=ZS.put z.clear z.clear g;have ho:(aa (Sx.ah (Sx.clear s g) g { aa (Sx.clear s g) g with call:=(Sx.clear s g).step }) g).order=[]:=by
  by_cases hg:g < s.gs.length
  ·have dM:g < (Sx.clear s g).gs.length:=by unfold Sx.clear;rw [fB];exact hg
   rw [fT dM,if_pos rfl];unfold Sx.clear;rw [fT hg,if_pos rfl];rfl
  ·unfold aa Sx.ah;rw [List.getD_eq_getElem?_getD,List.getElem?_eq_none (by simp [Sx.clear,Sx.ah];omega)];rfl
 generalize Sx.ah (Sx.clear s g) g { aa (Sx.clear s g) g with call:=(Sx.clear s g).step }=s2 at *;have hc:=vJ z2 (g:=g);refine ZS.bN z2.aT ?_;refine ZS.bN (ZS.bN z2.aT z2.never) ?_;refine ZS.bN (ZS.bN z2.aT z2.bG) ?_;exact ZS.bN (ZS.bN z2.aT z2.bG) (z2.iA hc ho)
theorem ZS.iC (z:ZS s):ZS (iC s g):=by
 unfold Sx.iC;simp only;exact ZS.bN z.bG (ZS.bN (ZS.bG (s:={ s with aK:=s.aK ++ [⟨(ag s g).n,[],false,-1,[],[]⟩] }) (z.of rfl)) (ZS.bN z.bG (ZS.bN z.bG z.bG)))
theorem ZS.answer (z:ZS s):ZS (answer s g):=by
 unfold Sx.answer;simp only;have z1:ZS { s with done:=s.done ++ [mark s g s.step] }:=z.of rfl;exact ZS.clear (ZS.put z1 z1 g)
theorem ZS.gC (z:ZS s):ZS (gC s g).1:=by
 unfold Sx.gC;simp only;exact ZS.ite z.iB (ZS.ite z.iC (ZS.ite z.answer z))
theorem ZS.one (z:ZS s) (p:Int):ZS (one s p).1:=by
 unfold Sx.one
 split
 ·exact z
 have z1:ZS { s with step:=s.step + 1 }:=z.of rfl;simp only;exact ZS.ite z1.gC (ZS.ite z1.bH (ZS.ite z1.bF (ZS.ite z1.c9 (ZS.ite z1.bn z))))
theorem ZS.start {p:List (List Pn.Op)} {a c:Int} {d:List Int} (hp:Pn.right p=true):ZS (start p a c d):=by
 unfold Pn.right at hp;simp only [decide_eq_true_eq] at hp;intro g
 by_cases hg:g < p.length
 ·rw [yU hg];have hm:p.getD g []∈p:=by
   rw [List.getD_eq_getElem?_getD,List.getElem?_eq_getElem hg];exact List.getElem_mem _
  have hr:=hp.2.2 _ hm;unfold Pn.js at hr;simp only [decide_eq_true_eq] at hr;exact ⟨fun o ho=>(yJ (hr.2 o ho)).2.2.2.2.2.2.2.2.1,by simp [Sx.clean],by simp [Sx.clean],by simp [Sx.clean]⟩
 ·unfold aa;rw [List.getD_eq_getElem?_getD,List.getElem?_eq_none (by simp [Sx.start];omega)];exact Z.clean 0
structure Good (s:ai):Prop extends MInv s where
 z:ZS s
theorem Good.one (h:Good s) (p:Int):Good (one s p).1:=⟨h.toMInv.one p,h.z.one p⟩
theorem Good.start {p:List (List Pn.Op)} {a c:Int} {d:List Int} (hp:Pn.right p=true) (hc:can a p.length c=true) (hd:∀ x∈d,0≤x∧x < 65536) (hl:d.length≤1000):Good (start p a c d):=⟨MInv.start hp hc hd hl,ZS.start hp⟩
end
end Sx
namespace Sx
def SP (k:Int) (s:ai):Prop:=s.step=k
section
variable {s t:ai} {g h:Nat} {k:Int}
theorem SP.of (z:SP k s) (e:t.step=s.step):SP k t:=by unfold SP at *;rw [e];exact z
theorem SP.w (zt:SP k t) {x:Gr}:SP k (Sx.ah t g x):=zt
theorem SP.dI (z:SP k s) {c:Int} {x:Cn}:SP k (Sx.aH s c x):=z
theorem SP.gF (z:SP k s) {c:Int} {x:Su}:SP k (Sx.bh s c x):=z
theorem SP.ite {c:Prop} [Decidable c] {β:Type} {a b:ai × β} (h1:SP k a.1) (h2:SP k b.1):SP k (if c then a else b).1:=by split <;> assumption
theorem SP.bN {c:Prop} [Decidable c] {a b:ai} (h1:SP k a) (h2:SP k b):SP k (if c then a else b):=by split <;> assumption
theorem SP.aT (z:SP k s) {p:Int}:SP k (aT s g p):=SP.w z
theorem SP.bG (z:SP k s) {r:Md.ak} {p:Int}:SP k (bG s g r p):=SP.w z
theorem SP.free (z:SP k s) {c:Int}:SP k (free s c):=z.dI
theorem SP.tryLock (z:SP k s) {c:Int}:SP k (tryLock s g c).1:=SP.ite z.dI z
theorem SP.an (z:SP k s):SP k (an s g):=SP.bN z.aT z.aT
theorem SP.fH (z:SP k s):SP k (fH s g):=SP.w z
theorem SP.ready (z:SP k s):SP k (ready s g):=SP.w z
theorem SP.iZ (z:SP k s) {v:Int}:SP k (iZ s g v):=SP.bN (z.of rfl) z
theorem SP.cL (z:SP k s) {v:Int}:SP k (cL s g v):=z.iZ.gF
theorem SP.bw (z:SP k s):SP k (bw s g).1:=by
 unfold Sx.bw;refine SP.ite (SP.ite ?_ z) ?_
 ·exact z.of rfl
 ·exact z.of rfl
theorem SP.drop (z:SP k s) {v:Int}:SP k (bE s v):=SP.bN z.dI z
theorem SP.pair (z:SP k s) {v:Int}:SP k (pair s g v):=SP.w (SP.w z)
theorem SP.serve (z:SP k s) {v:Int} {d:Bool}:SP k (serve s g v d):=by
 have z2:SP k (Sx.bh (Sx.ah s (su s v).g.toNat { aa s (su s v).g.toNat with param:=v }) v { su s v with done:=d }):=SP.gF (SP.w z);exact SP.w z2
theorem SP.common (z:SP k s):SP k (common s g).1:=by
 unfold Sx.common;simp only;refine SP.ite (SP.ite (SP.ite (SP.aT z.tryLock) (SP.aT z.tryLock)) z) ?_;refine SP.ite (SP.aT z.free) ?_;refine SP.ite (SP.fH (SP.aT z)) ?_;refine SP.ite (SP.aT (SP.w z.cL)) ?_;refine SP.ite (SP.an z.free) ?_;refine SP.ite (SP.an (SP.w z.ready)) z
theorem SP.taken (z:SP k s) {i a b:Int}:SP k (taken s g i a b) :=
 SP.bN (SP.aT (SP.w z)) (SP.aT (SP.pair (SP.drop (SP.w z))))
theorem SP.cR (z:SP k s) {a b:Int}:SP k (cR s g a b) :=
 SP.bN (SP.w z.drop) (SP.aT (SP.pair (SP.w (SP.w z) )))
theorem SP.bt (z:SP k s) {d:Su}:SP k (bt s g d) :=
 SP.bN (SP.w z.bw.gF) (SP.w z.bw)
theorem SP.jO (z:SP k s) {v:Int}:SP k (jO s g v):=SP.serve (SP.gF z.drop)
theorem SP.hand (z:SP k s) {c i:Int}:SP k (hand s c i).1:=by unfold Sx.hand;simp only;split;exact z;exact z.dI
theorem SP.bH (z:SP k s):SP k (bH s g).1:=by
 unfold Sx.bH;simp only;refine SP.ite z ?_;refine SP.ite z.common ?_;refine SP.ite z ?_;refine SP.ite (SP.ite z.aT z.bG) ?_;refine SP.ite (SP.ite (SP.w z) (SP.w z)) ?_;refine SP.ite (SP.ite z.bG z.aT) ?_;refine SP.ite (SP.ite z.aT z.taken) ?_;refine SP.ite z.cR ?_;refine SP.ite (SP.w z.jO) ?_;refine SP.ite (SP.ite (SP.bG z.dI) (SP.ite z.bG z.aT)) ?_;refine SP.ite z.bt ?_;refine SP.ite (SP.w z.dI) ?_;exact SP.ite (SP.w z) z
theorem SP.bF (z:SP k s):SP k (bF s g).1:=by
 unfold Sx.bF;simp only;refine SP.ite z ?_;refine SP.ite z.common ?_;refine SP.ite z ?_;refine SP.ite (SP.ite z.aT z.bG) ?_;refine SP.ite (SP.ite z.aT (SP.w z)) ?_;refine SP.ite (SP.ite (SP.w z) z.bG) ?_;refine SP.ite (SP.ite z.bG (SP.ite z.aT z.aT)) ?_;refine SP.ite (SP.ite z.aT z.taken) ?_;refine SP.ite z.cR ?_;refine SP.ite (SP.w (SP.serve (SP.hand z.drop)) ) ?_;refine SP.ite (SP.ite (SP.bG z.dI) (SP.ite z.bG z.aT)) ?_;refine SP.ite z.bt ?_;refine SP.ite (SP.w z.dI) ?_;exact SP.ite (SP.w z) z
theorem SP.gz (z:SP k s):SP k (gz s g):=by
 have z2:SP k (Sx.bE (Sx.ah s g { aa s g with t:=s.step }) (aa s g).hold):=SP.drop (SP.w z);exact SP.serve (SP.w z2)
theorem SP.ju (z:SP k s) {i:Int}:SP k (ju s g i):=by
 have z2:SP k (Sx.ah s g { aa s g with hold:=i }):=SP.w z;exact SP.bN z2.aT z2.gz
theorem SP.j8 (z:SP k s):SP k (j8 s g) :=
 SP.bN (SP.w z.drop) (SP.aT (SP.gz (SP.w z)))
theorem SP.c9 (z:SP k s):SP k (c9 s g).1:=by
 unfold Sx.c9;simp only;refine SP.ite z ?_;refine SP.ite z.common ?_;refine SP.ite z ?_;refine SP.ite (SP.ite z.bG (SP.bG z.dI)) ?_;refine SP.ite (SP.ite z.ju (SP.ite z.ju z.aT)) ?_;exact SP.ite z.j8 z
theorem SP.unlock (z:SP k s) {p:Int}:SP k (unlock s g p):=SP.w z
theorem SP.dL (z:SP k s) {r:Md.ak} {i:Int}:SP k (dL s g r i):=by
 have z2:SP k (Sx.bG s g { r with cs:=i } 30):=z.bG;exact SP.unlock (SP.w z2)
theorem SP.lock (z:SP k s) {p:Int}:SP k (lock s g p) :=
 SP.bN (SP.bN (SP.w z.tryLock) (SP.w z.tryLock)) z
theorem SP.next (z:SP k s) {p:Int}:SP k (next s g p):=SP.bN (SP.w z) (SP.w z)
theorem SP.eT (z:SP k s):SP k (eT s g):=SP.bN (SP.w z) (SP.w z)
theorem SP.gB (z:SP k s) {i:Int} {q:Pn.Cs}:SP k (gB s g i q).1 :=
 SP.ite z.dL (SP.ite (SP.eT z.taken) (SP.ite (SP.dL z.dI) z))
theorem SP.gZ (z:SP k s) {i:Int} {q:Pn.Cs}:SP k (gZ s g i q).1 :=
 SP.ite (SP.eT z.taken) (SP.ite (SP.dL z.dI) (SP.ite z.dL z))
theorem SP.iw (z:SP k s):SP k (iw s g (ag s g)):=by
 have z2:SP k (Sx.ah s g { aa s g with aq:=List.replicate (ag s g).cases.length (-1) }):=SP.w z;unfold Sx.iw;simp only
 by_cases c1:(bT (ag s g) (aB (aa s g).order (aa s g).k)).send=true
 ·rw [if_pos c1];exact SP.bN z.gB (SP.bN z.next (SP.bN z.dL z2.next))
 ·rw [if_neg c1];exact SP.bN z.gZ (SP.bN z.next (SP.bN z.dL z2.next))
theorem SP.iy (z:SP k s) {o:Pn.Op}:SP k (iy s g o):=by
 unfold Sx.iy;simp only;have z1:=z.drop (v:=(aa s g).hold)
 by_cases c:(bT o (aB (aa s g).order (aa s g).k)).send=true
 ·simp only [if_pos c];exact SP.unlock (SP.w (SP.serve z1.gF) )
 ·simp only [if_neg c];exact SP.unlock (SP.w (SP.serve z1.hand) )
theorem SP.aL (z:SP k s) {o:Pn.Op}:SP k (aL s g o):=by
 unfold Sx.aL;simp only;refine SP.bN (SP.next ?_) (SP.unlock ?_)
 ·exact SP.w z.bw.gF
 ·refine SP.w z.bw
theorem SP.ja (z:SP k s) {o:Pn.Op}:SP k (ja s g o) :=
 SP.bN (SP.next z.dI) (SP.unlock (SP.w z.dI))
theorem SP.cI (z:SP k s):SP k (cI s g).1:=SP.w z.free
theorem SP.jP (z:SP k s):SP k (jP s g):=SP.w z
theorem SP.jb (z:SP k s):SP k (jb s g):=SP.bN (SP.next z.drop) (SP.unlock z.drop)
theorem SP.iz (z:SP k s):SP k (iz s g):=by
 unfold Sx.iz;simp only;have z1:SP k (if 0≤aB (aa s g).aq (aB (aa s g).order (aa s g).k) then Sx.cL s g (aB (aa s g).aq (aB (aa s g).order (aa s g).k)) else s):=SP.bN z.cL z;generalize (if 0≤aB (aa s g).aq (aB (aa s g).order (aa s g).k) then Sx.cL s g (aB (aa s g).aq (aB (aa s g).order (aa s g).k)) else s)=t at *;refine SP.bN (SP.an (SP.next ?_)) (SP.next ?_)
 ·exact SP.w z1
 ·exact SP.w z1
theorem SP.bn (z:SP k s):SP k (bn s g).1:=by
 unfold Sx.bn;simp only;refine SP.ite z ?_;refine SP.ite z.lock ?_;refine SP.ite z.iw ?_;refine SP.ite (SP.eT z.cR) ?_;refine SP.ite z.iy ?_;refine SP.ite z.aL ?_;refine SP.ite z.ja ?_;refine SP.ite (SP.ite z.cI (SP.ite (SP.aT z.cI) (SP.ite (SP.aT z.cI) (SP.an z.cI)))) ?_;refine SP.ite z.jP ?_;refine SP.ite z.lock ?_;refine SP.ite z.jb ?_;refine SP.ite (SP.ite z.cI (SP.aT z.cI)) ?_;refine SP.ite z.iz ?_;exact SP.ite z.common z
theorem SP.never (z:SP k s):SP k (never s g):=SP.fH z.aT
theorem SP.clear (z:SP k s):SP k (clear s g):=by
 unfold Sx.clear;exact SP.w z
theorem SP.iA (z:SP k s) {o:Pn.Op}:SP k (iA s g o):=by
 unfold Sx.iA;simp only;have z1:SP k { s with drawn:=(drawn s o.cases.length).2 }:=z.of rfl;exact SP.bN (SP.w z1) (SP.bN (SP.bG (SP.w z1)) (SP.never (SP.w z1)))
theorem SP.iB (z:SP k s):SP k (iB s g):=by
 unfold Sx.iB;simp only;refine SP.bN (SP.w z) ?_;have z2:SP k (Sx.ah (Sx.clear s g) g { aa (Sx.clear s g) g with call:=(Sx.clear s g).step }):=SP.w z.clear;generalize Sx.ah (Sx.clear s g) g { aa (Sx.clear s g) g with call:=(Sx.clear s g).step }=s2 at *;refine SP.bN z2.aT ?_;refine SP.bN (SP.bN z2.aT z2.never) ?_;refine SP.bN (SP.bN z2.aT z2.bG) ?_;exact SP.bN (SP.bN z2.aT z2.bG) z2.iA
theorem SP.iC (z:SP k s):SP k (iC s g):=by
 unfold Sx.iC;simp only;exact SP.bN z.bG (SP.bN (SP.bG (s:={ s with aK:=s.aK ++ [⟨(ag s g).n,[],false,-1,[],[]⟩] }) (z.of rfl)) (SP.bN z.bG (SP.bN z.bG z.bG)))
theorem SP.answer (z:SP k s):SP k (answer s g):=by
 unfold Sx.answer;simp only;have z1:SP k { s with done:=s.done ++ [mark s g s.step] }:=z.of rfl;exact SP.clear (SP.w z1)
theorem SP.gC (z:SP k s):SP k (gC s g).1:=by
 unfold Sx.gC;simp only;exact SP.ite z.iB (SP.ite z.iC (SP.ite z.answer z))
theorem Jc (s:ai) (p:Int):s.step≤(Sx.one s p).1.step∧(Sx.one s p).1.step≤s.step + 1:=by
 unfold Sx.one
 split
 ·exact ⟨Int.le_refl _,by simp only;omega⟩
 have z1:SP (s.step + 1) { s with step:=s.step + 1 }:=rfl;simp only
 split
 ·have:=z1.gC (g:=p.toNat);unfold SP at this;rw [this];omega
 split
 ·have:=z1.bH (g:=p.toNat);unfold SP at this;rw [this];omega
 split
 ·have:=z1.bF (g:=p.toNat);unfold SP at this;rw [this];omega
 split
 ·have:=z1.c9 (g:=p.toNat);unfold SP at this;rw [this];omega
 split
 ·have:=z1.bn (g:=p.toNat);unfold SP at this;rw [this];omega
 ·exact ⟨Int.le_refl _,by simp only;omega⟩
theorem Jd (l:List Int):∀ s:ai,s.step≤(Sx.runs s l).1.step∧(Sx.runs s l).1.step≤s.step + l.length:=by
 induction l with
 | nil=>intro s;simp [Sx.runs]
 | cons p r ih =>
  intro s;unfold Sx.runs
  split
  ·simp only [List.length_cons];omega
  ·have h1:=Jc s (pick s p);have h2:=ih (Sx.one s (pick s p)).1;simp only [List.length_cons];omega
theorem Good.runs {s:ai} (h:Good s) (l:List Int):Good (Sx.runs s l).1:=by
 induction l generalizing s with
 | nil=>exact h
 | cons p r ih =>
  unfold Sx.runs
  split
  ·exact h
  ·exact ih (h.one _)
end
end Sx
namespace Po
end Po
namespace Sx
variable {s:ai}
structure Qs (s:ai):Prop where
 c8:s.aK.length≤8
 q:∀ k:Nat,k < s.aK.length→∀ i,i∈(cn s ((k:Int) + 1)).recv∨i∈(cn s ((k:Int) + 1)).send→0≤i∧i < s.aL.length∧(su s i).ch=(k:Int) + 1∧((su s i).send=false→i∉(cn s ((k:Int) + 1)).send)∧((su s i).send=true→i∉(cn s ((k:Int) + 1)).recv)
 nd:∀ k:Nat,k < s.aK.length→(cn s ((k:Int) + 1)).recv.Nodup∧(cn s ((k:Int) + 1)).send.Nodup
end Sx
namespace Sx
structure Bg (n:Nat) (x:Gr):Prop where
 op:x.ops.length≤n
 oc:∀ o∈x.ops,o.cases.length≤n
 od:x.order.length≤n
 lk:x.aE.length≤n
 sg:x.aq.length≤n
 wk:x.an.length≤n
structure Bh (n:Nat) (c:Cn):Prop where
 cp:0≤c.cap
 bf:c.buf.length≤n
 rv:c.recv.length≤n
 sd:c.send.length≤n
structure Bd (n:Nat) (s:ai):Prop where
 g8:s.gs.length≤8
 c8:s.aK.length≤8
 mT:s.aL.length≤64
 dn:s.done.length≤n
 dr:s.cY.length≤1000
 cl:s.cache.length=s.gs.length
 cb:∀ l∈s.cache,l.length≤n
 mb:s.middle.length≤n
 fr:0≤s.fresh
 gs:∀ x∈s.gs,Bg n x
 cs:∀ c∈s.aK,Bh n c
section
variable {n m:Nat} {s:ai} {g:Nat}
end
end Sx
open Go.RowKit
namespace Sx
class MY (g:Nat) (s:ai):Prop where h:g < s.gs.length
class MZ (k g:Nat):Prop where h:k≠g
class M0 (s:ai) (g:Nat) (x:outParam Gr):Prop where h:aa s g=x
class M1 (i:Int) (s:ai):Prop where
 h0:0≤i
 h1:i < s.aL.length
class M3 (s:ai) (i:Int) (x:outParam Su):Prop where h:su s i=x
section
variable {s:ai} {g k:Nat} {x y:Gr} {f:Gr→Gr} {i j:Int} {d e:Su} {c:Int} {n:Cn}
end
end Sx
namespace Fl
open Sx
class M4 (B:List ak) (u:outParam U) (s:outParam ai):Prop where h:True
section
variable {P:Program} {c:Cx} {k:List Item} {fm:Fm} {L B:List ak} {mk:List ak→List ak} {ops:Array Oper} {l:List Oper} {u:U} {s:ai} {g:Nat}
end
section
variable (b:Nat) (u:U) (s:ai)
variable {s}
end
end Fl
open Go.RowKit Go.ChangeShapes Go.WideShapes Go.Deep
def jG (w:World) (cs:List Value) (c:Pn.Cs) (U:List Nat):Prop:=cs=[.bool c.send,.int .i64 c.ch,.int .i64 c.v]∧U=[]
def qT (w:World) (cs:List Value) (o:Pn.Op) (U:List Nat):Prop :=
 ∃ vc,cs=[.int .i64 o.kind,.int .i64 o.ch,.int .i64 o.n,.int .i64 o.v,vc,.bool o.cT]∧GV jG 3 w vc o.cases U
theorem tT:Kept jG:=⟨fun h _ _=>h,fun h x hx=>by obtain ⟨_,rfl⟩:=h;simp at hx⟩
theorem yV:Kept qT :=
 ⟨fun h k hn=>by obtain ⟨vc,h1,h2⟩:=h;exact ⟨vc,h1,h2.ig tT k hn⟩,fun h=>by obtain ⟨vc,h1,h2⟩:=h;exact h2.lt⟩
def oA:World→List Value→List Pn.Op→List Nat→Prop:=lG qT 6
theorem CQ:Kept oA:=zw yV
section
variable {w:World} {ao:Option Addr} {m cap k:Nat} {S:List Nat}
theorem GV.case {l:List Pn.Cs} {c:Pn.Cs} (h:GV jG 3 w (.slice ao m cap) l S) (hk:l[k]?=some c) :
  ∃ g off,ao=some ⟨g,off,none⟩∧g∈S∧g < w.heap.size∧w.cell? ⟨g,off + k * 3,none⟩=some (.bool c.send)∧w.cell? ⟨g,off + k * 3 + 1,none⟩=some (.int .i64 c.ch)∧w.cell? ⟨g,off + k * 3 + 2,none⟩=some (.int .i64 c.v):=by
 obtain ⟨g,off,cs,U,h1,h2,h3,h4,h5,⟨rfl,_⟩,_⟩:=h.get hk;exact ⟨g,off,h1,h2,h3,h5 0 (by omega),h5 1 (by omega),h5 2 (by omega)⟩
theorem GV.op {l:List Pn.Op} {o:Pn.Op} (h:GV qT 6 w (.slice ao m cap) l S) (hk:l[k]?=some o) :
  ∃ g off vc U,ao=some ⟨g,off,none⟩∧g∈S∧g < w.heap.size∧(w.cell? ⟨g,off + k * 6,none⟩=some (.int .i64 o.kind)∧w.cell? ⟨g,off + k * 6 + 1,none⟩=some (.int .i64 o.ch)∧w.cell? ⟨g,off + k * 6 + 2,none⟩=some (.int .i64 o.n) ∧
   w.cell? ⟨g,off + k * 6 + 3,none⟩=some (.int .i64 o.v)∧w.cell? ⟨g,off + k * 6 + 4,none⟩=some vc∧w.cell? ⟨g,off + k * 6 + 5,none⟩=some (.bool o.cT))∧GV jG 3 w vc o.cases U∧∀ x∈U,x∈S:=by
 obtain ⟨g,off,cs,U,h1,h2,h3,h4,h5,⟨vc,rfl,h6⟩,h7⟩:=h.get hk;exact ⟨g,off,vc,U,h1,h2,h3,⟨h5 0 (by omega),h5 1 (by omega),h5 2 (by omega),h5 3 (by omega),h5 4 (by omega),h5 5 (by omega)⟩,h6,h7⟩
theorem GV.one {α:Type} {E:World→List Value→α→List Nat→Prop} {l:List α} {a:α} (h:GV E 1 w (.slice ao m cap) l S) (hk:l[k]?=some a) :
  ∃ g off v U,ao=some ⟨g,off,none⟩∧g∈S∧g < w.heap.size∧w.cell? ⟨g,off + k,none⟩=some v∧E w [v] a U∧∀ x∈U,x∈S:=by
 obtain ⟨g,off,cs,U,h1,h2,h3,h4,h5,h6,h7⟩:=h.get hk;obtain ⟨v,rfl⟩:=DQ h4;exact ⟨g,off,v,U,h1,h2,h3,by have:=h5 0 (by omega);simpa using this,h6,h7⟩
end
theorem vK:eI Tryz.prog 3 (jH .i64) 1:=ue Tryz.underlying3 (by kernel_rfl)
theorem CT:eI Tryz.prog 2 (jH .i64) 1:=ue Tryz.underlying2 (by kernel_rfl)
theorem CU:eI Tryz.prog 4 wv 1:=DW Tryz.underlying4 (by kernel_rfl)
theorem Je:eI Tryz.prog 165 jG 3:=by
 refine ⟨by omega,tT,by kernel_rfl,?_⟩;intro H enc W fuel cs x h;obtain ⟨xs,n,_,_,hl,jI,hf⟩:=DataW.trod_struct Tryz.underlying165 h;have Jf:cs.length=3:=hl.trans (by kernel_rfl);obtain ⟨v0,v1,v2,rfl⟩:=DS Jf;have rZ:xs.length=3:=jI.trans (by kernel_rfl);have hs:∀ i,i < 3→(xs[i]?).isSome=true:=fun i hi=>by simp [rZ,hi]
 obtain ⟨_,_,a0,U0,e0,_⟩:=CU.field rfl rfl (hs 0 (by omega)) (hf 0 _ rfl);obtain ⟨_,_,a1,U1,e1,_⟩:=vK.field rfl rfl (hs 1 (by omega)) (hf 1 _ rfl);obtain ⟨_,_,a2,U2,e2,_⟩:=CT.field rfl rfl (hs 2 (by omega)) (hf 2 _ rfl);simp at e0 e1 e2;subst e0 e1 e2;exact ⟨rfl,(by intro y hy;simp at hy;rcases hy with rfl | rfl | rfl <;> rfl),⟨a0,a1,a2⟩,[],rfl,rfl⟩
theorem Jg:eI Tryz.prog 56 (lG jG 3) 1:=rq Tryz.underlying56 (by kernel_rfl) Je
theorem Jh:eI Tryz.prog 58 qT 6:=by
 refine ⟨by omega,yV,by kernel_rfl,?_⟩;intro H enc W fuel cs x h;obtain ⟨xs,n,_,_,hl,jI,hf⟩:=DataW.trod_struct Tryz.underlying58 h;have Ji:cs.length=6:=hl.trans (by kernel_rfl);obtain ⟨v0,v1,v2,v3,v4,v5,rfl⟩:=DU Ji;have Jj:xs.length=6:=jI.trans (by kernel_rfl);have hs:∀ i,i < 6→(xs[i]?).isSome=true:=fun i hi=>by simp [Jj,hi]
 obtain ⟨_,_,a0,U0,e0,_⟩:=vK.field rfl rfl (hs 0 (by omega)) (hf 0 _ rfl);obtain ⟨_,_,a1,U1,e1,_⟩:=vK.field rfl rfl (hs 1 (by omega)) (hf 1 _ rfl);obtain ⟨_,_,a2,U2,e2,_⟩:=vK.field rfl rfl (hs 2 (by omega)) (hf 2 _ rfl);obtain ⟨_,_,a3,U3,e3,_⟩:=CT.field rfl rfl (hs 3 (by omega)) (hf 3 _ rfl);obtain ⟨o4,_,a4,U4,vc,e4,h4⟩:=Jg.field rfl rfl (hs 4 (by omega)) (hf 4 _ rfl);obtain ⟨_,_,a5,U5,e5,_⟩:=CU.field rfl rfl (hs 5 (by omega)) (hf 5 _ rfl);simp at e0 e1 e2 e3 e4 e5 o4;subst e0 e1 e2 e3 e4 e5;exact ⟨rfl,(by intro y hy;simp at hy;rcases hy with rfl | rfl | rfl | rfl | rfl | rfl <;> first | rfl | assumption),⟨a0,a1,a2,a3,a4,a5⟩,U4,v4,rfl,h4⟩
theorem Jk:eI Tryz.prog 53 oA 1:=rq Tryz.underlying53 (by kernel_rfl) Jh
theorem Jl:eI Tryz.prog 22 (lG oA 1) 1:=rq Tryz.underlying22 (by kernel_rfl) Jk
open Go.RowKit
theorem oB (w:World) (k:Int):Calls Tryz.prog 96 #[.int .i64 k] w fun e w'=>e=.returned (.bool (Pn.gO k))∧w=w':=by
 go_enter Tryz.func96,Tryz.ntmps96
 go_wp2_with fail
 all_goals
  go_ret
  exact ⟨gK (by simp [Pn.gO, *] <;> omega),rfl⟩
theorem oC (w:World) (k:Int):Calls Tryz.prog 97 #[.int .i64 k] w fun e w'=>e=.returned (.bool (Pn.gP k))∧w=w':=by
 go_enter Tryz.func97,Tryz.ntmps97
 go_wp2_with fail
 all_goals
  go_ret
  exact ⟨gK (by simp [Pn.gP, *]),rfl⟩
def Pn.within (has:Bool) (n most:Int):Bool:=if has then decide (0≤n) && decide (n≤most) else n == 0
open Go.RowKit
namespace Pn
def yW (c:Cs):Bool:=within true c.ch 8 && within c.send c.v 255
theorem CV (c:Cs):yW c=iN c:=by
 obtain ⟨s,ch,v⟩:=c;unfold yW iN within;rw [Bool.eq_iff_iff]
 cases s <;> simp <;> omega
theorem Jm {o:Op} {j:Nat} {c:Cs} (h:o.cases[j]?=some c) (hc:yW c=false):dO o=false:=by
 unfold dO;rw [decide_eq_false_iff_not];rintro ⟨h1,h2,h3,h4,h5,h6,h7,h8,h9,jX,jD,jh,iE,mU⟩;have:=mU c (List.mem_of_getElem? h);rw [← CV,hc] at this;cases this
end Pn
open Go.RowKit
namespace Pn
end Pn
set_option maxRecDepth 100000 in
set_option maxHeartbeats 3200000 in
theorem Jn (w:World) (o:Pn.Op) (va:Value) (SA:List Nat) (ha:GV jG 3 w va o.cases SA) (hb:¬ (1≤o.kind∧o.kind≤9∧0≤o.ch∧o.ch≤8∧0≤o.n∧o.n≤4∧0≤o.v∧o.v≤255∧o.cases.length≤6)) :
  Calls Tryz.prog 82 #[.agg #[.int .i64 o.kind,.int .i64 o.ch,.int .i64 o.n,.int .i64 o.v,va,.bool o.cT]] w fun e w'=>e=.returned (.bool (Pn.dO o))∧aP [] w w':=by
 have m9:=ha.le;unfold maxLen at m9;obtain ⟨ao,cap,rfl⟩:=ha.shape;have HA:=Lib.hid ha;obtain ⟨q,fR⟩:∃ q,Pn.dO o=q:=⟨_,rfl⟩
 rw [fR];have HQ:=Lib.hid fR;have KA:Hid (aP [] w (w.alloc (.cells #[.int .i64 o.kind,.int .i64 o.ch,.int .i64 o.n,.int .i64 o.v,.slice ao o.cases.length cap,.bool o.cT] 58))):=Lib.hid ((aP.refl [] w).alloc _);clear ha fR;have HN:Hid (false=q):=Lib.hid (by
  rw [← HQ.out,eq_comm];unfold Pn.dO;rw [decide_eq_false_iff_not];rintro ⟨h1,h2,h3,h4,h5,h6,h7,h8,h9,_⟩;exact hb ⟨h1,h2,h3,h4,h5,h6,h7,h8,h9⟩)
 have HB:=Lib.hid hb;clear hb
 go_enter Tryz.func82,Tryz.ntmps82
 go_upto_if 48 with fail
 all_goals
  go_wp2_with fail
  all_goals
   first
    | (exfalso;have h:=HB.out;omega)
    | (go_ret;exact ⟨gK HN.out,(aP.refl [] w).alloc _⟩)
open Go.RowKit
namespace Pn
end Pn
set_option maxRecDepth 100000 in
set_option maxHeartbeats 3200000 in
theorem Jo (w:World) (o:Pn.Op) (va:Value) (SA:List Nat) (ha:GV jG 3 w va o.cases SA) (hb:1≤o.kind∧o.kind≤9∧0≤o.ch∧o.ch≤8∧0≤o.n∧o.n≤4∧0≤o.v∧o.v≤255∧o.cases.length≤6) (hk:o.kind=1) :
  Calls Tryz.prog 82 #[.agg #[.int .i64 o.kind,.int .i64 o.ch,.int .i64 o.n,.int .i64 o.v,va,.bool o.cT]] w fun e w'=>e=.returned (.bool (Pn.dO o))∧aP [] w w':=by
 have m9:=ha.le;unfold maxLen at m9;obtain ⟨ao,cap,rfl⟩:=ha.shape;have HA:=Lib.hid ha;obtain ⟨q,fR⟩:∃ q,Pn.dO o=q:=⟨_,rfl⟩
 rw [fR];have HQ:=Lib.hid fR;have KA:Hid (aP [] w (w.alloc (.cells #[.int .i64 o.kind,.int .i64 o.ch,.int .i64 o.n,.int .i64 o.v,.slice ao o.cases.length cap,.bool o.cT] 58))):=Lib.hid ((aP.refl [] w).alloc _);clear ha fR;obtain ⟨b1,b2,b3,b4,b5,b6,b7,b8,b9⟩:=hb;obtain ⟨k,ch,n,v,cs,cT⟩:=o;simp only at *;have HS:Hid ((Pn.gO k=false→ch=0)→(Pn.gP k=false→v=0)→(k≠1→n=0)→(k≠9→cs=[]∧cT=false)→(∀ (j:Nat) (c:Pn.Cs),cs[j]?=some c→Pn.iN c=true)→true=q):=Lib.hid (fun d1 d2 d3 d4 h=>by
  rw [← HQ.out,eq_comm];unfold Pn.dO;rw [decide_eq_true_iff];refine ⟨b1,b2,b3,b4,b5,b6,b7,b8,b9,d1,d2,d3,d4,fun c hc=>?_⟩;obtain ⟨j,hj,rfl⟩:=List.getElem_of_mem hc;exact h j _ (List.getElem?_eq_getElem hj))
 have HF:Hid (¬ ((Pn.gO k=false→ch=0)∧(Pn.gP k=false→v=0)∧(k≠1→n=0)∧(k≠9→cs=[]∧cT=false))→false=q):=Lib.hid (fun hn=>by
  rw [← HQ.out,eq_comm];unfold Pn.dO;rw [decide_eq_false_iff_not];rintro ⟨h1,h2,h3,h4,h5,h6,h7,h8,h9,jX,jD,jh,iE,_⟩;exact hn ⟨jX,jD,jh,iE⟩)
 subst hk;have eu:Hid (Pn.gO 1=false∧Pn.gP 1=false):=Lib.hid (by constructor <;> simp [Pn.gO,Pn.gP] <;> omega)
 by_cases bZ:ch=0∧v=0∧cT=false∧cs.length=0
 ·obtain ⟨e0,e1,e2,e3⟩:=bZ;subst e0 e1 e2;have e9:cs.length≤0:=by omega
  have pE:=Lib.hid (HS.out (fun _=>rfl) (fun _=>rfl) (fun h=>absurd rfl h) (fun _=>⟨List.eq_nil_of_length_eq_zero (by omega),rfl⟩));clear HS HF
  try clear e3
  try clear e2
  go_enter Tryz.func82,Tryz.ntmps82
  go_wp2_with fail
  refine (oB _ _).mono ?_
  rintro e w3 ⟨rfl,rfl⟩
  rw [eu.out.1]
  go_wp2_with (go_at_call 97;refine (oC _ _).mono ?_;rintro e w4 ⟨rfl,rfl⟩;rw [eu.out.2])
  go_loopw [97] (fun u wr=>∃ j:Nat,j≤cs.length∧u=.int .i64 j∧Hid (aP [] w wr∧∀ (i:Nat) (c:Pn.Cs),i < j→cs[i]?=some c→Pn.iN c=true)) (fun u _=>cs.length - (intOf u).toNat)
  case atStart=>exact ⟨0,Nat.zero_le _,rfl,Lib.hid ⟨KA.out,fun i c hi=>by omega⟩⟩
  case round =>
   obtain ⟨j,hj,rfl,HI⟩:=hrel;obtain ⟨wo,rfl⟩:∃ wo:World,wo=wr:=⟨_,rfl⟩
   obtain rfl:j=cs.length:=by omega
   have HN:Hid (true=q):=Lib.hid (pE.out fun i c hc=>HI.out.2 i c (List.getElem?_eq_some_iff.1 hc).1 hc)
   go_wp2_with fail
   go_ret
   exact ⟨gK HN.out,HI.out.1⟩
 ·have HN:Hid (false=q):=Lib.hid (HF.out (by rintro ⟨d1,d2,d3,d4⟩;have q1:=eu.out.1;have q2:=eu.out.2;exact bZ ⟨d1 q1,d2 q2,(d4 (by omega)).2,by simp [(d4 (by omega)).1]⟩));have HC:Hid (ch=0→v=0→cT=false→cs.length=0→False):=Lib.hid (fun e0 e1 e2 e3=>bZ ⟨e0,e1,e2,e3⟩);clear bZ
  go_enter Tryz.func82,Tryz.ntmps82
  go_wp2_with fail
  refine (oB _ _).mono ?_
  rintro e w3 ⟨rfl,rfl⟩
  rw [eu.out.1]
  go_upto_if 93 with (go_at_call 97;refine (oC _ _).mono ?_;rintro e w4 ⟨rfl,rfl⟩;rw [eu.out.2])
  all_goals
   go_wp2_with fail
   all_goals
    first
     | (exfalso;refine HC.out ?_ ?_ ?_ ?_ <;> (first | assumption | omega | (simpa using ‹¬cT=true›));done)
     | (go_ret;exact ⟨gK HN.out,(aP.refl [] w).alloc _⟩)
open Go.RowKit
namespace Pn
end Pn
set_option maxRecDepth 100000 in
set_option maxHeartbeats 3200000 in
theorem Jp (w:World) (o:Pn.Op) (va:Value) (SA:List Nat) (ha:GV jG 3 w va o.cases SA) (hb:1≤o.kind∧o.kind≤9∧0≤o.ch∧o.ch≤8∧0≤o.n∧o.n≤4∧0≤o.v∧o.v≤255∧o.cases.length≤6) (hv:o.kind=2∨o.kind=4) (hk:¬ o.kind=1) :
  Calls Tryz.prog 82 #[.agg #[.int .i64 o.kind,.int .i64 o.ch,.int .i64 o.n,.int .i64 o.v,va,.bool o.cT]] w fun e w'=>e=.returned (.bool (Pn.dO o))∧aP [] w w':=by
 have m9:=ha.le;unfold maxLen at m9;obtain ⟨ao,cap,rfl⟩:=ha.shape;have HA:=Lib.hid ha;obtain ⟨q,fR⟩:∃ q,Pn.dO o=q:=⟨_,rfl⟩
 rw [fR];have HQ:=Lib.hid fR;have KA:Hid (aP [] w (w.alloc (.cells #[.int .i64 o.kind,.int .i64 o.ch,.int .i64 o.n,.int .i64 o.v,.slice ao o.cases.length cap,.bool o.cT] 58))):=Lib.hid ((aP.refl [] w).alloc _);clear ha fR;obtain ⟨b1,b2,b3,b4,b5,b6,b7,b8,b9⟩:=hb;obtain ⟨k,ch,n,v,cs,cT⟩:=o;simp only at *;have HS:Hid ((Pn.gO k=false→ch=0)→(Pn.gP k=false→v=0)→(k≠1→n=0)→(k≠9→cs=[]∧cT=false)→(∀ (j:Nat) (c:Pn.Cs),cs[j]?=some c→Pn.iN c=true)→true=q):=Lib.hid (fun d1 d2 d3 d4 h=>by
  rw [← HQ.out,eq_comm];unfold Pn.dO;rw [decide_eq_true_iff];refine ⟨b1,b2,b3,b4,b5,b6,b7,b8,b9,d1,d2,d3,d4,fun c hc=>?_⟩;obtain ⟨j,hj,rfl⟩:=List.getElem_of_mem hc;exact h j _ (List.getElem?_eq_getElem hj))
 have HF:Hid (¬ ((Pn.gO k=false→ch=0)∧(Pn.gP k=false→v=0)∧(k≠1→n=0)∧(k≠9→cs=[]∧cT=false))→false=q):=Lib.hid (fun hn=>by
  rw [← HQ.out,eq_comm];unfold Pn.dO;rw [decide_eq_false_iff_not];rintro ⟨h1,h2,h3,h4,h5,h6,h7,h8,h9,jX,jD,jh,iE,_⟩;exact hn ⟨jX,jD,jh,iE⟩)
 have q1:(k != 1)=true:=by simp;omega
 have q9:(k != 9)=true:=by simp;omega
 have eu:Hid (Pn.gO k=true∧Pn.gP k=true):=Lib.hid (by constructor <;> simp [Pn.gO,Pn.gP] <;> omega)
 by_cases bZ:n=0∧cT=false∧cs.length=0
 ·obtain ⟨e0,e1,e2⟩:=bZ;subst e0 e1;have e9:cs.length≤0:=by omega
  have pE:=Lib.hid (HS.out (fun h=>by rw [eu.out.1] at h;cases h) (fun h=>by rw [eu.out.2] at h;cases h) (fun _=>rfl) (fun _=>⟨List.eq_nil_of_length_eq_zero (by omega),rfl⟩));clear HS HF
  try clear e3
  try clear e2
  go_enter Tryz.func82,Tryz.ntmps82
  go_wp2_with fail
  refine (oB _ _).mono ?_
  rintro e w3 ⟨rfl,rfl⟩
  rw [eu.out.1]
  go_wp2_with (go_at_call 97;refine (oC _ _).mono ?_;rintro e w4 ⟨rfl,rfl⟩;rw [eu.out.2])
  go_loopw [97] (fun u wr=>∃ j:Nat,j≤cs.length∧u=.int .i64 j∧Hid (aP [] w wr∧∀ (i:Nat) (c:Pn.Cs),i < j→cs[i]?=some c→Pn.iN c=true)) (fun u _=>cs.length - (intOf u).toNat)
  case atStart=>exact ⟨0,Nat.zero_le _,rfl,Lib.hid ⟨KA.out,fun i c hi=>by omega⟩⟩
  case round =>
   obtain ⟨j,hj,rfl,HI⟩:=hrel;obtain ⟨wo,rfl⟩:∃ wo:World,wo=wr:=⟨_,rfl⟩
   obtain rfl:j=cs.length:=by omega
   have HN:Hid (true=q):=Lib.hid (pE.out fun i c hc=>HI.out.2 i c (List.getElem?_eq_some_iff.1 hc).1 hc)
   go_wp2_with fail
   go_ret
   exact ⟨gK HN.out,HI.out.1⟩
 ·have HN:Hid (false=q):=Lib.hid (HF.out (by rintro ⟨d1,d2,d3,d4⟩;have q1:=eu.out.1;have q2:=eu.out.2;exact bZ ⟨d3 (by omega),(d4 (by omega)).2,by simp [(d4 (by omega)).1]⟩));have HC:Hid (n=0→cT=false→cs.length=0→False):=Lib.hid (fun e0 e1 e2=>bZ ⟨e0,e1,e2⟩);clear bZ
  go_enter Tryz.func82,Tryz.ntmps82
  go_wp2_with fail
  refine (oB _ _).mono ?_
  rintro e w3 ⟨rfl,rfl⟩
  rw [eu.out.1]
  go_upto_if 93 with (go_at_call 97;refine (oC _ _).mono ?_;rintro e w4 ⟨rfl,rfl⟩;rw [eu.out.2])
  all_goals
   go_wp2_with fail
   all_goals
    first
     | (exfalso;refine HC.out ?_ ?_ ?_ <;> (first | assumption | omega | (simpa using ‹¬cT=true›));done)
     | (go_ret;exact ⟨gK HN.out,(aP.refl [] w).alloc _⟩)
open Go.RowKit
namespace Pn
theorem Jq {o:Op} {j:Nat} {c:Cs} (h:o.cases[j]?=some c) (hc:iN c=false):dO o=false:=Jm h (by rw [CV];exact hc)
end Pn
set_option maxRecDepth 100000 in
set_option maxHeartbeats 3200000 in
theorem Jr (w:World) (o:Pn.Op) (va:Value) (SA:List Nat) (ha:GV jG 3 w va o.cases SA) (hb:1≤o.kind∧o.kind≤9∧0≤o.ch∧o.ch≤8∧0≤o.n∧o.n≤4∧0≤o.v∧o.v≤255∧o.cases.length≤6) (hk:o.kind=9) :
  Calls Tryz.prog 82 #[.agg #[.int .i64 o.kind,.int .i64 o.ch,.int .i64 o.n,.int .i64 o.v,va,.bool o.cT]] w fun e w'=>e=.returned (.bool (Pn.dO o))∧aP [] w w':=by
 have m9:=ha.le;unfold maxLen at m9;obtain ⟨ao,cap,rfl⟩:=ha.shape;have HA:=Lib.hid ha;obtain ⟨q,fR⟩:∃ q,Pn.dO o=q:=⟨_,rfl⟩
 rw [fR];have HQ:=Lib.hid fR;have KA:Hid (aP [] w (w.alloc (.cells #[.int .i64 o.kind,.int .i64 o.ch,.int .i64 o.n,.int .i64 o.v,.slice ao o.cases.length cap,.bool o.cT] 58))):=Lib.hid ((aP.refl [] w).alloc _);clear ha fR;obtain ⟨b1,b2,b3,b4,b5,b6,b7,b8,b9⟩:=hb;obtain ⟨k,ch,n,v,cs,cT⟩:=o;simp only at *;have HS:Hid ((Pn.gO k=false→ch=0)→(Pn.gP k=false→v=0)→(k≠1→n=0)→(k≠9→cs=[]∧cT=false)→(∀ (j:Nat) (c:Pn.Cs),cs[j]?=some c→Pn.iN c=true)→true=q):=Lib.hid (fun d1 d2 d3 d4 h=>by
  rw [← HQ.out,eq_comm];unfold Pn.dO;rw [decide_eq_true_iff];refine ⟨b1,b2,b3,b4,b5,b6,b7,b8,b9,d1,d2,d3,d4,fun c hc=>?_⟩;obtain ⟨j,hj,rfl⟩:=List.getElem_of_mem hc;exact h j _ (List.getElem?_eq_getElem hj))
 have HF:Hid (¬ ((Pn.gO k=false→ch=0)∧(Pn.gP k=false→v=0)∧(k≠1→n=0)∧(k≠9→cs=[]∧cT=false))→false=q):=Lib.hid (fun hn=>by
  rw [← HQ.out,eq_comm];unfold Pn.dO;rw [decide_eq_false_iff_not];rintro ⟨h1,h2,h3,h4,h5,h6,h7,h8,h9,jX,jD,jh,iE,_⟩;exact hn ⟨jX,jD,jh,iE⟩)
 subst hk;have eu:Hid (Pn.gO 9=false∧Pn.gP 9=false):=Lib.hid (by constructor <;> simp [Pn.gO,Pn.gP] <;> omega)
 by_cases bZ:ch=0∧v=0∧n=0
 ·obtain ⟨e0,e1,e2⟩:=bZ;subst e0 e1 e2;have pE:=Lib.hid (HS.out (fun _=>rfl) (fun _=>rfl) (fun _=>rfl) (fun h=>absurd rfl h));clear HS HF
  try clear e3
  try clear e2
  go_enter Tryz.func82,Tryz.ntmps82
  go_wp2_with fail
  refine (oB _ _).mono ?_
  rintro e w3 ⟨rfl,rfl⟩
  rw [eu.out.1]
  go_wp2_with (go_at_call 97;refine (oC _ _).mono ?_;rintro e w4 ⟨rfl,rfl⟩;rw [eu.out.2])
  go_loopw [97] (fun u wr=>∃ j:Nat,j≤cs.length∧u=.int .i64 j∧Hid (aP [] w wr∧∀ (i:Nat) (c:Pn.Cs),i < j→cs[i]?=some c→Pn.iN c=true)) (fun u _=>cs.length - (intOf u).toNat)
  case atStart=>exact ⟨0,Nat.zero_le _,rfl,Lib.hid ⟨KA.out,fun i c hi=>by omega⟩⟩
  case round =>
   obtain ⟨j,hj,rfl,HI⟩:=hrel;obtain ⟨wo,rfl⟩:∃ wo:World,wo=wr:=⟨_,rfl⟩
   by_cases gq:j < cs.length
   ·obtain ⟨x,hx⟩:∃ x,cs[j]?=some x:=⟨_,List.getElem?_eq_getElem gq⟩
    obtain ⟨g1,Js,rfl,_,iP,a0,a1,a2⟩:=(HA.out.then tT HI.out.1).case hx;have HX:=Lib.hid hx;clear hx;obtain ⟨xs,xc,xv⟩:=x;simp only at a0 a1 a2;have KR:Hid (aP [] w (wo.alloc (.cells #[.bool xs,.int .i64 xc,.int .i64 xv] 165))):=Lib.hid (HI.out.1.alloc _)
    by_cases hr:0≤xc∧xc≤8∧0≤xv∧xv≤255∧(xs=false→xv=0)
    ·have HO:Hid (Pn.iN ⟨xs,xc,xv⟩=true):=Lib.hid (by unfold Pn.iN;rw [decide_eq_true_iff];exact hr);obtain ⟨e1,e2,e3,e4,e5⟩:=hr
     cases xs with
     | true =>
      clear e5
      go_wp2_with fail
      go_roundw
      case rel=>exact ⟨j + 1,by omega,by go_num,Lib.hid ⟨KR.out,fun i c hi hc=>by
       by_cases e:i=j
       ·subst e;rw [HX.out] at hc;cases hc;exact HO.out
       ·exact HI.out.2 i c (by omega) hc⟩⟩
      case measure=>simp [intOf];omega
     | false =>
      have e6:=e5 rfl;subst e6;clear e5
      go_wp2_with fail
      go_roundw
      case rel=>exact ⟨j + 1,by omega,by go_num,Lib.hid ⟨KR.out,fun i c hi hc=>by
       by_cases e:i=j
       ·subst e;rw [HX.out] at hc;cases hc;exact HO.out
       ·exact HI.out.2 i c (by omega) hc⟩⟩
      case measure=>simp [intOf];omega
    ·have HN:Hid (false=q):=Lib.hid (by rw [← HQ.out,Pn.Jq HX.out (by unfold Pn.iN;rw [decide_eq_false_iff_not];exact hr)]);have HR:=Lib.hid hr;clear hr
     cases xs with
     | true =>
      have yX:Hid (0≤xc→xc≤8→0≤xv→xv≤255→False):=Lib.hid (fun a b c d=>HR.out ⟨a,b,c,d,fun h=>by cases h⟩);clear HR
      go_upto_if 128 with fail
      all_goals
       go_wp2_with fail
       all_goals
        first
         | (exfalso;refine yX.out ?_ ?_ ?_ ?_ <;> omega)
         | (go_ret;exact ⟨gK HN.out,HI.out.1.alloc _⟩)
     | false =>
      have yX:Hid (0≤xc→xc≤8→0≤xv→xv≤255→xv≠0):=Lib.hid (fun a b c d e=>HR.out ⟨a,b,c,d,fun _=>e⟩);clear HR
      go_upto_if 128 with fail
      all_goals
       go_wp2_with fail
       all_goals
        first
         | (exfalso;refine yX.out ?_ ?_ ?_ ?_ ?_ <;> (first | omega | (have h:=(show ((((0≤xc∧xc≤8)∧0≤xv)∧xv≤255)∧(xv != 0)=false) by assumption).2;simpa using h)))
         | (go_ret;exact ⟨gK HN.out,HI.out.1.alloc _⟩)
   ·obtain rfl:j=cs.length:=by omega
    have HN:Hid (true=q):=Lib.hid (pE.out fun i c hc=>HI.out.2 i c (List.getElem?_eq_some_iff.1 hc).1 hc)
    go_wp2_with fail
    go_ret
    exact ⟨gK HN.out,HI.out.1⟩
 ·have HN:Hid (false=q):=Lib.hid (HF.out (by rintro ⟨d1,d2,d3,d4⟩;have q1:=eu.out.1;have q2:=eu.out.2;exact bZ ⟨d1 q1,d2 q2,d3 (by omega)⟩));have HC:Hid (ch=0→v=0→n=0→False):=Lib.hid (fun e0 e1 e2=>bZ ⟨e0,e1,e2⟩);clear bZ
  go_enter Tryz.func82,Tryz.ntmps82
  go_wp2_with fail
  refine (oB _ _).mono ?_
  rintro e w3 ⟨rfl,rfl⟩
  rw [eu.out.1]
  go_upto_if 93 with (go_at_call 97;refine (oC _ _).mono ?_;rintro e w4 ⟨rfl,rfl⟩;rw [eu.out.2])
  all_goals
   go_wp2_with fail
   all_goals
    first
     | (exfalso;refine HC.out ?_ ?_ ?_ <;> (first | assumption | omega | (simpa using ‹¬cT=true›));done)
     | (go_ret;exact ⟨gK HN.out,(aP.refl [] w).alloc _⟩)
end Go.Proofs.YtgjpdogjekmemaaGreat
