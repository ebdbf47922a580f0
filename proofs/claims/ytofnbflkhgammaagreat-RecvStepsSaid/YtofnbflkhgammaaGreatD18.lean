/-
  What the laws need, part D18.
  Conditions: none.
-/
import Derived.Test.YtofnbflkhgammaaGreatD17
set_option linter.unusedVariables false
set_option linter.unusedSimpArgs false
set_option linter.unnecessarySimpa false
set_option maxHeartbeats 2000000
namespace Go.Proofs.YtofnbflkhgammaaGreat
namespace Sx
variable {s t:ah} {g:Nat} {nc ns n:Int}
theorem xz {l:List Int} (h:l.length≠0):l.headD 0∈l:=by
 cases l with
 | nil=>simp at h
 | cons a l=>simp
theorem MM {l:List Int} {r v:Int} (h:(fo l r v).2=true):((fo l r v).1.length:Int)≤r:=by
 unfold fo at h ⊢
 split at h
 ·cases h
 ·rename_i c;rw [if_neg c];simp;omega
theorem MN {l:List Int}:(gN l).1.length≤l.length:=by
 unfold gN;split <;> simp
theorem MInv.bu (h:MInv s) (hg:g < s.gs.length) (st:(aa s g).status=0):MInv (bu s g).1:=by
 unfold Sx.bu;simp only
 by_cases k:(ag s g).kind≠2∧(ag s g).kind≠4
 ·rw [if_pos k];exact h
 rw [if_neg k];have k2:2≤(ag s g).kind∧(ag s g).kind≤5:=by omega
 by_cases hc:(Sx.common s g).2=true
 ·rw [if_pos hc];exact h.common hg st (.inl (by omega))
 rw [if_neg hc]
 by_cases hm:Sx.aN s (ag s g).ch=false
 ·rw [if_pos hm];exact h
 rw [if_neg hm];have mP:=oG.1 (show Sx.aN s (ag s g).ch=true by simpa using hm)
 by_cases e1:(aa s g).place=1
 ·rw [if_pos e1]
  split
  ·exact h.iJ hg st (by omega) (by omega) (x:={ aa s g with place:=4 }) rfl rfl rfl rfl rfl rfl (by show bF _ 4;unfold bF;omega) (by simp) (by rw [e1];unfold hP;simp)
  ·have pl:=((h.loc hg).pl.resolve_left (by omega)).2;have hk:(aG (aa s g)).kind=(ag s g).kind:=rfl;rw [hk,e1] at pl;exact h.iJ hg st (by omega) (by omega) (x:={ aa s g with bQ:=s.step,res:=(aa s g).res,place:=2 }) rfl rfl rfl rfl rfl rfl (by show bF _ 2;unfold bF at pl ⊢;omega) (by simp) (by rw [e1];unfold hP;simp)
 rw [if_neg e1]
 by_cases e2:(aa s g).place=2
 ·rw [if_pos e2]
  split
  ·exact h.iJ hg st (by omega) (by omega) (x:={ aa s g with bQ:=0,place:=4 }) rfl rfl rfl rfl rfl rfl (by show bF _ 4;unfold bF;omega) (by simp) (by rw [e2];unfold hP;simp)
  ·exact h.iJ hg st (by omega) (by omega) (x:={ aa s g with res:={ (aa s g).res with code:=2 },place:=18 }) rfl rfl rfl rfl rfl rfl (.inl rfl) (by simp) (by rw [e2];unfold hP;simp)
 rw [if_neg e2]
 by_cases e5:(aa s g).place=5
 ·rw [if_pos e5]
  split
  ·exact h.iJ hg st (by omega) (by omega) (x:={ aa s g with bQ:=s.step,res:=res 3,place:=16 }) rfl rfl rfl rfl rfl rfl (by show bF _ 16;unfold bF;omega) (by simp) (by rw [e5];unfold hP;simp)
  ·exact h.iJ hg st (by omega) (by omega) (x:={ aa s g with place:=6 }) rfl rfl rfl rfl rfl rfl (by show bF _ 6;unfold bF;omega) (by simp) (by rw [e5];unfold hP;simp)
 rw [if_neg e5]
 by_cases e6:(aa s g).place=6
 ·rw [if_pos e6]
  split
  ·exact h.iJ hg st (by omega) (by omega) (x:={ aa s g with place:=9 }) rfl rfl rfl rfl rfl rfl (by show bF _ 9;unfold bF;omega) (by simp) (by rw [e6];unfold hP;simp)
  ·rename_i hl;exact h.s6 hg st k2 e6 (.inl (xz hl))
 rw [if_neg e6]
 by_cases e7:(aa s g).place=7
 ·rw [if_pos e7];exact h.s7 hg st k2 e7
 rw [if_neg e7]
 by_cases e8:(aa s g).place=8
 ·rw [if_pos e8];exact h.VS hg st k2 e8 _
 rw [if_neg e8]
 by_cases e9:(aa s g).place=9
 ·rw [if_pos e9]
  split
  ·rename_i hp;exact h.s9 hg st k2 e9 (MM hp) _
  split
  ·exact h.iJ hg st (by omega) (by omega) (x:={ aa s g with bQ:=s.step,res:=res 2,place:=16 }) rfl rfl rfl rfl rfl rfl (by show bF _ 16;unfold bF;omega) (by simp) (by rw [e9];unfold hP;simp)
  ·exact h.iJ hg st (by omega) (by omega) (x:={ aa s g with place:=10 }) rfl rfl rfl rfl rfl rfl (by show bF _ 10;unfold bF;omega) (by simp) (by rw [e9];unfold hP;simp)
 rw [if_neg e9];have hk:(aG (aa s g)).kind=(ag s g).kind:=rfl
 by_cases nJ:(aa s g).place=10
 ·rw [if_pos nJ];have pl:=((h.loc hg).pl.resolve_left (by omega)).2;rw [hk,nJ] at pl;have k3:(ag s g).kind=2:=by unfold bF at pl;omega
  exact h.pI hg st (.inl k3) nJ ⟨rfl,rfl,rfl,by simp [k3]⟩
 rw [if_neg nJ]
 by_cases nK:(aa s g).place=11
 ·rw [if_pos nK];have pl:=((h.loc hg).pl.resolve_left (by omega)).2;rw [hk,nK] at pl;have k3:(ag s g).kind=2:=by unfold bF at pl;omega
  exact h.tT hg st (.inl k3) nK rfl rfl rfl (by rw [if_pos k3]) (by rw [if_pos k3])
 rw [if_neg nK]
 by_cases jP:(aa s g).place=14
 ·rw [if_pos jP];have pl:=((h.loc hg).pl.resolve_left (by omega)).2;rw [hk,jP] at pl;have k3:(ag s g).kind=2:=by unfold bF at pl;omega
  exact h.ML hg st (.inl k3) jP _
 rw [if_neg jP];exact h
theorem MInv.bR (h:MInv s) (hg:g < s.gs.length) (st:(aa s g).status=0):MInv (bR s g).1:=by
 unfold Sx.bR;simp only
 by_cases k:(ag s g).kind≠3∧(ag s g).kind≠5
 ·rw [if_pos k];exact h
 rw [if_neg k];have k2:2≤(ag s g).kind∧(ag s g).kind≤5:=by omega
 by_cases hc:(Sx.common s g).2=true
 ·rw [if_pos hc];exact h.common hg st (.inl (by omega))
 rw [if_neg hc]
 by_cases hm:Sx.aN s (ag s g).ch=false
 ·rw [if_pos hm];exact h
 rw [if_neg hm];have mP:=oG.1 (show Sx.aN s (ag s g).ch=true by simpa using hm);have hk:(aG (aa s g)).kind=(ag s g).kind:=rfl
 by_cases e1:(aa s g).place=1
 ·rw [if_pos e1]
  split
  ·exact h.iJ hg st (by omega) (by omega) (x:={ aa s g with place:=4 }) rfl rfl rfl rfl rfl rfl (by show bF _ 4;unfold bF;omega) (by simp) (by rw [e1];unfold hP;simp)
  ·have pl:=((h.loc hg).pl.resolve_left (by omega)).2;rw [hk,e1] at pl;exact h.iJ hg st (by omega) (by omega) (x:={ aa s g with bQ:=s.step,res:=(aa s g).res,place:=2 }) rfl rfl rfl rfl rfl rfl (by show bF _ 2;unfold bF at pl ⊢;omega) (by simp) (by rw [e1];unfold hP;simp)
 rw [if_neg e1]
 by_cases e2:(aa s g).place=2
 ·rw [if_pos e2];have pl:=((h.loc hg).pl.resolve_left (by omega)).2;rw [hk,e2] at pl
  split
  ·exact h.iJ hg st (by omega) (by omega) (x:={ aa s g with place:=3 }) rfl rfl rfl rfl rfl rfl (by show bF _ 3;unfold bF at pl ⊢;omega) (by simp) (by rw [e2];unfold hP;simp)
  ·exact h.iJ hg st (by omega) (by omega) (x:={ aa s g with res:={ (aa s g).res with code:=2 },place:=18 }) rfl rfl rfl rfl rfl rfl (.inl rfl) (by simp) (by rw [e2];unfold hP;simp)
 rw [if_neg e2]
 by_cases e3:(aa s g).place=3
 ·rw [if_pos e3]
  split
  ·exact h.iJ hg st (by omega) (by omega) (x:={ aa s g with bQ:=0,place:=4 }) rfl rfl rfl rfl rfl rfl (by show bF _ 4;unfold bF;omega) (by simp) (by rw [e3];unfold hP;simp)
  ·exact h.iJ hg st (by omega) (by omega) (x:={ aa s g with bQ:=s.step,res:=eJ 0 false,place:=18 }) rfl rfl rfl rfl rfl rfl (.inl rfl) (by simp) (by rw [e3];unfold hP;simp)
 rw [if_neg e3]
 by_cases e5:(aa s g).place=5
 ·rw [if_pos e5]
  split
  ·exact h.iJ hg st (by omega) (by omega) (x:={ aa s g with bQ:=s.step,res:=eJ 0 false,place:=16 }) rfl rfl rfl rfl rfl rfl (by show bF _ 16;unfold bF;omega) (by simp) (by rw [e5];unfold hP;simp)
  split
  ·exact h.iJ hg st (by omega) (by omega) (x:={ aa s g with place:=9 }) rfl rfl rfl rfl rfl rfl (by show bF _ 9;unfold bF;omega) (by simp) (by rw [e5];unfold hP;simp)
  ·exact h.iJ hg st (by omega) (by omega) (x:={ aa s g with place:=6 }) rfl rfl rfl rfl rfl rfl (by show bF _ 6;unfold bF;omega) (by simp) (by rw [e5];unfold hP;simp)
 rw [if_neg e5]
 by_cases e6:(aa s g).place=6
 ·rw [if_pos e6]
  split
  ·exact h.iJ hg st (by omega) (by omega) (x:={ aa s g with place:=9 }) rfl rfl rfl rfl rfl rfl (by show bF _ 9;unfold bF;omega) (by simp) (by rw [e6];unfold hP;simp)
  ·rename_i hl;exact h.s6 hg st k2 e6 (.inr (xz hl))
 rw [if_neg e6]
 by_cases e7:(aa s g).place=7
 ·rw [if_pos e7];exact h.s7 hg st k2 e7
 rw [if_neg e7]
 by_cases e8:(aa s g).place=8
 ·rw [if_pos e8];exact h.VT hg st k2 e8
 rw [if_neg e8]
 by_cases e9:(aa s g).place=9
 ·rw [if_pos e9]
  split
  ·have hc:=h.gE mP.1 mP.2;exact h.s9 hg st k2 e9 (by have:=MN (l:=(cn s (ag s g).ch).buf);omega) _
  split
  ·exact h.iJ hg st (by omega) (by omega) (x:={ aa s g with bQ:=s.step,res:=res 2,place:=16 }) rfl rfl rfl rfl rfl rfl (by show bF _ 16;unfold bF;omega) (by simp) (by rw [e9];unfold hP;simp)
  ·exact h.iJ hg st (by omega) (by omega) (x:={ aa s g with place:=10 }) rfl rfl rfl rfl rfl rfl (by show bF _ 10;unfold bF;omega) (by simp) (by rw [e9];unfold hP;simp)
 rw [if_neg e9]
 by_cases nJ:(aa s g).place=10
 ·rw [if_pos nJ];have pl:=((h.loc hg).pl.resolve_left (by omega)).2;rw [hk,nJ] at pl;have k3:(ag s g).kind=3:=by unfold bF at pl;omega
  exact h.pI hg st (.inr k3) nJ ⟨rfl,rfl,rfl,by simp [k3]⟩
 rw [if_neg nJ]
 by_cases nK:(aa s g).place=11
 ·rw [if_pos nK];have pl:=((h.loc hg).pl.resolve_left (by omega)).2;rw [hk,nK] at pl;have k3:(ag s g).kind=3:=by unfold bF at pl;omega
  exact h.tT hg st (.inr k3) nK rfl rfl rfl (by rw [if_neg (by omega)]) (by rw [if_neg (by omega)])
 rw [if_neg nK]
 by_cases jP:(aa s g).place=14
 ·rw [if_pos jP];have pl:=((h.loc hg).pl.resolve_left (by omega)).2;rw [hk,jP] at pl;have k3:(ag s g).kind=3:=by unfold bF at pl;omega
  exact h.ML hg st (.inr k3) jP _
 rw [if_neg jP];exact h
end Sx
namespace Sx
variable {s t:ah} {g:Nat} {nc ns n:Int}
theorem MO {s:ah} {g o:Nat} {i c:Int} (hg:g < s.gs.length) (ho:o < s.gs.length) (hi:(aa s g).hold=i) (so:(su s i).g=o) (sc:(su s i).ch=c) (c0:1≤c) (c1:c≤s.au.length) (bO:o≠g) :
  ji s g=ai (aR (ai (aE s c (cu (cn s c) i)) o { aa s o with bQ:=s.step,dL:=(su s i).cs,param:=i }) i { su s i with done:=false }) g { aa s g with t:=s.step,an:=(aa s g).an ++ [(o:Int)],hold:=-1 }:=by
 subst hi;have e1:bq (ai s g { aa s g with t:=s.step }) (aa s g).hold=aE (ai s g { aa s g with t:=s.step }) c (cu (cn s c) (aa s g).hold):=drop_eq (s:=ai s g { aa s g with t:=s.step }) sc c0 c1;have e0:∀ s1,bq (ai s g { aa s g with t:=s.step }) (aa s g).hold=s1→ji s g=serve (ai s1 (su s1 (aa s g).hold).g.toNat { aa s1 (su s1 (aa s g).hold).g.toNat with bQ:=(aa s1 g).t,dL:=(su s1 (aa s g).hold).cs }) g (aa s g).hold false:=fun s1 h=>by subst h;rfl
 rw [e0 _ e1];generalize (aa s g).hold=i at *;have l1:∀ x,(aE (ai s g x) c (cu (cn s c) i)).gs.length=s.gs.length:=fun x=>by show (ai s g x).gs.length=_;rw [iB]
 have es:∀ x,su (aE (ai s g x) c (cu (cn s c) i)) i=su s i:=fun _=>rfl
 have g1:∀ x,aa (aE (ai s g x) c (cu (cn s c) i)) g=x:=fun x=>by rw [B9,iQ hg,if_pos rfl]
 have g2:∀ x,aa (aE (ai s g x) c (cu (cn s c) i)) o=aa s o:=fun x=>by rw [B9,iQ hg,if_neg bO]
 rw [es,so,Int.toNat_natCast,g1,g2];rw [zS (o:=o) (by rw [iB,l1];exact hg) (by rw [iB,l1];exact ho) (by show (su s i).g=o;exact so) bO];have g3:∀ x y,aa (ai (aE (ai s g x) c (cu (cn s c) i)) o y) o=y:=fun x y=>by rw [iQ (by rw [l1];exact ho),if_pos rfl]
 have g4:∀ x y,aa (ai (aE (ai s g x) c (cu (cn s c) i)) o y) g=x:=fun x y=>by rw [iQ (by rw [l1];exact ho),if_neg (by omega),g1]
 rw [g3,g4];unfold ai aR aE;simp only [List.set_set];rw [Cf bO];rfl
theorem MInv.MP (h:MInv s) (hg:g < s.gs.length) (st:(aa s g).status=0) (k:(ag s g).kind=6) (e:(aa s g).place=22∨(aa s g).place=23) {o:Nat} {i c:Int} {x y:Gr} (q:xu s g c i o) (c0:1≤c) (c1:c≤s.au.length) (hq:i∈(cn s c).recv∨i∈(cn s c).send) (bO:o≠g) (hh:bE (aa s g) c)
  (hp:(su s i).cs < 0∨0≤(su s i).cs∧(aa s o).bz=false∧y.bz=true) (py:Part (aa s o) y) (e1:y.param=i) (e2:y.token=(aa s o).token) (e3:y.status=(aa s o).status) (e4:(aa s o).bz=true→y.bz=true)
  (h1:x.ops=(aa s g).ops) (h2:x.at_=(aa s g).at_) (h3:x.status=(aa s g).status) (h4:x.token=(aa s g).token) (h5:x.param=(aa s g).param) (h6:x.an=(aa s g).an ++ [(o:Int)]) (h7:x.place=22) {d:Su}
  (hd:d.g=(su s i).g∧d.ch=(su s i).ch∧d.cs=(su s i).cs∧d.send=(su s i).send∧d.live=(su s i).live) :
  MInv (ai (aR (ai (aE s c (cu (cn s c) i)) o y) i d) g x):=by
 have hk:(aG (aa s g)).kind=(ag s g).kind:=rfl;have L:=h.loc hg;have G:gU (aa s g) { x with an:=(aa s g).an }:=by
  refine ⟨h1,h2,h3,h4,h5,rfl,by unfold SE;omega,st,by omega,by omega,by simp only;omega,?_,?_,?_,?_⟩
  ·show bF _ x.place;rw [h7];unfold bF;omega
  ·refine ⟨?_,?_,?_,?_⟩ <;> simp only <;> omega
  ·simp only;omega
  ·simp only;exact .inr (.inr (.inr (.inl h7)))
 have MQ:Wt (aa s o)∧(aa s o).param=-1:=by
  have Lo:=h.loc q.o1;rcases hp with hp | hp
  ·rcases q.q with w | w
   ·exact ⟨.inl ⟨w.1,w.2.1,w.2.2.1⟩,w.2.2.2.2⟩
   ·rcases q.mt with m | m
    ·exact absurd w.1 m.1.ne
    ·omega
  ·have jN:SE (aa s o):=by
    rcases q.mt with m | m
    ·omega
    ·exact m.1
   refine ⟨?_,?_⟩
   ·have:=Inv.Mp h.v c0 c1 hq (g:=g) (by omega) (by omega) (by rw [fC];exact hh) (by rw [q.g_];omega);rw [q.g_,fC] at this;rcases this with w | w
    ·exact w
    ·rw [hp.2.1] at w;exact absurd w.2.2 (by simp)
   ·by_cases z:0≤(aa s o).param
    ·have:=Lo.p3 z jN;rw [hp.2.1] at this;cases this
    ·have:=Lo.p0;omega
 have Gn:(o:Int)∉(aa s g).an:=by
  intro w;have:=Inv.wk h.v g (by omega) (by omega) o (by rw [fC];exact w);rw [fC] at this;omega
 have G1:=G.loc L (by simp only;omega);have Cd:=L.w3;have lx:Loc s.au.length s.aC.length s.gs.length x:=by
  have:=G1.Gl (l:=(aa s g).an ++ [(o:Int)]) (.inr (.inr (.inl h7))) (fun p hp=>by
   rcases List.mem_append.1 hp with w | w
   ·exact Cd p w
   ·have:=List.mem_singleton.1 w;have:=q.o1;omega) (List.nodup_append.2 ⟨L.w4,by simp,fun a ha b hb=>by rw [List.mem_singleton.1 hb];exact fun z=>Gn (z ▸ ha)⟩) (by simp)
  rw [← h6] at this;exact this
 have zU:∀ i,¬ Own x i:=by
  have ho:aG x=aG (aa s g):=by unfold aG;rw [h1,h2]
  rintro i ⟨_,w | w⟩
  ·have:=w.2.2.1;omega
  ·have:=w.1;unfold SE at this;rw [ho] at this;omega
 have nQ:∀ ch,bE x ch↔bE (aa s g) ch:=by
  intro ch;have:=G.hh (by show hP _↔hP x.place;rw [h7];unfold hP;omega) ch;exact this
 refine h.Gh hg c0 c1 lx ⟨.inl ⟨rfl,nQ⟩,h.gE c0 c1,⟨jA,jA⟩,.inr hh⟩ (fun i=>⟨fun w=>absurd w (zU i),fun w=>absurd w (G.own i).1⟩) (fun i d w=>absurd w (zU i)) G.nq (by unfold cI;omega) (by unfold cX;omega) (fun z hz=>?_) G.nw q.ch q.g_ q.o1 bO MQ.1 MQ.2 q.own (fun w=>?_) ⟨oI,oI⟩ ?_ py e1 e2 e3 h2 hd
 ·rw [h6] at hz;rcases List.mem_append.1 hz with w | w
  ·exact .inl w
  ·exact .inr (List.mem_singleton.1 w)
 ·rcases hp with hp | hp
  ·rcases q.mt with m | m
   ·exact absurd w m.1.ne
   ·omega
  ·exact hp.2.2
 ·intro k a b cl ek;have:=Inv.cl h.v k (by omega) (by omega);rw [fC] at this;obtain ⟨s1,s2,s3,s4,s5,s6,s7,s8,s9,pI,tT⟩:=this cl;rw [ek,fC] at s7 s8 s9 pI tT;rcases hp with hp | hp
  ·rcases q.mt with m | m
   ·have k1:=tT m.1;have e5:(aa s k).hold=i:=by
     have m1:=s9.2;have m2:=q.own.2;rcases m1 with m1 | m1
     ·rcases m2 with m2 | m2
      ·exact m1.2.2.2.symm.trans m2.2.2.2
      ·exact absurd m2.1 m.1.ne
     ·exact absurd m1.1 m.1.ne
    rw [e5,q.ch] at k1;rcases hq with hq | hq
    ·exact k1.1 hq
    ·exact k1.2 hq
   ·omega
  ·have jN:SE (aa s o):=by
    rcases q.mt with m | m
    ·omega
    ·exact m.1
   have:=pI jN;rw [hp.2.1] at this;cases this
theorem MInv.drain (h:MInv s) (hg:g < s.gs.length) (st:(aa s g).status=0) (k:(ag s g).kind=6) (e:(aa s g).place=22) {i:Int} (hq:i∈(cn s (ag s g).ch).recv∨i∈(cn s (ag s g).ch).send):MInv (mE s g i):=by
 have hk:(aG (aa s g)).kind=(ag s g).kind:=rfl;obtain ⟨c0,c1⟩:=h.lZ hg (by omega) (by omega);have L:=h.loc hg;obtain ⟨o,q⟩:=h.xw (g:=g) c0 c1 hq;have hh:bE (aa s g) (ag s g).ch:=.inl ⟨by omega,by omega,rfl,by omega⟩;have G:gU (aa s g) { aa s g with hold:=i,place:=23 }:=by
  refine ⟨rfl,rfl,rfl,rfl,rfl,rfl,by unfold SE;omega,st,by omega,by omega,by simp,?_,?_,?_,?_⟩
  ·show bF _ 23;unfold bF;omega
  ·refine ⟨?_,?_,?_,?_⟩ <;> simp
  ·simp only;omega
  ·simp
 have bO:=q.ne h G.nq;unfold mE;simp only;have es:su (ai s g { aa s g with hold:=i }) i=su s i:=rfl;rw [es]
 by_cases hn:0≤(su s i).cs
 ·rw [if_pos hn,oH _ _ _ _ hg];refine h.self hg (G.sf L (fun _=>⟨q.i0,q.i1⟩) ?_ (by simp)) rfl (fun _=>?_)
  ·rw [e];unfold hP;simp
  ·simp only;rw [q.ch];exact ⟨c0,c1,.inl ⟨by show 2≤(aG (aa s g)).kind;omega,by show (aG (aa s g)).kind≤6;omega,rfl,by simp⟩,hq,hn⟩
 ·rw [if_neg hn];have l1:(ai s g { aa s g with hold:=i }).gs.length=s.gs.length:=iB;have gg:aa (ai s g { aa s g with hold:=i }) g={ aa s g with hold:=i }:=by rw [iQ hg,if_pos rfl]
  have go:aa (ai s g { aa s g with hold:=i }) o=aa s o:=by rw [iQ hg,if_neg bO]
  rw [MO (s:=ai s g { aa s g with hold:=i }) (i:=i) (by rw [l1];exact hg) (by rw [l1];exact q.o1) (by rw [gg]) q.g_ q.ch c0 c1 bO,gg,go,es];have ef:∀ y d x,ai (aR (ai (aE (ai s g { aa s g with hold:=i }) (ag s g).ch (cu (cn (ai s g { aa s g with hold:=i }) (ag s g).ch) i)) o y) i d) g x=ai (aR (ai (aE s (ag s g).ch (cu (cn s (ag s g).ch) i)) o y) i d) g x:=by
   intro y d x;unfold ai aR aE;simp only;rw [Cf bO];rfl
  rw [ef];exact h.MP hg st k (.inl e) (x:={ aa s g with t:=s.step,an:=(aa s g).an ++ [(o:Int)],hold:=-1 }) (y:={ aa s o with bQ:=s.step,dL:=(su s i).cs,param:=i }) q c0 c1 hq bO hh (.inl (by omega)) ⟨rfl,rfl,rfl,rfl,rfl,rfl,rfl,rfl,rfl,rfl,rfl⟩ rfl rfl rfl id rfl rfl rfl rfl rfl rfl e ⟨rfl,rfl,rfl,rfl,rfl⟩
theorem MInv.nY (h:MInv s) (hg:g < s.gs.length) (st:(aa s g).status=0) (k:(ag s g).kind=6) (e:(aa s g).place=23):MInv (nY s g):=by
 have hk:(aG (aa s g)).kind=(ag s g).kind:=rfl;have L:=h.loc hg;have G:gU (aa s g) { aa s g with hold:=-1,place:=22 }:=by
  refine ⟨rfl,rfl,rfl,rfl,rfl,rfl,by unfold SE;omega,st,by omega,by omega,by simp,?_,?_,?_,?_⟩
  ·show bF _ 22;unfold bF;omega
  ·refine ⟨?_,?_,?_,?_⟩ <;> simp
  ·simp only;omega
  ·simp
 obtain ⟨o,q,c0,c1,hh,hq,jC⟩:=h.Gi hg (.inr (.inl e));have bO:o≠g:=q.ne h G.nq;unfold Sx.nY;simp only [q.g_,Int.toNat_natCast]
 cases hp:(aa s o).bz with
 | true =>
  rw [if_pos rfl,drop_eq rfl c0 c1];exact h.xo hg G c0 c1 ⟨.inl ⟨rfl,G.hh (by rw [e];unfold hP;simp)⟩,h.gE c0 c1,⟨jA,jA⟩,.inr hh⟩ (by unfold cI;simp) (by simp)
 | false =>
  rw [if_neg (by simp)];have l1:(ai s o { aa s o with bz:=true }).gs.length=s.gs.length:=iB;have gg:aa (ai s o { aa s o with bz:=true }) g=aa s g:=by rw [iQ q.o1,if_neg (by omega)]
  have go:aa (ai s o { aa s o with bz:=true }) o={ aa s o with bz:=true }:=by rw [iQ q.o1,if_pos rfl]
  have es:su (ai s o { aa s o with bz:=true }) (aa s g).hold=su s (aa s g).hold:=rfl;rw [MO (s:=ai s o { aa s o with bz:=true }) (i:=(aa s g).hold) (by rw [l1];exact hg) (by rw [l1];exact q.o1) (by rw [gg]) q.g_ q.ch c0 c1 bO,gg,go,es];rw [oH _ _ _ _ (by simp only [aR,ai,aE,List.length_set];exact hg)];have ef:∀ y d x c,ai (aR (ai (aE (ai s o { aa s o with bz:=true }) c (cu (cn (ai s o { aa s o with bz:=true }) c) (aa s g).hold)) o y) (aa s g).hold d) g x=ai (aR (ai (aE s c (cu (cn s c) (aa s g).hold)) o y) (aa s g).hold d) g x:=by
   intro y d x c;unfold ai aR aE;simp only [List.set_set];rfl
  rw [ef];exact h.MP hg st k (.inr e) (x:={ aa s g with t:=s.step,an:=(aa s g).an ++ [(o:Int)],hold:=-1,place:=22 }) (y:={ aa s o with bz:=true,bQ:=s.step,dL:=(su s (aa s g).hold).cs,param:=(aa s g).hold }) q c0 c1 hq bO hh (.inr ⟨jC,hp,rfl⟩) ⟨rfl,rfl,rfl,rfl,rfl,rfl,rfl,rfl,rfl,rfl,rfl⟩ rfl rfl rfl (fun _=>rfl) rfl rfl rfl rfl rfl rfl rfl ⟨rfl,rfl,rfl,rfl,rfl⟩
theorem MInv.dU (h:MInv s) (hg:g < s.gs.length) (st:(aa s g).status=0):MInv (dU s g).1:=by
 unfold Sx.dU;simp only
 by_cases k:(ag s g).kind≠6
 ·rw [if_pos k];exact h
 rw [if_neg k];have k6:(ag s g).kind=6:=by omega
 have hk:(aG (aa s g)).kind=(ag s g).kind:=rfl
 by_cases hc:(Sx.common s g).2=true
 ·rw [if_pos hc];exact h.common hg st (.inl (by omega))
 rw [if_neg hc]
 by_cases hm:Sx.aN s (ag s g).ch=false
 ·rw [if_pos hm];exact h
 rw [if_neg hm];have mP:=oG.1 (show Sx.aN s (ag s g).ch=true by simpa using hm)
 by_cases e1:(aa s g).place=21
 ·rw [if_pos e1]
  split
  ·exact h.iJ hg st (by omega) (by omega) (x:={ aa s g with bQ:=s.step,res:=res 4,place:=16 }) rfl rfl rfl rfl rfl rfl (by show bF _ 16;unfold bF;omega) (by simp) (by rw [e1];unfold hP;simp)
  ·have hc:=h.gE mP.1 mP.2;have G:=h.Gm hg st (by omega) (by omega) (x:={ aa s g with bQ:=s.step,res:=jG,place:=22 }) rfl rfl rfl rfl rfl rfl (by show bF _ 22;unfold bF;omega) (by simp);exact h.xo hg G mP.1 mP.2 (c':={ cn s (ag s g).ch with closed:=true }) ⟨.inl ⟨rfl,G.hh (by rw [e1];unfold hP;simp)⟩,hc,⟨List.Sublist.refl _,List.Sublist.refl _⟩,.inl ⟨rfl,rfl⟩⟩ (by unfold cI;simp) (by simp)
 rw [if_neg e1]
 by_cases e2:(aa s g).place=22
 ·rw [if_pos e2]
  by_cases q1:0 < (cn s (ag s g).ch).recv.length
  ·rw [if_pos q1];exact h.drain hg st k6 e2 (.inl (xz (by omega)))
  rw [if_neg q1]
  by_cases q2:0 < (cn s (ag s g).ch).send.length
  ·rw [if_pos q2];exact h.drain hg st k6 e2 (.inr (xz (by omega)))
  rw [if_neg q2];have G:gU (aa s g) { aa s g with place:=16 }:=by
   refine ⟨rfl,rfl,rfl,rfl,rfl,rfl,by unfold SE;omega,st,by omega,by omega,by simp,?_,?_,?_,?_⟩
   ·show bF _ 16;unfold bF;omega
   ·refine ⟨?_,?_,?_,?_⟩ <;> simp
   ·simp only;omega
   ·simp
  exact h.Ms hg G (by rw [e2];unfold hP;simp) (by unfold cI;simp) (by simp)
 rw [if_neg e2]
 by_cases e3:(aa s g).place=23
 ·rw [if_pos e3];exact h.nY hg st k6 e3
 rw [if_neg e3];exact h
end Sx
namespace Sx
variable {s t:ah} {g:Nat} {nc ns n:Int}
theorem Sf.out {x y:Gr} (lx:Loc nc ns n y) (ox:∀ i,¬ Own x i) (oy:∀ i,¬ Own y i) (qx:∀ i j,¬ de x i j) (hx:∀ ch,¬ bE x ch) (hy:∀ ch,¬ bE y ch) (wx:¬ Wt x) (gD:¬ cX y) (wk:y.an=[]):Sf nc ns n x y :=
 ⟨lx,fun ch=>⟨fun w=>absurd w (hy ch),fun w=>absurd w (hx ch)⟩,fun i=>⟨fun w=>absurd w (oy i),fun w=>absurd w (ox i)⟩,fun i d w=>absurd w (oy i),fun i j w=>absurd w (qx i j),gD,fun q=>by rw [wk];simp,fun w=>absurd w.1 wx,fun w=>absurd w.1 wx⟩
def dX (p:Int):Prop:=p=0∨p=1∨p=2∨p=3∨p=4∨p=17∨p=18∨p=19∨p=20
theorem dX.own {x:Gr} (h:dX x.place) (i:Int):¬ Own x i:=by
 rintro ⟨_,w | w⟩
 ·have:=w.2.1;have:=w.2.2.1;unfold dX at h;omega
 ·have:=w.2.1;unfold dX at h;omega
theorem dX.q {x:Gr} (h:dX x.place) (i j:Int):¬ de x i j:=by
 rintro (w | w)
 ·have:=w.2.1;have:=w.2.2.1;unfold dX at h;omega
 ·have:=w.2.2.2.2;unfold dX at h;omega
theorem dX.holds {x:Gr} (h:dX x.place) (c:Int):¬ bE x c:=by
 rintro (w | w)
 ·have:=w.2.2.2;unfold dX at h;omega
 ·have:=w.2;unfold dX at h;omega
theorem dX.wt {x:Gr} (h:dX x.place):¬ Wt x:=by
 rintro (w | w)
 ·have:=w.2;unfold dX at h;omega
 ·have:=w.2;unfold dX at h;omega
theorem dX.gD {x:Gr} (h:dX x.place):¬ cX x:=by unfold cX;unfold dX at h;omega
theorem dX.nw {x:Gr} (h:dX x.place):¬ cI x:=by unfold cI;unfold dX at h;omega
theorem dX.pm {x:Gr} (h:dX x.place) (L:Loc nc ns n x):x.param=-1∧x.token=false:=by
 constructor
 ·have:=L.p0
  by_cases c:0≤x.param
  ·exact absurd (L.p2 c).1 h.wt
  ·omega
 ·cases c:x.token
  ·rfl
  ·exact absurd (L.tk c).1 h.wt
theorem Sf.outs {x y:Gr} (lx:Loc nc ns n y) (hx:dX x.place) (hy:dX y.place) (wk:y.an=[]):Sf nc ns n x y :=
 .out lx hx.own hy.own hx.q hx.holds hy.holds hx.wt hy.gD wk
theorem Loc.fresh {x y:Gr} (L:Loc nc ns n x) (h1:y.ops=x.ops) (h2:y.at_=x.at_) (lt:x.at_ < x.ops.length) (ok:bF (aG x).kind y.place) (hp:y.place=1∨y.place=4∨y.place=18∨y.place=20∨y.place=19) (hs:y.place=19∧y.status=1∨y.place≠19∧y.status=0) (ht:y.token=false) (pm:y.param=-1) (wk:y.an=[])
  (mk:y.place=1∨y.place=4→1≤(aG x).ch∧(aG x).ch≤nc) (VU:y.place=20→(aG x).kind=1∨7≤(aG x).kind) (tZ:0≤ns):Loc nc ns n y:=by
 have ho:aG y=aG x:=by unfold aG;rw [h1,h2]
 have ho':dX y.place:=by unfold dX;omega
 have gj:=L.gj
 constructor
 ·rw [h1];exact L.oE
 ·rw [h1];exact gj
 ·rw [h2];exact L.a0
 ·rw [h1,h2];exact L.a1
 ·rw [h1,h2,ho];exact .inr ⟨lt,ok⟩
 ·rw [ho];intro _ e1 e2 e3 e4
  by_cases c:y.place=20
  ·have:=VU c;omega
  ·exact mk (by omega)
 ·omega
 ·omega
 ·omega
 ·omega
 ·rw [ht];simp
 ·rw [wk];simp
 ·omega
 ·rw [wk];simp
 ·rw [wk];simp
 ·omega
 ·omega
 ·rw [pm];omega
 ·omega
 ·rw [pm];omega
 ·rw [pm];omega
 ·intro _ c;unfold dQ at c;omega
theorem MInv.jb (h:MInv s):(0:Int)≤s.aC.length:=by omega
theorem swap_perm (l:List Int) (i j:Nat) (hi:i < l.length) (hj:j < l.length):(swap l i j).Perm l:=by
 unfold swap;rw [List.getD_eq_getElem?_getD,List.getD_eq_getElem?_getD,List.getElem?_eq_getElem hi,List.getElem?_eq_getElem hj];simp only [Option.getD_some];exact List.set_set_perm hi hj
theorem Cg (ds:List Int):∀ n:Nat,(eF ds n).Perm ((List.range n).map Int.ofNat)
 | 0=>by simp [eF]
 | n + 1=>by
  have ih:=Cg ds n;have hl:(eF ds n).length=n:=by have:=ih.length_eq;simpa using this
  unfold eF;have hm:(ds.getD n 0 % ((n:Int) + 1)).toNat < n + 1:=by
   have h1:=Int.emod_nonneg (ds.getD n 0) (show ((n:Int) + 1)≠0 by omega);have h2:=Int.emod_lt_of_pos (ds.getD n 0) (show (0:Int) < (n:Int) + 1 by omega);omega
  refine (swap_perm _ _ _ (by rw [List.length_append,hl];exact hm) (by rw [List.length_append,hl];exact Nat.lt_succ_self n)).trans ?_;rw [List.range_succ,List.map_append];exact ih.append_right _
theorem VV (ds:List Int) (n:Nat) (i:Int):i∈eF ds n↔0≤i∧i < n:=by
 rw [(Cg ds n).mem_iff];simp only [List.mem_map,List.mem_range]
 constructor
 ·rintro ⟨a,h1,rfl⟩;exact ⟨by simp,by simp;omega⟩
 ·rintro ⟨h1,h2⟩;exact ⟨i.toNat,by omega,by simp;omega⟩
theorem VW (ds:List Int) (n:Nat):(eF ds n).Nodup:=by
 rw [(Cg ds n).nodup_iff];exact List.pairwise_map.2 (List.nodup_range.imp (fun h e=>h (Int.ofNat.inj e)))
theorem insert_perm (x:Int):∀ l,(insert x l).Perm (x :: l)
 | []=>List.Perm.refl _
 | y :: l=>by
  unfold insert
  split
  ·exact ((insert_perm x l).cons y).trans (List.Perm.swap x y l)
  ·exact List.Perm.refl _
theorem insert_sorted (x:Int):∀ l:List Int,l.Pairwise (·≤·)→(insert x l).Pairwise (·≤·)
 | [],_=>by simp [insert]
 | y :: l,h=>by
  unfold insert;have h2:=List.pairwise_cons.1 h
  split
  ·rename_i c;refine List.pairwise_cons.2 ⟨fun z hz=>?_,insert_sorted x l h2.2⟩;rcases List.mem_cons.1 ((insert_perm x l).mem_iff.1 hz) with w | w
   ·omega
   ·exact h2.1 z w
  ·rename_i c;refine List.pairwise_cons.2 ⟨fun z hz=>?_,h⟩;rcases List.mem_cons.1 hz with w | w
   ·omega
   ·have:=h2.1 z w;omega
theorem VX (l:List Int):∀ acc:List Int,acc.Pairwise (·≤·)→(l.foldl (fun acc x=>insert x acc) acc).Pairwise (·≤·)∧∀ x,x∈l.foldl (fun acc x=>insert x acc) acc↔x∈acc∨x∈l:=by
 induction l with
 | nil=>intro acc h;simp [h]
 | cons y l ih =>
  intro acc h;have:=ih (insert y acc) (insert_sorted y acc h);simp only [List.foldl_cons];refine ⟨this.1,fun x=>?_⟩;rw [this.2,(insert_perm y acc).mem_iff];simp only [List.mem_cons]
  grind
theorem VY (l:List Int):∀ acc:List Int,acc.Pairwise (· < ·)→(∀ x∈acc,0 < x)→l.Pairwise (·≤·)→(∀ x∈acc,∀ y∈l,x≤y)→(l.foldl iD acc).Pairwise (· < ·)∧∀ x,x∈l.foldl iD acc↔x∈acc∨x∈l∧0 < x:=by
 induction l with
 | nil=>intro acc h h0 _ _;simp [h]
 | cons y l ih =>
  intro acc h h0 hl hle;have jX:=List.pairwise_cons.1 hl;simp only [List.foldl_cons];have MR:0 < acc.length→acc.getLastD 0∈acc:=fun hp=>by
   cases acc with
   | nil=>simp at hp
   | cons a b=>simp [List.getLastD]
  unfold iD
  split
  ·rename_i c;have:=ih acc h h0 jX.2 (fun x hx z hz=>hle x hx z (List.mem_cons_of_mem _ hz));unfold iD at this;refine ⟨this.1,fun x=>?_⟩;rw [this.2];simp only [List.mem_cons]
   constructor
   ·rintro (w | w)
    ·exact .inl w
    ·exact .inr ⟨.inr w.1,w.2⟩
   ·rintro (w | ⟨w | w,w2⟩)
    ·exact .inl w
    ·subst w;rcases c with c | c
     ·omega
     ·exact .inl (c.2 ▸ MR c.1)
    ·exact .inr ⟨w,w2⟩
  ·rename_i c;have hy:0 < y:=by omega
   have ck:∀ x∈acc,x < y:=by
    intro x hx;have h1:=hle x hx y (by simp);have h2:acc.getLastD 0≠y:=fun e=>c (.inr ⟨List.length_pos_iff.2 (List.ne_nil_of_mem hx),e⟩)
    by_cases q:x=y
    ·exfalso
     subst q;have hp:0 < acc.length:=List.length_pos_iff.2 (List.ne_nil_of_mem hx);have h3:=hle _ (MR hp) x (by simp);have ha:=Po.Ei (List.ne_nil_of_mem hx);generalize acc.getLastD 0=z at *;rw [ha] at h hx;rcases List.mem_append.1 hx with w | w
     ·have:=(List.pairwise_append.1 h).2.2 x w z (List.mem_singleton.2 rfl);omega
     ·exact h2 (List.mem_singleton.1 w).symm
    ·omega
   have:=ih (acc ++ [y]) (List.pairwise_append.2 ⟨h,by simp,fun a ha b hb=>by rw [List.mem_singleton.1 hb];exact ck a ha⟩) (fun x hx=>by
    rcases List.mem_append.1 hx with w | w
    ·exact h0 x w
    ·rw [List.mem_singleton.1 w];exact hy) jX.2 (fun x hx z hz=>by
    rcases List.mem_append.1 hx with w | w
    ·exact hle x w z (List.mem_cons_of_mem _ hz)
    ·rw [List.mem_singleton.1 w];exact jX.1 z hz)
   unfold iD at this;refine ⟨this.1,fun x=>?_⟩;rw [this.2];simp only [List.mem_append,List.mem_singleton,List.mem_cons,List.not_mem_nil,or_false]
   constructor
   ·rintro ((w | w) | w)
    ·exact .inl w
    ·subst w;exact .inr ⟨.inl rfl,hy⟩
    ·exact .inr ⟨.inr w.1,w.2⟩
   ·rintro (w | ⟨w | w,w2⟩)
    ·exact .inl (.inl w)
    ·exact .inl (.inr w)
    ·exact .inr ⟨w,w2⟩
theorem Gp (l:List Int):(aF l).Pairwise (· < ·)∧∀ x,x∈aF l↔x∈l∧0 < x:=by
 have h1:=VX l [] List.Pairwise.nil;have h2:=VY (sort l) [] List.Pairwise.nil (by simp) h1.1 (by simp);refine ⟨h2.1,fun x=>?_⟩;have:=h2.2 x;unfold aF;rw [this];have h3:=h1.2 x;unfold sort;rw [h3];simp
theorem MS (s:ah) (h0:0≤s.drawn) (h1:s.drawn≤s.cG.length):∀ n,s.drawn≤(drawn s n).2∧(drawn s n).2≤s.cG.length
 | 0=>⟨Int.le_refl _,h1⟩
 | n + 1=>by
  have ih:=MS s h0 h1 n;unfold drawn draw
  split
  ·exact ih
  ·simp only;omega
end Sx
namespace Sx
variable {s t:ah} {g:Nat} {nc ns n:Int}
theorem MInv.VZ (h:MInv s) {d:Int} (d0:0≤d) (d1:d≤s.cG.length):MInv { s with drawn:=d } :=
 ⟨h.v,h.n1,h.n8,h.c8,h.sn,h.kJ,h.c1,h.tV,h.ca,h.f0,h.po,d0,d1,h.du,h.d5,h.dn⟩
theorem MInv.outs (h:MInv s) (hg:g < s.gs.length) {y:Gr} (lx:Loc s.au.length s.aC.length s.gs.length y) (hx:dX (aa s g).place) (hy:dX y.place) (wk:y.an=[]) (ha:y.at_=(aa s g).at_):MInv (ai s g y) :=
 h.self hg (.outs lx hx hy wk) ha (fun w=>absurd w hy.nw)
theorem mU {x y:Gr}:ai (ai s g x) g y=ai s g y:=by unfold ai;simp only [List.set_set]
theorem V0 (hg:g < s.gs.length) (st:(aa s g).status=0) (ht:(aa s g).token=false):never s g=ai s g { aa s g with place:=19,status:=1 }:=by
 unfold never fA aI;simp only [ja s g g _ hg,if_true,st,ht];rw [if_neg (by simp),mU]
theorem Gq (s:ah) (g:Nat) (x:Gr) (r:Md.ak) (p:Int) (hg:g < s.gs.length):bH (ai s g x) g r p=ai s g { x with bQ:=s.step,res:=r,place:=p }:=by
 unfold bH;rw [ja s g g x hg,if_pos rfl,mU];rfl
theorem MT (s:ah) (g:Nat) (x:Gr) (hg:g < s.gs.length) (st:x.status=0) (ht:x.token=false):never (ai s g x) g=ai s g { x with place:=19,status:=1 }:=by
 have e:aa (ai s g x) g=x:=by rw [ja s g g x hg,if_pos rfl]
 rw [V0 (by rw [iB];exact hg) (by rw [e];exact st) (by rw [e];exact ht),e,mU]
theorem Loc.V1 {x y:Gr} (L:Loc nc ns n x) (h1:y.ops=x.ops) (h2:y.at_=x.at_) (lt:x.at_ < x.ops.length) (k:(aG x).kind=9) (e:y.place=24) (st:y.status=0) (ht:y.token=false) (pm:y.param=-1) (wk:y.an=[]) (ek:y.k=0) (es:y.ay=[]) (er:y.res.code=0) (tZ:0≤ns)
  (o1:∀ i∈y.order,0≤i∧i < (aG x).cases.length∧bV x i∈y.aF) (o2:y.order.Nodup) (o3:1≤y.order.length) (l1:∀ c∈y.aF,1≤c∧c≤nc) (l2:y.aF.Pairwise (· < ·)) (l3:1≤y.aF.length):Loc nc ns n y:=by
 have ho:aG y=aG x:=by unfold aG;rw [h1,h2]
 have hc:∀ j,bV y j=bV x j:=fun j=>by unfold bV;rw [ho]
 have gj:=L.gj
 constructor
 ·rw [h1];exact L.oE
 ·rw [h1];exact gj
 ·rw [h2];exact L.a0
 ·rw [h1,h2];exact L.a1
 ·rw [h1,h2,ho,e];exact .inr ⟨lt,by unfold bF;omega⟩
 ·rw [ho];intro _ _ _ _ _;omega
 ·omega
 ·omega
 ·omega
 ·omega
 ·rw [ht];simp
 ·rw [wk];simp
 ·omega
 ·rw [wk];simp
 ·rw [wk];simp
 ·omega
 ·omega
 ·rw [pm];omega
 ·omega
 ·rw [pm];omega
 ·rw [pm];omega
 ·intro _ _
  constructor
  ·intro i hi;rw [ho,hc];exact o1 i hi
  ·exact o2
  ·exact o3
  ·exact l1
  ·exact l2
  ·exact l3
  ·omega
  ·omega
  ·omega
  ·omega
  ·intro _;exact es
  ·omega
  ·omega
  ·rw [es];intro j a b;simp at b;omega
  ·omega
  ·intro c;omega
  ·omega
  ·intro _;exact er
  ·omega
  ·intro c;omega
theorem MU {x:Gr} (L:Loc nc ns n x) (lt:x.at_ < x.ops.length):Pn.eU (aG x)=true:=by
 have:=L.a0;unfold aG;rw [List.getD_eq_getElem?_getD,List.getElem?_eq_getElem (by omega)];exact L.gj _ (List.getElem_mem _)
theorem Gs {o:Pn.Op} (h:Pn.eU o=true):1≤o.kind∧o.kind≤9∧0≤o.ch∧o.ch≤8∧0≤o.n∧o.n≤4∧0≤o.v∧o.v≤255∧o.cases.length≤6∧∀ c∈o.cases,Pn.kT c=true:=by
 unfold Pn.eU at h;simp only [decide_eq_true_eq] at h;exact ⟨h.1,h.2.1,h.2.2.1,h.2.2.2.1,h.2.2.2.2.1,h.2.2.2.2.2.1,h.2.2.2.2.2.2.1,h.2.2.2.2.2.2.2.1,h.2.2.2.2.2.2.2.2.1,h.2.2.2.2.2.2.2.2.2.2.2.2.2⟩
theorem MInv.kz (h:MInv s) (hg:g < s.gs.length) {x:Gr} (hx:dX (aa s g).place) (h1:x.ops=(aa s g).ops) (h2:x.at_=(aa s g).at_) (lt:x.at_ < x.ops.length) (k:(aG (aa s g)).kind=9) (st:x.status=0) (ht:x.token=false) (pm:x.param=-1) (wk:x.an=[]) (ek:x.k=0) (es:x.ay=[]) (er:x.res.code=0) (eo:x.order=[]):MInv (Sx.kz (ai s g x) g (aG (aa s g))):=by
 have L:=h.loc hg;obtain ⟨o,ho⟩:∃ o,aG (aa s g)=o:=⟨_,rfl⟩
 have hox:aG x=o:=by rw [← ho];unfold aG;rw [h1,h2]
 rw [ho] at k ⊢;unfold Sx.kz;simp only;have jK:=MS (ai s g x) h.sE h.tW o.cases.length;obtain ⟨d,hd⟩:∃ d,(drawn (ai s g x) o.cases.length).2=d:=⟨_,rfl⟩
 rw [hd] at jK ⊢;have h':MInv { s with drawn:=d }:=h.VZ (by have:=h.sE;have:(ai s g x).drawn=s.drawn:=rfl;omega) jK.2;have V2:=VV (drawn (ai s g x) o.cases.length).1 o.cases.length;have V3:=VW (drawn (ai s g x) o.cases.length).1 o.cases.length;generalize eF (drawn (ai s g x) o.cases.length).1 o.cases.length=ord at *;have em:∀ c,aN (ai s g x) c=aN s c:=fun _=>rfl
 simp only [em];have gx:aa (ai s g x) g=x:=by rw [ja s g g x hg,if_pos rfl]
 rw [gx,eo,List.nil_append];have gz:g < ({ s with drawn:=d }:ah).gs.length:=hg;obtain ⟨jI,xA⟩:∃ jI,ord.filter (fun i=>aN s (cy o i).ch)=jI:=⟨_,rfl⟩
 rw [xA];have gm:∀ i∈jI,0≤i∧i < o.cases.length∧1≤(cy o i).ch∧(cy o i).ch≤s.au.length:=by
  intro i hi;rw [← xA,List.mem_filter] at hi;have a:=(V2 i).1 hi.1;have b:=oG.1 hi.2;omega
 have gn:jI.Nodup:=by rw [← xA];exact V3.filter _
 have ls:=Gp (jI.map (fun i=>(cy o i).ch));obtain ⟨y,hy⟩:∃ y,({ x with order:=jI,aF:=aF (jI.map (fun i=>(cy o i).ch)),place:=24 }:Gr)=y:=⟨_,rfl⟩
 rw [hy];have e1:ai { ai s g x with drawn:=d } g y=ai { s with drawn:=d } g y:=by unfold ai;simp only [List.set_set]
 rw [e1];have y1:y.ops=(aa s g).ops∧y.at_=(aa s g).at_∧y.place=24∧y.status=0∧y.token=false∧y.param=-1∧y.an=[]∧y.k=0∧y.ay=[]∧y.res.code=0∧y.order=jI∧y.aF=aF (jI.map (fun i=>(cy o i).ch)):=by
  subst hy;exact ⟨h1,h2,rfl,st,ht,pm,wk,ek,es,er,rfl,rfl⟩
 have eN:∀ p:Int,bF 9 p→(p=18∨p=19)→∀ z:Gr,z.ops=y.ops→z.at_=y.at_→z.place=p→(p=19∧z.status=1∨p≠19∧z.status=0)→z.token=false→z.param=-1→z.an=[]→MInv (ai { s with drawn:=d } g z):=by
  intro p ok hp z z1 z2 z3 z4 z5 z6 z7;refine h'.outs gz (Loc.fresh L (z1.trans y1.1) (z2.trans y1.2.1) (by rw [← h1,← h2];exact lt) (by rw [ho,k,z3];exact ok) (by rw [z3];omega) (by rw [z3];exact z4) z5 z6 z7 (by rw [z3];omega) (by rw [z3];omega) h.jb) hx (by unfold dX;omega) z7 (z2.trans y1.2.1)
 split
 ·rename_i hp;have yH:∀ ch,¬ bE y ch:=by
   rintro ch (w | w)
   ·have:=w.2.1;have h3:aG y=o:=by rw [← ho];unfold aG;rw [y1.1,y1.2.1]
    rw [h3] at this;omega
   ·rcases w.2 with w | w
    ·omega
    ·rw [y1.2.2.2.2.2.2.2.1] at w;simp at w
  have yO:∀ i,¬ Own y i:=by
   rintro i ⟨_,w | w⟩
   ·have:=w.2.2.1;omega
   ·have:=w.2.1;omega
  have bO:jI≠[]:=by intro e;rw [e] at hp;simp at hp
  refine h'.self gz (Sf.out (Loc.V1 L y1.1 y1.2.1 (by rw [← h1,← h2];exact lt) (by rw [ho];exact k) y1.2.2.1 y1.2.2.2.1 y1.2.2.2.2.1 y1.2.2.2.2.2.1 y1.2.2.2.2.2.2.1 y1.2.2.2.2.2.2.2.1 y1.2.2.2.2.2.2.2.2.1 y1.2.2.2.2.2.2.2.2.2.1 h.jb ?_ ?_ ?_ ?_ ?_ ?_) hx.own yO hx.q hx.holds yH hx.wt (by unfold cX;omega) y1.2.2.2.2.2.2.1) y1.2.1 (fun w=>by unfold cI at w;omega)
  ·intro i hi;rw [y1.2.2.2.2.2.2.2.2.2.2.1] at hi;have:=gm i hi;rw [ho,y1.2.2.2.2.2.2.2.2.2.2.2];refine ⟨this.1,this.2.1,?_⟩;unfold bV;rw [ho];exact (ls.2 _).2 ⟨List.mem_map.2 ⟨i,hi,rfl⟩,by omega⟩
  ·rw [y1.2.2.2.2.2.2.2.2.2.2.1];exact gn
  ·rw [y1.2.2.2.2.2.2.2.2.2.2.1];exact List.length_pos_iff.2 bO
  ·intro c hc;rw [y1.2.2.2.2.2.2.2.2.2.2.2] at hc;obtain ⟨i,hi,rfl⟩:=List.mem_map.1 ((ls.2 c).1 hc).1;have:=gm i hi;exact ⟨this.2.2.1,this.2.2.2⟩
  ·rw [y1.2.2.2.2.2.2.2.2.2.2.2];exact ls.1
  ·rw [y1.2.2.2.2.2.2.2.2.2.2.2];obtain ⟨i,hi⟩:=List.exists_mem_of_ne_nil _ bO;have:=gm i hi;exact List.length_pos_iff.2 (List.ne_nil_of_mem ((ls.2 _).2 ⟨List.mem_map.2 ⟨i,hi,rfl⟩,by omega⟩))
 ·split
  ·rw [Gq _ _ _ _ _ gz];exact eN 18 (.inl rfl) (.inl rfl) _ rfl rfl rfl (.inr ⟨by decide,y1.2.2.2.1⟩) y1.2.2.2.2.1 y1.2.2.2.2.2.1 y1.2.2.2.2.2.2.1
  ·rw [MT _ _ _ gz y1.2.2.2.1 y1.2.2.2.2.1];exact eN 19 (by unfold bF;omega) (.inr rfl) _ rfl rfl rfl (.inl ⟨rfl,rfl⟩) y1.2.2.2.2.1 y1.2.2.2.2.2.1 y1.2.2.2.2.2.2.1
end Sx
namespace Sx
variable {s t:ah} {g:Nat} {nc ns n:Int}
theorem MInv.kA (h:MInv s) (hg:g < s.gs.length) (st:(aa s g).status=0) (e:(aa s g).place=0):MInv (kA s g):=by
 have L:=h.loc hg;have hx:dX (aa s g).place:=.inl e;obtain ⟨pm,tk⟩:=hx.pm L;have wk:=h.xx hg (by omega);unfold Sx.kA;simp only
 by_cases ha:((aa s g).ops.length:Int)≤(aa s g).at_
 ·rw [if_pos ha];refine h.outs hg (y:={ aa s g with status:=2,token:=false }) ?_ hx hx wk rfl;have gj:=L.gj;have a1:=L.a1
  constructor
  ·exact L.oE
  ·exact gj
  ·exact L.a0
  ·exact a1
  ·exact .inl e
  ·intro c;exact absurd e c
  ·exact .inr (.inr rfl)
  ·simp
  ·simp only;omega
  ·intro _;exact ⟨e,by simp only;omega⟩
  ·simp
  ·simp only;rw [wk];simp
  ·simp only;omega
  ·simp only;rw [wk];simp
  ·simp only;rw [wk];simp
  ·simp only;omega
  ·simp only;omega
  ·exact L.p0
  ·simp only;omega
  ·simp only;omega
  ·simp only;omega
  ·intro _ c;unfold dQ at c;simp only at c;omega
 rw [if_neg ha];have lt:(aa s g).at_ < (aa s g).ops.length:=by omega
 obtain ⟨x,yS⟩:∃ x,({ o9 (aa s g) with call:=s.step }:Gr)=x:=⟨_,rfl⟩
 have e2:ai (clear s g) g { aa (clear s g) g with call:=(clear s g).step }=ai s g x:=by
  unfold clear;rw [ja s g g _ hg,if_pos rfl,mU,← yS];rfl
 have x1:x.ops=(aa s g).ops∧x.at_=(aa s g).at_∧x.place=0∧x.status=0∧x.token=false∧x.param=-1∧x.an=[]∧x.k=0∧x.ay=[]∧x.res.code=0∧x.order=[]:=by
  subst yS;exact ⟨rfl,rfl,e,st,tk,rfl,rfl,rfl,rfl,rfl,rfl⟩
 have gx:aa (ai s g x) g=x:=by rw [ja s g g x hg,if_pos rfl]
 have eo:ag (ai s g x) g=aG (aa s g):=by unfold ag;rw [gx,x1.1,x1.2.1];rfl
 have em:∀ c,Sx.aN (ai s g x) c=Sx.aN s c:=fun _=>rfl
 rw [e2,eo];simp only [em];have rf:=Gs (MU L lt);generalize hk:(aG (aa s g)).kind=kd at *;have fin:∀ (p:Int),bF kd p→(p=1∨p=4∨p=18∨p=20∨p=19)→(p=1∨p=4→Sx.aN s (aG (aa s g)).ch=true)→(p=20→kd=1∨7≤kd)→∀ z:Gr,z.ops=x.ops→z.at_=x.at_→z.place=p→(p=19∧z.status=1∨p≠19∧z.status=0)→z.token=false→z.param=-1→z.an=[]→MInv (ai s g z):=by
  intro p ok hp hm hq z z1 z2 z3 z4 z5 z6 z7;refine h.outs hg (Loc.fresh L (z1.trans x1.1) (z2.trans x1.2.1) lt (by rw [hk,z3];exact ok) (by rw [z3];exact hp) (by rw [z3];exact z4) z5 z6 z7 (by rw [z3];exact fun w=>oG.1 (hm w)) (by rw [z3,hk];exact hq) h.jb) hx (by unfold dX;rw [z3];omega) z7 (z2.trans x1.2.1)
 have gT:∀ p:Int,aI (ai s g x) g p=ai s g { x with place:=p }:=fun p=>oH _ _ _ _ hg
 have pT:∀ r,bH (ai s g x) g r 18=ai s g { x with bQ:=s.step,res:=r,place:=18 }:=fun r=>Gq _ _ _ _ _ hg
 have nT:never (ai s g x) g=ai s g { x with place:=19,status:=1 }:=MT _ _ _ hg x1.2.2.2.1 x1.2.2.2.2.1;have Ci:∀ p:Int,bF kd p→(p=1∨p=4∨p=20)→(p=1∨p=4→Sx.aN s (aG (aa s g)).ch=true)→(p=20→kd=1∨7≤kd)→MInv (aI (ai s g x) g p):=by
  intro p ok hp hm hq;rw [gT];exact fin p ok (by omega) hm hq _ rfl rfl rfl (.inr ⟨by omega,x1.2.2.2.1⟩) x1.2.2.2.2.1 x1.2.2.2.2.2.1 x1.2.2.2.2.2.2.1
 have MV:∀ r,MInv (bH (ai s g x) g r 18):=by
  intro r;rw [pT];exact fin 18 (.inl rfl) (by simp) (by simp) (by simp) _ rfl rfl rfl (.inr ⟨by decide,x1.2.2.2.1⟩) x1.2.2.2.2.1 x1.2.2.2.2.2.1 x1.2.2.2.2.2.2.1
 have goN:bF kd 19→MInv (never (ai s g x) g):=by
  intro ok;rw [nT];exact fin 19 ok (by simp) (by simp) (by simp) _ rfl rfl rfl (.inl ⟨rfl,rfl⟩) x1.2.2.2.2.1 x1.2.2.2.2.2.1 x1.2.2.2.2.2.2.1
 by_cases k1:kd=1∨kd=7∨kd=8
 ·rw [if_pos k1];exact Ci 20 (.inr (.inl ⟨k1,rfl⟩)) (by simp) (by simp) (by omega)
 rw [if_neg k1]
 by_cases k2:kd=2∨kd=3
 ·rw [if_pos k2]
  by_cases hm:Sx.aN s (aG (aa s g)).ch=true
  ·rw [if_pos hm];exact Ci 4 (.inr (.inr (.inl ⟨k2,by simp⟩))) (by simp) (fun _=>hm) (by simp)
  ·rw [if_neg hm];exact goN (.inr (.inr (.inl ⟨k2,by simp⟩)))
 rw [if_neg k2]
 by_cases k3:kd=4∨kd=5
 ·rw [if_pos k3]
  by_cases hm:Sx.aN s (aG (aa s g)).ch=true
  ·rw [if_pos hm];exact Ci 1 (by unfold bF;omega) (by simp) (fun _=>hm) (by simp)
  ·rw [if_neg hm];exact MV _
 rw [if_neg k3]
 by_cases k4:kd=6
 ·rw [if_pos k4]
  by_cases hm:Sx.aN s (aG (aa s g)).ch=true
  ·rw [if_pos hm];exact Ci 4 (by unfold bF;omega) (by simp) (fun _=>hm) (by simp)
  ·rw [if_neg hm];exact MV _
 rw [if_neg k4];exact h.kz hg hx x1.1 x1.2.1 (by rw [x1.1,x1.2.1];exact lt) (by rw [hk];omega) x1.2.2.2.1 x1.2.2.2.2.1 x1.2.2.2.2.2.1 x1.2.2.2.2.2.2.1 x1.2.2.2.2.2.2.2.1 x1.2.2.2.2.2.2.2.2.1 x1.2.2.2.2.2.2.2.2.2.1 x1.2.2.2.2.2.2.2.2.2.2
theorem MInv.makes (h:MInv s) (hl:s.au.length < 8) {m:Int} (m0:0≤m) (m4:m≤4):MInv { s with au:=s.au ++ [⟨m,[],false,-1,[],[]⟩] }:=by
 have ec:∀ c:Int,1≤c→c≤s.au.length→cn { s with au:=s.au ++ [⟨m,[],false,-1,[],[]⟩] } c=cn s c:=by
  intro c a b;unfold cn;simp only;rw [List.getD_eq_getElem?_getD,List.getD_eq_getElem?_getD,List.getElem?_append_left (by omega)]
 have en:∀ c:Int,c=s.au.length + 1→cn { s with au:=s.au ++ [⟨m,[],false,-1,[],[]⟩] } c=⟨m,[],false,-1,[],[]⟩:=by
  intro c a;unfold cn;simp only;rw [List.getD_eq_getElem?_getD,List.getElem?_append_right (by omega)];have:(c - 1).toNat - s.au.length=0:=by omega
  rw [this];rfl
 have I:=h.v;have hh:∀ g,0≤g→g < (s.gs.length:Int)→∀ c,bE (gA s g) c→c≤s.au.length:=by
  intro g a b c hc;have L:=I.loc g a b;rcases hc with w | w
  ·rw [w.2.2.1];exact (L.B2 (by omega) (by omega) (by omega) w.1 w.2.1).2
  ·have sp:dQ (gA s g).place:=by unfold dQ;omega
   rcases w.2 with q | q
   ·exact ((L.se w.1 sp).l1 c q.2).2
   ·exact ((L.se w.1 sp).l1 c (List.mem_of_mem_take q.2)).2
 refine ⟨?_,h.n1,h.n8,by simp;omega,h.sn,h.kJ,h.c1,h.tV,h.ca,h.f0,h.po,h.sE,h.tW,h.du,h.d5,h.dn⟩;unfold V;have el:(({ s with au:=s.au ++ [⟨m,[],false,-1,[],[]⟩] }:ah).au.length:Int)=s.au.length + 1:=by simp
 rw [el];generalize hs:({ s with au:=s.au ++ [⟨m,[],false,-1,[],[]⟩] }:ah)=s2 at *;have lF:s2.gs=s.gs:=by subst hs;rfl
 have eg:gA s2=gA s:=by funext g;unfold gA aa;rw [lF]
 have pV:su s2=su s:=by funext g;unfold su;subst hs;rfl
 have V4:s2.aC=s.aC:=by subst hs;rfl
 have MW:∀ i,gG s2 i=gG s i:=fun i=>by subst hs;rfl
 rw [eg,pV,lF,V4];have sp:∀ c:Int,1≤c→c≤s.au.length + 1→c≤s.au.length∨c=s.au.length + 1:=fun c _ _=>by omega
 constructor
 ·intro g a b;exact (I.loc g a b).mono (by omega)
 ·intro c a b;rcases sp c a b with w | w
  ·rw [ec c a w];exact I.j4 c a w
  ·rw [en c w];exact .inl rfl
 ·intro g a b c d e;rcases sp c d e with w | w
  ·rw [ec c d w];exact I.iY g a b c d w
  ·rw [en c w]
   constructor
   ·intro q;have:=hh g a b c q;omega
   ·intro q;simp only at q;omega
 ·intro c a b;rcases sp c a b with w | w
  ·rw [ec c a w];exact I.cap c a w
  ·rw [en c w];simp;omega
 ·intro g a b i hi;have:=I.own g a b i hi;rw [MW];exact this
 ·intro c a b i;rcases sp c a b with w | w
  ·rw [ec c a w];exact I.q c a w i
  ·rw [en c w];simp
 ·intro c a b;rcases sp c a b with w | w
  ·rw [ec c a w];exact I.nd c a w
  ·rw [en c w];simp
 ·intro k a b w;have:=I.cQ k a b w;rw [ec _ this.1 this.2.1];exact ⟨this.1,by omega,this.2.2⟩
 ·intro k a b w;have:=I.cl k a b w;rw [ec _ this.1 this.2.1];exact ⟨this.1,by omega,this.2.2⟩
 ·exact I.sB
 ·exact I.wk
 ·exact I.qR
 ·exact I.su
 ·intro i hi;rw [MW] at hi;exact I.lv i hi
theorem MInv.kB (h:MInv s) (hg:g < s.gs.length) (st:(aa s g).status=0) (e:(aa s g).place=20):MInv (kB s g):=by
 have L:=h.loc hg;have hx:dX (aa s g).place:=by unfold dX;omega
 obtain ⟨pm,tk⟩:=hx.pm L;have wk:=h.xx hg (by omega);have lt:=(L.pl.resolve_left (by omega)).1;have rf:=Gs (MU L lt);have ho:ag s g=aG (aa s g):=rfl;have key:∀ (t:ah) (r:Md.ak),MInv t→t.gs=s.gs→MInv (bH t g r 18):=by
  intro t r ht Cj;have eg:aa t g=aa s g:=by unfold aa;rw [Cj]
  have gz:g < t.gs.length:=by rw [Cj];exact hg
  refine ht.outs gz (y:={ aa t g with bQ:=t.step,res:=r,place:=18 }) ?_ (by rw [eg];exact hx) (by unfold dX;simp) (by rw [eg];exact wk) rfl;have Lt:=ht.loc gz;exact Loc.fresh Lt rfl rfl (by rw [eg];exact lt) (.inl rfl) (by simp) (.inr ⟨by simp,by rw [eg];exact st⟩) (by rw [eg];exact tk) (by rw [eg];exact pm) (by rw [eg];exact wk) (by simp) (by simp) ht.jb
 unfold Sx.kB;simp only
 split
 ·exact key s _ h rfl
 split
 ·rename_i c1 c2;exact key _ _ (h.makes (by omega) (by rw [ho];exact rf.2.2.2.2.1) (by rw [ho];exact rf.2.2.2.2.2.1)) rfl
 split
 ·exact key s _ h rfl
 split
 ·exact key s _ h rfl
 ·exact key s _ h rfl
theorem V5 {l:List Nat} (f f':Nat→Int) {g:Nat} (hn:l.Nodup) (hg:g∈l) (he:∀ h∈l,h≠g→f' h=f h):(l.map f').sum=(l.map f).sum + (f' g - f g):=by
 induction l with
 | nil=>simp at hg
 | cons a l ih =>
  have lS:=List.nodup_cons.1 hn;simp only [List.map_cons,List.sum_cons];rcases List.mem_cons.1 hg with w | w
  ·subst w;have:l.map f'=l.map f:=List.map_congr_left fun h hh=>he h (List.mem_cons_of_mem _ hh) (fun c=>lS.1 (c ▸ hh))
   rw [this];omega
  ·have:=ih lS.2 w (fun h hh bO=>he h (List.mem_cons_of_mem _ hh) bO);rw [this,he a (by simp) (fun c=>lS.1 (c ▸ w))];omega
theorem MInv.answer (h:MInv s) (hg:g < s.gs.length) (st:(aa s g).status=0) (e:(aa s g).place=18):MInv (answer s g):=by
 have L:=h.loc hg;have hx:dX (aa s g).place:=by unfold dX;omega
 obtain ⟨pm,tk⟩:=hx.pm L;have lt:=(L.pl.resolve_left (by omega)).1;have gj:=L.gj;obtain ⟨y,hy⟩:∃ y,o9 { aa s g with at_:=(aa s g).at_ + 1,place:=0 }=y:=⟨_,rfl⟩
 have y1:y.ops=(aa s g).ops∧y.at_=(aa s g).at_ + 1∧y.place=0∧y.status=0∧y.token=false∧y.param=-1∧y.an=[]:=by
  subst hy;exact ⟨rfl,rfl,rfl,st,tk,rfl,rfl⟩
 have ea:Sx.answer s g={ ai s g y with done:=s.done ++ [mark s g s.step] }:=by
  unfold Sx.answer clear;simp only;have e1:aa { s with done:=s.done ++ [mark s g s.step] } g=aa s g:=rfl;rw [e1,ja { s with done:=s.done ++ [mark s g s.step] } g g _ hg,if_pos rfl,mU,hy];rfl
 rw [ea];have ly:Loc s.au.length s.aC.length s.gs.length y:=by
  have a0:=L.a0;have tZ:=h.jb
  constructor
  ·rw [y1.1];exact L.oE
  ·rw [y1.1];exact gj
  ·omega
  ·rw [y1.1];omega
  ·exact .inl y1.2.2.1
  ·intro c;exact absurd y1.2.2.1 c
  ·exact .inl y1.2.2.2.1
  ·omega
  ·omega
  ·omega
  ·rw [y1.2.2.2.2.1];simp
  ·rw [y1.2.2.2.2.2.2];simp
  ·omega
  ·rw [y1.2.2.2.2.2.2];simp
  ·rw [y1.2.2.2.2.2.2];simp
  ·omega
  ·omega
  ·rw [y1.2.2.2.2.2.1];omega
  ·omega
  ·rw [y1.2.2.2.2.2.1];omega
  ·rw [y1.2.2.2.2.2.1];omega
  ·intro _ c;unfold dQ at c;omega
 have f:Sf s.au.length s.aC.length s.gs.length (aa s g) y:=.outs ly hx (.inl y1.2.2.1) y1.2.2.2.2.2.2;have v:V (ai s g y):=by
  have eA:=fC s g;have I:=Inv.self h.v (g:=g) (x:=y) (by omega) (by omega) f.lx (by rw [eA];exact f.hh) (by rw [eA];exact f.ow) (by rw [eA];exact f.mt) (by rw [eA];exact f.qx) (fun w=>by unfold cI at w;omega) f.gD (by rw [eA];exact f.wx) (by rw [eA];exact f.wg) (by rw [eA];exact f.cg);unfold V;rw [iB];exact I.tO (fun k k0 _=>sD hg rfl k k0) (fun _ _ _=>rfl) (fun _ _ _=>rfl) (fun _ _ _=>Iff.rfl)
 refine ⟨v,by rw [show ({ ai s g y with done:=s.done ++ [mark s g s.step] }:ah).gs.length=s.gs.length from iB];exact h.n1,by rw [show ({ ai s g y with done:=s.done ++ [mark s g s.step] }:ah).gs.length=s.gs.length from iB];exact h.n8,h.c8,h.sn,h.kJ,h.c1,h.tV,by rw [show ({ ai s g y with done:=s.done ++ [mark s g s.step] }:ah).gs.length=s.gs.length from iB];exact h.ca,h.f0,h.po,h.sE,h.tW,h.du,h.d5,?_⟩;have hs:oF { ai s g y with done:=s.done ++ [mark s g s.step] }=oF s + 1:=by
  have hl:(ai s g y).gs.length=s.gs.length:=iB;unfold oF
  show ((List.range (ai s g y).gs.length).map (fun k=>(aa (ai s g y) k).at_)).sum=_;rw [hl,V5 (fun k=>(aa s k).at_) (fun k=>(aa (ai s g y) k).at_) (g:=g) List.nodup_range (by simpa using hg) (fun k _ bO=>by rw [ja s g k y hg,if_neg bO])];rw [ja s g g y hg,if_pos rfl,y1.2.1];omega
 rw [hs];have:=h.dn;simp only [List.length_append,List.length_cons,List.length_nil];omega
theorem MInv.jj (h:MInv s) (hg:g < s.gs.length) (st:(aa s g).status=0):MInv (jj s g).1:=by
 unfold Sx.jj;simp only
 by_cases e0:(aa s g).place=0
 ·rw [if_pos e0];exact h.kA hg st e0
 rw [if_neg e0]
 by_cases e1:(aa s g).place=20
 ·rw [if_pos e1];exact h.kB hg st e1
 rw [if_neg e1]
 by_cases e2:(aa s g).place=18
 ·rw [if_pos e2];exact h.answer hg st e2
 rw [if_neg e2];exact h
end Sx
namespace Sx
variable {s t:ah} {g:Nat} {nc ns n:Int} {x y:Gr}
theorem Loc.mS (L:Loc nc ns n x) (hs:SE x) (xp:x.place≠0) (h1:y.ops=x.ops) (h2:y.at_=x.at_) (st:y.status=0) (tk:y.token=false) (pm:y.param=-1) (yp:24≤y.place∧y.place≤34) (w1:y.an≠[]→y.place=34∨y.place=30∧y.res.code≠0) (w3:∀ p∈y.an,0≤p∧p < n) (w4:y.an.Nodup)
  (hd:y.place=26∨y.place=27→0≤y.hold∧y.hold < ns) (tZ:0≤ns) (ys:gB nc ns y):Loc nc ns n y:=by
 have ho:aG y=aG x:=by unfold aG;rw [h1,h2]
 have gj:=L.gj;have pl:=L.pl.resolve_left xp;have hk:(aG x).kind=9:=hs
 constructor
 ·rw [h1];exact L.oE
 ·rw [h1];exact gj
 ·rw [h2];exact L.a0
 ·rw [h1,h2];exact L.a1
 ·rw [h1,h2,ho];exact .inr ⟨pl.1,by unfold bF;omega⟩
 ·rw [ho];intro _ _ _ _ _;omega
 ·exact .inl st
 ·intro c;omega
 ·intro c;omega
 ·intro c;omega
 ·rw [tk];simp
 ·intro c;rcases w1 c with c | c
  ·exact .inr (.inr (.inr (.inr (.inl c))))
  ·exact .inr (.inr (.inr (.inr (.inr c))))
 ·intro c;omega
 ·exact w3
 ·exact w4
 ·intro c;exact hd (by omega)
 ·intro _ _ c;omega
 ·rw [pm];omega
 ·intro c;omega
 ·rw [pm];intro c;exact absurd c (by decide)
 ·rw [pm];intro c;exact absurd c (by decide)
 ·intro _ _;exact ys
theorem oJ (h:24≤x.place∧x.place≤29∨31≤x.place∧x.place≤34∨x.place=30∧x.res.code≠0):¬ Wt x:=by
 rintro (w | w)
 ·have:=w.2;omega
 ·have:=w.2;omega
theorem Loc.vv (L:Loc nc ns n x) (h:¬ Wt x):x.param=-1∧x.token=false:=by
 constructor
 ·have:=L.p0
  by_cases c:0≤x.param
  ·exact absurd (L.p2 c).1 h
  ·omega
 ·cases c:x.token
  ·rfl
  ·exact absurd (L.tk c).1 h
theorem zV {l:List Int} {k:Int} (k0:0≤k) (k1:k < l.length):l.take (k + 1).toNat=l.take k.toNat ++ [aD l k]:=by
 have e:(k + 1).toNat=k.toNat + 1:=by omega
 have:k.toNat < l.length:=by omega
 rw [e,List.take_add_one,List.getElem?_eq_getElem this];unfold aD;rw [List.getD_eq_getElem?_getD,List.getElem?_eq_getElem this];rfl
theorem Ck {l:List Int} {k:Int} (k0:0≤k) (k1:k < l.length):l.drop k.toNat=aD l k :: l.drop (k + 1).toNat:=by
 have e:(k + 1).toNat=k.toNat + 1:=by omega
 have:k.toNat < l.length:=by omega
 rw [e,List.drop_eq_getElem_cons this];unfold aD;rw [List.getD_eq_getElem?_getD,List.getElem?_eq_getElem this];rfl
theorem rQ {l:List Int} {k:Int} (k0:0≤k) (k1:k < l.length):aD l k∈l:=by
 have:k.toNat < l.length:=by omega
 unfold aD;rw [List.getD_eq_getElem?_getD,List.getElem?_eq_getElem this];exact List.getElem_mem this
theorem MX {l:List Int} {k:Int} (h:k=l.length):l.take k.toNat=l:=by
 rw [List.take_of_length_le (by omega)]
structure jB (x y:Gr):Prop where
 ops:y.ops=x.ops
 at_:y.at_=x.at_
 status:y.status=x.status
 token:y.token=x.token
 bz:y.bz=x.bz
 param:y.param=x.param
 aH:y.aH=x.aH
 order:y.order=x.order
 aF:y.aF=x.aF
theorem jB.aG (h:jB x y):aG y=aG x:=by unfold Sx.aG;rw [h.ops,h.at_]
theorem jB.se (h:jB x y):SE y↔SE x:=by unfold SE;rw [h.aG]
theorem jB.ch (h:jB x y) (j:Int):bV y j=bV x j:=by unfold bV;rw [h.aG]
theorem gB.lock (b:gB nc ns x) (h:jB x y) (e:x.place=24∨x.place=31) (es:y.ay=x.ay) (ec:y.res.code=x.res.code)
  (hp:y.place=x.place∧y.k=x.k + 1∧x.k + 1 < x.aF.length∨y.place=x.place + 1∧y.k=0∧x.k + 1=x.aF.length):gB nc ns y:=by
 have ho:=h.aG;have hc:=h.ch;have o1:=b.o1;have ab:24≤y.place∧y.place≤27→24≤x.place∧x.place≤27:=by omega
 have kk:0≤y.k∧(y.place=24∨y.place=31→y.k < x.aF.length):=by have:=b.k0;omega
 have ua:∀ {P:Prop},y.place=28∨y.place=29∨y.place=30∨y.place=33∨y.place=34∨y.place=13∨y.place=14→P:=fun c=>by omega
 have Gt:31≤y.place∧y.place≤33→31≤x.place∧x.place≤33:=by omega
 have k2:25≤y.place∧y.place≤29∨y.place=32∨y.place=34→y.k=0:=by omega
 constructor
 ·rw [h.order,h.aF,ho];simp only [hc];exact o1
 ·rw [h.order];exact b.o2
 ·rw [h.order];exact b.o3
 ·rw [h.aF];exact b.l1
 ·rw [h.aF];exact b.l2
 ·rw [h.aF];exact b.l3
 ·exact kk.1
 ·rw [h.aF];exact kk.2
 ·rw [h.order];intro c;rw [k2 c];have:=b.o3;omega
 ·intro c;exact ua (by omega)
 ·rw [es];intro c;exact b.s1 (ab c)
 ·rw [es,ho];intro c
  by_cases d:31≤y.place∧y.place≤33
  ·have:=Gt d;exact b.s2 (.inr (.inl ⟨this.1,by omega⟩))
  ·exact ua (by omega)
 ·intro c;exact ua (by omega)
 ·rw [es,h.order];exact b.s4
 ·intro c;exact ua (by omega)
 ·rw [es,h.order];intro c
  by_cases d:31≤y.place∧y.place≤33
  ·exact b.s6 (.inl (Gt d))
  ·exact ua (by omega)
 ·intro c;exact ua (by omega)
 ·rw [ec];intro c
  by_cases d:24≤y.place∧y.place≤27
  ·have:=ab d;exact b.c1 (.inl ⟨this.1,by omega⟩)
  ·exact ua (by omega)
 ·rw [h.bz];intro c;exact b.c2 (Gt c)
 ·intro c;exact ua (by omega)
theorem MInv.j5 (h:MInv s) (hg:g < s.gs.length) (k:(ag s g).kind=9) (e:dQ (aa s g).place):gB s.au.length s.aC.length (aa s g):=(h.loc hg).se k e
theorem MInv.MY (h:MInv s) (hg:g < s.gs.length) (st:(aa s g).status=0) (k:(ag s g).kind=9) (p:Int) (e:(aa s g).place=24∧p=25∨(aa s g).place=31∧p=32):MInv (lock s g p):=by
 have L:=h.loc hg;have b:=h.j5 hg k (by unfold dQ;omega);have kx:SE (aa s g):=k;unfold lock;simp only;have k1:=b.k1 (by omega);have sL:=b.l1 _ (rQ b.k0 k1);have nw:¬ Wt (aa s g):=oJ (by omega);obtain ⟨pm,tk⟩:=L.vv nw;have wk:(aa s g).an=[]:=by
  by_cases w:(aa s g).an=[]
  ·exact w
  ·have:=L.w1 w;omega
 unfold tryLock
 by_cases hl:(cn s (aD (aa s g).aF (aa s g).k)).lock=-1
 ·rw [if_pos hl];simp only [if_true];have key:∀ y,jB (aa s g) y→y.an=(aa s g).an→y.ay=(aa s g).ay→y.res.code=(aa s g).res.code→(y.place=(aa s g).place∧y.k=(aa s g).k + 1∧(aa s g).k + 1 < (aa s g).aF.length∨y.place=(aa s g).place + 1∧y.k=0∧(aa s g).k + 1=(aa s g).aF.length) →
    MInv (ai (aE s (aD (aa s g).aF (aa s g).k) { cn s (aD (aa s g).aF (aa s g).k) with lock:=g }) g y):=by
   intro y hk hw hs hc hp;have ys:=b.lock hk (by omega) hs hc hp;have dS:SE y:=hk.se.2 kx;refine h.chan hg sL.1 sL.2 (L.mS kx (by omega) hk.ops hk.at_ (by rw [hk.status];exact st) (by rw [hk.token];exact tk) (by rw [hk.param];exact pm) (by omega) (by rw [hw,wk];simp) (by rw [hw,wk];simp) (by rw [hw,wk];simp) (by omega) h.jb ys) ⟨.inr (.inl ⟨hl,rfl,fun ch=>?_⟩),h.gE sL.1 sL.2,⟨List.Sublist.refl _,List.Sublist.refl _⟩,.inl ⟨rfl,rfl⟩⟩ ?_ ?_ ?_ ?_ ?_ ?_ (fun w=>absurd w.1 nw) (fun w=>absurd w.1 nw) hk.at_
   ·-- it has one lock more
    have MZ:∀ z:Gr,SE z→(bE z ch↔(25≤z.place∧z.place≤29∨z.place=32)∧ch∈z.aF∨(z.place=24∨z.place=31∨z.place=30∨z.place=33)∧ch∈z.aF.take z.k.toNat):=by
     intro z hz;unfold bE;have:(aG z).kind=9:=hz
     constructor
     ·rintro (w | w)
      ·omega
      ·exact w.2
     ·intro w;exact .inr ⟨hz,w⟩
    rw [MZ y dS,MZ _ kx,hk.aF];have tk:=zV b.k0 k1;rcases hp with hp | hp
    ·rw [hp.1,hp.2.1,tk,List.mem_append,List.mem_singleton]
     constructor
     ·rintro (w | w)
      ·omega
      ·rcases w.2 with w2 | w2
       ·exact .inl (.inr ⟨w.1,w2⟩)
       ·exact .inr w2
     ·rintro ((w | w) | w)
      ·omega
      ·exact .inr ⟨w.1,.inl w.2⟩
      ·exact .inr ⟨by omega,.inr w⟩
    ·have V6:(aa s g).aF=(aa s g).aF.take (aa s g).k.toNat ++ [aD (aa s g).aF (aa s g).k]:=by rw [← tk,MX hp.2.2]
     constructor
     ·rintro (w | w)
      ·have w2:=w.2;rw [V6,List.mem_append,List.mem_singleton] at w2;rcases w2 with w2 | w2
       ·exact .inl (.inr ⟨by omega,w2⟩)
       ·exact .inr w2
      ·omega
     ·rintro ((w | w) | w)
      ·omega
      ·exact .inl ⟨by omega,List.mem_of_mem_take w.2⟩
      ·exact .inl ⟨by omega,w ▸ rQ b.k0 k1⟩
   ·intro i;unfold Own;rw [hk.se,hs];have n1:¬ SR y:=fun c=>c.ne dS
    have n2:¬ SR (aa s g):=fun c=>c.ne kx
    simp only [n1,n2,false_and,false_or]
    constructor
    ·intro w;exact ⟨w.1,w.2.1,by omega,w.2.2.2⟩
    ·intro w;exact ⟨w.1,w.2.1,by omega,w.2.2.2⟩
   ·intro i d _ m;rcases m with m | m
    ·exact absurd kx m.1.ne
    ·exact .inr ⟨dS,by rw [hs,hk.aG,hk.order,hk.ch];exact m.2⟩
   ·intro i j q ch a0 b0 hi;have gq:0≤i:=by
     have:i∈(cn s ch).recv∨i∈(cn s ch).send:=by
      unfold up at hi
      split at hi
      ·rename_i c;subst c;exact hi
      ·exact hi
     obtain ⟨o,z⟩:=h.xw (g:=g) a0 b0 this;exact z.i0
    rcases q with q | q
    ·exact absurd kx q.1.ne
    ·obtain ⟨q1,q2,q3,q4,q5⟩:=q;have xC:(aa s g).place=31:=by omega
     have hj:=(b.s4 j q2 q3).2.2 (by omega);refine .inr ⟨dS,q2,by rw [hs];exact q3,by rw [hs];exact q4,?_⟩;rcases hp with hp | hp
     ·exact .inr (.inr (.inr (.inl (by omega))))
     ·refine .inr (.inr (.inr (.inr (.inr ⟨by omega,?_⟩))));rw [hk.order,hp.2.1];simpa using hj
   ·unfold cI;omega
   ·unfold cX;omega
   ·intro q;rw [hw];exact id
  split
  ·rename_i c;exact key _ ⟨rfl,rfl,rfl,rfl,rfl,rfl,rfl,rfl,rfl⟩ rfl rfl rfl (.inr ⟨by simp only;omega,rfl,c⟩)
  ·rename_i c;exact key _ ⟨rfl,rfl,rfl,rfl,rfl,rfl,rfl,rfl,rfl⟩ rfl rfl rfl (.inl ⟨rfl,rfl,by omega⟩)
 ·rw [if_neg hl];simp only [Bool.false_eq_true,if_false];exact h
end Sx
namespace Sx
variable {s t:ah} {g:Nat} {nc ns n:Int} {x y:Gr}
end Sx
end Go.Proofs.YtofnbflkhgammaaGreat
