/-
  What the laws need, part A19.
  Conditions: none.
-/
import Derived.Test.YtdjhhbpedllnhaaGreatA18
set_option linter.unusedVariables false
set_option linter.unusedSimpArgs false
set_option linter.unnecessarySimpa false
set_option maxHeartbeats 2000000
namespace Go.Proofs.YtdjhhbpedllnhaaGreat
namespace Sx
variable {s t:ah} {g:Nat} {nc ns n:Int}
theorem tZ {l:List Int} (h:l.length≠0):l.headD 0∈l:=by
 cases l with
 | nil=>simp at h
 | cons a l=>simp
theorem Mo {l:List Int} {r v:Int} (h:(iW l r v).2=true):((iW l r v).1.length:Int)≤r:=by
 unfold iW at h ⊢
 split at h
 ·cases h
 ·rename_i c;rw [if_neg c];simp;omega
theorem Mp {l:List Int}:(dX l).1.length≤l.length:=by
 unfold dX;split <;> simp
theorem MInv.bV (h:MInv s) (hg:g < s.gs.length) (st:(aa s g).status=0):MInv (bV s g).1:=by
 unfold Sx.bV;simp only
 by_cases k:(ag s g).kind≠2∧(ag s g).kind≠4
 ·rw [if_pos k];exact h
 rw [if_neg k];have k2:2≤(ag s g).kind∧(ag s g).kind≤5:=by omega
 by_cases hc:(Sx.common s g).2=true
 ·rw [if_pos hc];exact h.common hg st (.inl (by omega))
 rw [if_neg hc]
 by_cases hm:Sx.aL s (ag s g).ch=false
 ·rw [if_pos hm];exact h
 rw [if_neg hm];have mV:=m9.1 (show Sx.aL s (ag s g).ch=true by simpa using hm)
 by_cases e1:(aa s g).place=1
 ·rw [if_pos e1]
  split
  ·exact h.iP hg st (by omega) (by omega) (x:={ aa s g with place:=4 }) rfl rfl rfl rfl rfl rfl (by show bJ _ 4;unfold bJ;omega) (by simp) (by rw [e1];unfold hP;simp)
  ·have pl:=((h.loc hg).pl.resolve_left (by omega)).2;have hk:(aH (aa s g)).kind=(ag s g).kind:=rfl;rw [hk,e1] at pl;exact h.iP hg st (by omega) (by omega) (x:={ aa s g with bE:=s.step,res:=(aa s g).res,place:=2 }) rfl rfl rfl rfl rfl rfl (by show bJ _ 2;unfold bJ at pl ⊢;omega) (by simp) (by rw [e1];unfold hP;simp)
 rw [if_neg e1]
 by_cases e2:(aa s g).place=2
 ·rw [if_pos e2]
  split
  ·exact h.iP hg st (by omega) (by omega) (x:={ aa s g with bE:=0,place:=4 }) rfl rfl rfl rfl rfl rfl (by show bJ _ 4;unfold bJ;omega) (by simp) (by rw [e2];unfold hP;simp)
  ·exact h.iP hg st (by omega) (by omega) (x:={ aa s g with res:={ (aa s g).res with code:=2 },place:=18 }) rfl rfl rfl rfl rfl rfl (.inl rfl) (by simp) (by rw [e2];unfold hP;simp)
 rw [if_neg e2]
 by_cases e5:(aa s g).place=5
 ·rw [if_pos e5]
  split
  ·exact h.iP hg st (by omega) (by omega) (x:={ aa s g with bE:=s.step,res:=res 3,place:=16 }) rfl rfl rfl rfl rfl rfl (by show bJ _ 16;unfold bJ;omega) (by simp) (by rw [e5];unfold hP;simp)
  ·exact h.iP hg st (by omega) (by omega) (x:={ aa s g with place:=6 }) rfl rfl rfl rfl rfl rfl (by show bJ _ 6;unfold bJ;omega) (by simp) (by rw [e5];unfold hP;simp)
 rw [if_neg e5]
 by_cases e6:(aa s g).place=6
 ·rw [if_pos e6]
  split
  ·exact h.iP hg st (by omega) (by omega) (x:={ aa s g with place:=9 }) rfl rfl rfl rfl rfl rfl (by show bJ _ 9;unfold bJ;omega) (by simp) (by rw [e6];unfold hP;simp)
  ·rename_i hl;exact h.s6 hg st k2 e6 (.inl (tZ hl))
 rw [if_neg e6]
 by_cases e7:(aa s g).place=7
 ·rw [if_pos e7];exact h.s7 hg st k2 e7
 rw [if_neg e7]
 by_cases e8:(aa s g).place=8
 ·rw [if_pos e8];exact h.VQ hg st k2 e8 _
 rw [if_neg e8]
 by_cases e9:(aa s g).place=9
 ·rw [if_pos e9]
  split
  ·rename_i hp;exact h.s9 hg st k2 e9 (Mo hp) _
  split
  ·exact h.iP hg st (by omega) (by omega) (x:={ aa s g with bE:=s.step,res:=res 2,place:=16 }) rfl rfl rfl rfl rfl rfl (by show bJ _ 16;unfold bJ;omega) (by simp) (by rw [e9];unfold hP;simp)
  ·exact h.iP hg st (by omega) (by omega) (x:={ aa s g with place:=10 }) rfl rfl rfl rfl rfl rfl (by show bJ _ 10;unfold bJ;omega) (by simp) (by rw [e9];unfold hP;simp)
 rw [if_neg e9];have hk:(aH (aa s g)).kind=(ag s g).kind:=rfl
 by_cases nU:(aa s g).place=10
 ·rw [if_pos nU];have pl:=((h.loc hg).pl.resolve_left (by omega)).2;rw [hk,nU] at pl;have k3:(ag s g).kind=2:=by unfold bJ at pl;omega
  exact h.pE hg st (.inl k3) nU ⟨rfl,rfl,rfl,by simp [k3]⟩
 rw [if_neg nU]
 by_cases nV:(aa s g).place=11
 ·rw [if_pos nV];have pl:=((h.loc hg).pl.resolve_left (by omega)).2;rw [hk,nV] at pl;have k3:(ag s g).kind=2:=by unfold bJ at pl;omega
  exact h.tT hg st (.inl k3) nV rfl rfl rfl (by rw [if_pos k3]) (by rw [if_pos k3])
 rw [if_neg nV]
 by_cases jV:(aa s g).place=14
 ·rw [if_pos jV];have pl:=((h.loc hg).pl.resolve_left (by omega)).2;rw [hk,jV] at pl;have k3:(ag s g).kind=2:=by unfold bJ at pl;omega
  exact h.Mn hg st (.inl k3) jV _
 rw [if_neg jV];exact h
theorem MInv.bz (h:MInv s) (hg:g < s.gs.length) (st:(aa s g).status=0):MInv (bz s g).1:=by
 unfold Sx.bz;simp only
 by_cases k:(ag s g).kind≠3∧(ag s g).kind≠5
 ·rw [if_pos k];exact h
 rw [if_neg k];have k2:2≤(ag s g).kind∧(ag s g).kind≤5:=by omega
 by_cases hc:(Sx.common s g).2=true
 ·rw [if_pos hc];exact h.common hg st (.inl (by omega))
 rw [if_neg hc]
 by_cases hm:Sx.aL s (ag s g).ch=false
 ·rw [if_pos hm];exact h
 rw [if_neg hm];have mV:=m9.1 (show Sx.aL s (ag s g).ch=true by simpa using hm);have hk:(aH (aa s g)).kind=(ag s g).kind:=rfl
 by_cases e1:(aa s g).place=1
 ·rw [if_pos e1]
  split
  ·exact h.iP hg st (by omega) (by omega) (x:={ aa s g with place:=4 }) rfl rfl rfl rfl rfl rfl (by show bJ _ 4;unfold bJ;omega) (by simp) (by rw [e1];unfold hP;simp)
  ·have pl:=((h.loc hg).pl.resolve_left (by omega)).2;rw [hk,e1] at pl;exact h.iP hg st (by omega) (by omega) (x:={ aa s g with bE:=s.step,res:=(aa s g).res,place:=2 }) rfl rfl rfl rfl rfl rfl (by show bJ _ 2;unfold bJ at pl ⊢;omega) (by simp) (by rw [e1];unfold hP;simp)
 rw [if_neg e1]
 by_cases e2:(aa s g).place=2
 ·rw [if_pos e2];have pl:=((h.loc hg).pl.resolve_left (by omega)).2;rw [hk,e2] at pl
  split
  ·exact h.iP hg st (by omega) (by omega) (x:={ aa s g with place:=3 }) rfl rfl rfl rfl rfl rfl (by show bJ _ 3;unfold bJ at pl ⊢;omega) (by simp) (by rw [e2];unfold hP;simp)
  ·exact h.iP hg st (by omega) (by omega) (x:={ aa s g with res:={ (aa s g).res with code:=2 },place:=18 }) rfl rfl rfl rfl rfl rfl (.inl rfl) (by simp) (by rw [e2];unfold hP;simp)
 rw [if_neg e2]
 by_cases e3:(aa s g).place=3
 ·rw [if_pos e3]
  split
  ·exact h.iP hg st (by omega) (by omega) (x:={ aa s g with bE:=0,place:=4 }) rfl rfl rfl rfl rfl rfl (by show bJ _ 4;unfold bJ;omega) (by simp) (by rw [e3];unfold hP;simp)
  ·exact h.iP hg st (by omega) (by omega) (x:={ aa s g with bE:=s.step,res:=cZ 0 false,place:=18 }) rfl rfl rfl rfl rfl rfl (.inl rfl) (by simp) (by rw [e3];unfold hP;simp)
 rw [if_neg e3]
 by_cases e5:(aa s g).place=5
 ·rw [if_pos e5]
  split
  ·exact h.iP hg st (by omega) (by omega) (x:={ aa s g with bE:=s.step,res:=cZ 0 false,place:=16 }) rfl rfl rfl rfl rfl rfl (by show bJ _ 16;unfold bJ;omega) (by simp) (by rw [e5];unfold hP;simp)
  split
  ·exact h.iP hg st (by omega) (by omega) (x:={ aa s g with place:=9 }) rfl rfl rfl rfl rfl rfl (by show bJ _ 9;unfold bJ;omega) (by simp) (by rw [e5];unfold hP;simp)
  ·exact h.iP hg st (by omega) (by omega) (x:={ aa s g with place:=6 }) rfl rfl rfl rfl rfl rfl (by show bJ _ 6;unfold bJ;omega) (by simp) (by rw [e5];unfold hP;simp)
 rw [if_neg e5]
 by_cases e6:(aa s g).place=6
 ·rw [if_pos e6]
  split
  ·exact h.iP hg st (by omega) (by omega) (x:={ aa s g with place:=9 }) rfl rfl rfl rfl rfl rfl (by show bJ _ 9;unfold bJ;omega) (by simp) (by rw [e6];unfold hP;simp)
  ·rename_i hl;exact h.s6 hg st k2 e6 (.inr (tZ hl))
 rw [if_neg e6]
 by_cases e7:(aa s g).place=7
 ·rw [if_pos e7];exact h.s7 hg st k2 e7
 rw [if_neg e7]
 by_cases e8:(aa s g).place=8
 ·rw [if_pos e8];exact h.VR hg st k2 e8
 rw [if_neg e8]
 by_cases e9:(aa s g).place=9
 ·rw [if_pos e9]
  split
  ·have hc:=h.g9 mV.1 mV.2;exact h.s9 hg st k2 e9 (by have:=Mp (l:=(cn s (ag s g).ch).buf);omega) _
  split
  ·exact h.iP hg st (by omega) (by omega) (x:={ aa s g with bE:=s.step,res:=res 2,place:=16 }) rfl rfl rfl rfl rfl rfl (by show bJ _ 16;unfold bJ;omega) (by simp) (by rw [e9];unfold hP;simp)
  ·exact h.iP hg st (by omega) (by omega) (x:={ aa s g with place:=10 }) rfl rfl rfl rfl rfl rfl (by show bJ _ 10;unfold bJ;omega) (by simp) (by rw [e9];unfold hP;simp)
 rw [if_neg e9]
 by_cases nU:(aa s g).place=10
 ·rw [if_pos nU];have pl:=((h.loc hg).pl.resolve_left (by omega)).2;rw [hk,nU] at pl;have k3:(ag s g).kind=3:=by unfold bJ at pl;omega
  exact h.pE hg st (.inr k3) nU ⟨rfl,rfl,rfl,by simp [k3]⟩
 rw [if_neg nU]
 by_cases nV:(aa s g).place=11
 ·rw [if_pos nV];have pl:=((h.loc hg).pl.resolve_left (by omega)).2;rw [hk,nV] at pl;have k3:(ag s g).kind=3:=by unfold bJ at pl;omega
  exact h.tT hg st (.inr k3) nV rfl rfl rfl (by rw [if_neg (by omega)]) (by rw [if_neg (by omega)])
 rw [if_neg nV]
 by_cases jV:(aa s g).place=14
 ·rw [if_pos jV];have pl:=((h.loc hg).pl.resolve_left (by omega)).2;rw [hk,jV] at pl;have k3:(ag s g).kind=3:=by unfold bJ at pl;omega
  exact h.Mn hg st (.inr k3) jV _
 rw [if_neg jV];exact h
end Sx
namespace Sx
variable {s t:ah} {g:Nat} {nc ns n:Int}
theorem Ce {s:ah} {g o:Nat} {i c:Int} (hg:g < s.gs.length) (ho:o < s.gs.length) (hi:(aa s g).hold=i) (so:(su s i).g=o) (sc:(su s i).ch=c) (c0:1≤c) (c1:c≤s.au.length) (bG:o≠g) :
  fR s g=ai (aN (ai (aA s c (bN (cn s c) i)) o { aa s o with bE:=s.step,dJ:=(su s i).cs,param:=i }) i { su s i with done:=false }) g { aa s g with t:=s.step,ak:=(aa s g).ak ++ [(o:Int)],hold:=-1 }:=by
 subst hi;have e1:aT (ai s g { aa s g with t:=s.step }) (aa s g).hold=aA (ai s g { aa s g with t:=s.step }) c (bN (cn s c) (aa s g).hold):=drop_eq (s:=ai s g { aa s g with t:=s.step }) sc c0 c1;have e0:∀ s1,aT (ai s g { aa s g with t:=s.step }) (aa s g).hold=s1→fR s g=serve (ai s1 (su s1 (aa s g).hold).g.toNat { aa s1 (su s1 (aa s g).hold).g.toNat with bE:=(aa s1 g).t,dJ:=(su s1 (aa s g).hold).cs }) g (aa s g).hold false:=fun s1 h=>by subst h;rfl
 rw [e0 _ e1];generalize (aa s g).hold=i at *;have l1:∀ x,(aA (ai s g x) c (bN (cn s c) i)).gs.length=s.gs.length:=fun x=>by show (ai s g x).gs.length=_;rw [eV]
 have es:∀ x,su (aA (ai s g x) c (bN (cn s c) i)) i=su s i:=fun _=>rfl
 have g1:∀ x,aa (aA (ai s g x) c (bN (cn s c) i)) g=x:=fun x=>by rw [B7,fj hg,if_pos rfl]
 have g2:∀ x,aa (aA (ai s g x) c (bN (cn s c) i)) o=aa s o:=fun x=>by rw [B7,fj hg,if_neg bG]
 rw [es,so,Int.toNat_natCast,g1,g2];rw [zP (o:=o) (by rw [eV,l1];exact hg) (by rw [eV,l1];exact ho) (by show (su s i).g=o;exact so) bG];have g3:∀ x y,aa (ai (aA (ai s g x) c (bN (cn s c) i)) o y) o=y:=fun x y=>by rw [fj (by rw [l1];exact ho),if_pos rfl]
 have g4:∀ x y,aa (ai (aA (ai s g x) c (bN (cn s c) i)) o y) g=x:=fun x y=>by rw [fj (by rw [l1];exact ho),if_neg (by omega),g1]
 rw [g3,g4];unfold ai aN aA;simp only [List.set_set];rw [zO bG];rfl
theorem MInv.Mq (h:MInv s) (hg:g < s.gs.length) (st:(aa s g).status=0) (k:(ag s g).kind=6) (e:(aa s g).place=22∨(aa s g).place=23) {o:Nat} {i c:Int} {x y:Gr} (q:xq s g c i o) (c0:1≤c) (c1:c≤s.au.length) (hq:i∈(cn s c).recv∨i∈(cn s c).send) (bG:o≠g) (hh:bH (aa s g) c)
  (hp:(su s i).cs < 0∨0≤(su s i).cs∧(aa s o).aU=false∧y.aU=true) (py:Part (aa s o) y) (e1:y.param=i) (e2:y.token=(aa s o).token) (e3:y.status=(aa s o).status) (e4:(aa s o).aU=true→y.aU=true)
  (h1:x.ops=(aa s g).ops) (h2:x.at_=(aa s g).at_) (h3:x.status=(aa s g).status) (h4:x.token=(aa s g).token) (h5:x.param=(aa s g).param) (h6:x.ak=(aa s g).ak ++ [(o:Int)]) (h7:x.place=22) {d:Su}
  (hd:d.g=(su s i).g∧d.ch=(su s i).ch∧d.cs=(su s i).cs∧d.send=(su s i).send∧d.live=(su s i).live) :
  MInv (ai (aN (ai (aA s c (bN (cn s c) i)) o y) i d) g x):=by
 have hk:(aH (aa s g)).kind=(ag s g).kind:=rfl;have L:=h.loc hg;have G:iw (aa s g) { x with ak:=(aa s g).ak }:=by
  refine ⟨h1,h2,h3,h4,h5,rfl,by unfold SE;omega,st,by omega,by omega,by simp only;omega,?_,?_,?_,?_⟩
  ·show bJ _ x.place;rw [h7];unfold bJ;omega
  ·refine ⟨?_,?_,?_,?_⟩ <;> simp only <;> omega
  ·simp only;omega
  ·simp only;exact .inr (.inr (.inr (.inl h7)))
 have Mr:Wt (aa s o)∧(aa s o).param=-1:=by
  have Lo:=h.loc q.o1;rcases hp with hp | hp
  ·rcases q.q with w | w
   ·exact ⟨.inl ⟨w.1,w.2.1,w.2.2.1⟩,w.2.2.2.2⟩
   ·rcases q.mt with m | m
    ·exact absurd w.1 m.1.ne
    ·omega
  ·have jU:SE (aa s o):=by
    rcases q.mt with m | m
    ·omega
    ·exact m.1
   refine ⟨?_,?_⟩
   ·have:=Inv.LM h.v c0 c1 hq (g:=g) (by omega) (by omega) (by rw [fz];exact hh) (by rw [q.g_];omega);rw [q.g_,fz] at this;rcases this with w | w
    ·exact w
    ·rw [hp.2.1] at w;exact absurd w.2.2 (by simp)
   ·by_cases z:0≤(aa s o).param
    ·have:=Lo.p3 z jU;rw [hp.2.1] at this;cases this
    ·have:=Lo.p0;omega
 have Gg:(o:Int)∉(aa s g).ak:=by
  intro w;have:=Inv.wk h.v g (by omega) (by omega) o (by rw [fz];exact w);rw [fz] at this;omega
 have G1:=G.loc L (by simp only;omega);have Cb:=L.w3;have lx:Loc s.au.length s.aB.length s.gs.length x:=by
  have:=G1.Ge (l:=(aa s g).ak ++ [(o:Int)]) (.inr (.inr (.inl h7))) (fun p hp=>by
   rcases List.mem_append.1 hp with w | w
   ·exact Cb p w
   ·have:=List.mem_singleton.1 w;have:=q.o1;omega) (List.nodup_append.2 ⟨L.w4,by simp,fun a ha b hb=>by rw [List.mem_singleton.1 hb];exact fun z=>Gg (z ▸ ha)⟩) (by simp)
  rw [← h6] at this;exact this
 have zR:∀ i,¬ Own x i:=by
  have ho:aH x=aH (aa s g):=by unfold aH;rw [h1,h2]
  rintro i ⟨_,w | w⟩
  ·have:=w.2.2.1;omega
  ·have:=w.1;unfold SE at this;rw [ho] at this;omega
 have nY:∀ ch,bH x ch↔bH (aa s g) ch:=by
  intro ch;have:=G.hh (by show hP _↔hP x.place;rw [h7];unfold hP;omega) ch;exact this
 refine h.Gb hg c0 c1 lx ⟨.inl ⟨rfl,nY⟩,h.g9 c0 c1,⟨iG,iG⟩,.inr hh⟩ (fun i=>⟨fun w=>absurd w (zR i),fun w=>absurd w (G.own i).1⟩) (fun i d w=>absurd w (zR i)) G.nq (by unfold cQ;omega) (by unfold c7;omega) (fun z hz=>?_) G.nw q.ch q.g_ q.o1 bG Mr.1 Mr.2 q.own (fun w=>?_) ⟨ng,ng⟩ ?_ py e1 e2 e3 h2 hd
 ·rw [h6] at hz;rcases List.mem_append.1 hz with w | w
  ·exact .inl w
  ·exact .inr (List.mem_singleton.1 w)
 ·rcases hp with hp | hp
  ·rcases q.mt with m | m
   ·exact absurd w m.1.ne
   ·omega
  ·exact hp.2.2
 ·intro k a b cl ek;have:=Inv.cl h.v k (by omega) (by omega);rw [fz] at this;obtain ⟨s1,s2,s3,s4,s5,s6,s7,s8,s9,pE,tT⟩:=this cl;rw [ek,fz] at s7 s8 s9 pE tT;rcases hp with hp | hp
  ·rcases q.mt with m | m
   ·have k1:=tT m.1;have e5:(aa s k).hold=i:=by
     have m1:=s9.2;have m2:=q.own.2;rcases m1 with m1 | m1
     ·rcases m2 with m2 | m2
      ·exact m1.2.2.2.symm.trans m2.2.2.2
      ·exact absurd m2.1 m.1.ne
     ·exact absurd m1.1 m.1.ne
    rw [e5,q.ch] at k1;rcases hq with hq | hq
    ·exact k1.1 hq
    ·exact k1.2 hq
   ·omega
  ·have jU:SE (aa s o):=by
    rcases q.mt with m | m
    ·omega
    ·exact m.1
   have:=pE jU;rw [hp.2.1] at this;cases this
theorem MInv.drain (h:MInv s) (hg:g < s.gs.length) (st:(aa s g).status=0) (k:(ag s g).kind=6) (e:(aa s g).place=22) {i:Int} (hq:i∈(cn s (ag s g).ch).recv∨i∈(cn s (ag s g).ch).send):MInv (ff s g i):=by
 have hk:(aH (aa s g)).kind=(ag s g).kind:=rfl;obtain ⟨c0,c1⟩:=h.kn hg (by omega) (by omega);have L:=h.loc hg;obtain ⟨o,q⟩:=h.vw (g:=g) c0 c1 hq;have hh:bH (aa s g) (ag s g).ch:=.inl ⟨by omega,by omega,rfl,by omega⟩;have G:iw (aa s g) { aa s g with hold:=i,place:=23 }:=by
  refine ⟨rfl,rfl,rfl,rfl,rfl,rfl,by unfold SE;omega,st,by omega,by omega,by simp,?_,?_,?_,?_⟩
  ·show bJ _ 23;unfold bJ;omega
  ·refine ⟨?_,?_,?_,?_⟩ <;> simp
  ·simp only;omega
  ·simp
 have bG:=q.ne h G.nq;unfold ff;simp only;have es:su (ai s g { aa s g with hold:=i }) i=su s i:=rfl;rw [es]
 by_cases hn:0≤(su s i).cs
 ·rw [if_pos hn,mz _ _ _ _ hg];refine h.self hg (G.sf L (fun _=>⟨q.i0,q.i1⟩) ?_ (by simp)) rfl (fun _=>?_)
  ·rw [e];unfold hP;simp
  ·simp only;rw [q.ch];exact ⟨c0,c1,.inl ⟨by show 2≤(aH (aa s g)).kind;omega,by show (aH (aa s g)).kind≤6;omega,rfl,by simp⟩,hq,hn⟩
 ·rw [if_neg hn];have l1:(ai s g { aa s g with hold:=i }).gs.length=s.gs.length:=eV;have gg:aa (ai s g { aa s g with hold:=i }) g={ aa s g with hold:=i }:=by rw [fj hg,if_pos rfl]
  have go:aa (ai s g { aa s g with hold:=i }) o=aa s o:=by rw [fj hg,if_neg bG]
  rw [Ce (s:=ai s g { aa s g with hold:=i }) (i:=i) (by rw [l1];exact hg) (by rw [l1];exact q.o1) (by rw [gg]) q.g_ q.ch c0 c1 bG,gg,go,es];have ef:∀ y d x,ai (aN (ai (aA (ai s g { aa s g with hold:=i }) (ag s g).ch (bN (cn (ai s g { aa s g with hold:=i }) (ag s g).ch) i)) o y) i d) g x=ai (aN (ai (aA s (ag s g).ch (bN (cn s (ag s g).ch) i)) o y) i d) g x:=by
   intro y d x;unfold ai aN aA;simp only;rw [zO bG];rfl
  rw [ef];exact h.Mq hg st k (.inl e) (x:={ aa s g with t:=s.step,ak:=(aa s g).ak ++ [(o:Int)],hold:=-1 }) (y:={ aa s o with bE:=s.step,dJ:=(su s i).cs,param:=i }) q c0 c1 hq bG hh (.inl (by omega)) ⟨rfl,rfl,rfl,rfl,rfl,rfl,rfl,rfl,rfl,rfl,rfl⟩ rfl rfl rfl id rfl rfl rfl rfl rfl rfl e ⟨rfl,rfl,rfl,rfl,rfl⟩
theorem MInv.ic (h:MInv s) (hg:g < s.gs.length) (st:(aa s g).status=0) (k:(ag s g).kind=6) (e:(aa s g).place=23):MInv (ic s g):=by
 have hk:(aH (aa s g)).kind=(ag s g).kind:=rfl;have L:=h.loc hg;have G:iw (aa s g) { aa s g with hold:=-1,place:=22 }:=by
  refine ⟨rfl,rfl,rfl,rfl,rfl,rfl,by unfold SE;omega,st,by omega,by omega,by simp,?_,?_,?_,?_⟩
  ·show bJ _ 22;unfold bJ;omega
  ·refine ⟨?_,?_,?_,?_⟩ <;> simp
  ·simp only;omega
  ·simp
 obtain ⟨o,q,c0,c1,hh,hq,jm⟩:=h.Cd hg (.inr (.inl e));have bG:o≠g:=q.ne h G.nq;unfold Sx.ic;simp only [q.g_,Int.toNat_natCast]
 cases hp:(aa s o).aU with
 | true =>
  rw [if_pos rfl,drop_eq rfl c0 c1];exact h.xm hg G c0 c1 ⟨.inl ⟨rfl,G.hh (by rw [e];unfold hP;simp)⟩,h.g9 c0 c1,⟨iG,iG⟩,.inr hh⟩ (by unfold cQ;simp) (by simp)
 | false =>
  rw [if_neg (by simp)];have l1:(ai s o { aa s o with aU:=true }).gs.length=s.gs.length:=eV;have gg:aa (ai s o { aa s o with aU:=true }) g=aa s g:=by rw [fj q.o1,if_neg (by omega)]
  have go:aa (ai s o { aa s o with aU:=true }) o={ aa s o with aU:=true }:=by rw [fj q.o1,if_pos rfl]
  have es:su (ai s o { aa s o with aU:=true }) (aa s g).hold=su s (aa s g).hold:=rfl;rw [Ce (s:=ai s o { aa s o with aU:=true }) (i:=(aa s g).hold) (by rw [l1];exact hg) (by rw [l1];exact q.o1) (by rw [gg]) q.g_ q.ch c0 c1 bG,gg,go,es];rw [mz _ _ _ _ (by simp only [aN,ai,aA,List.length_set];exact hg)];have ef:∀ y d x c,ai (aN (ai (aA (ai s o { aa s o with aU:=true }) c (bN (cn (ai s o { aa s o with aU:=true }) c) (aa s g).hold)) o y) (aa s g).hold d) g x=ai (aN (ai (aA s c (bN (cn s c) (aa s g).hold)) o y) (aa s g).hold d) g x:=by
   intro y d x c;unfold ai aN aA;simp only [List.set_set];rfl
  rw [ef];exact h.Mq hg st k (.inr e) (x:={ aa s g with t:=s.step,ak:=(aa s g).ak ++ [(o:Int)],hold:=-1,place:=22 }) (y:={ aa s o with aU:=true,bE:=s.step,dJ:=(su s (aa s g).hold).cs,param:=(aa s g).hold }) q c0 c1 hq bG hh (.inr ⟨jm,hp,rfl⟩) ⟨rfl,rfl,rfl,rfl,rfl,rfl,rfl,rfl,rfl,rfl,rfl⟩ rfl rfl rfl (fun _=>rfl) rfl rfl rfl rfl rfl rfl rfl ⟨rfl,rfl,rfl,rfl,rfl⟩
theorem MInv.cj (h:MInv s) (hg:g < s.gs.length) (st:(aa s g).status=0):MInv (cj s g).1:=by
 unfold Sx.cj;simp only
 by_cases k:(ag s g).kind≠6
 ·rw [if_pos k];exact h
 rw [if_neg k];have k6:(ag s g).kind=6:=by omega
 have hk:(aH (aa s g)).kind=(ag s g).kind:=rfl
 by_cases hc:(Sx.common s g).2=true
 ·rw [if_pos hc];exact h.common hg st (.inl (by omega))
 rw [if_neg hc]
 by_cases hm:Sx.aL s (ag s g).ch=false
 ·rw [if_pos hm];exact h
 rw [if_neg hm];have mV:=m9.1 (show Sx.aL s (ag s g).ch=true by simpa using hm)
 by_cases e1:(aa s g).place=21
 ·rw [if_pos e1]
  split
  ·exact h.iP hg st (by omega) (by omega) (x:={ aa s g with bE:=s.step,res:=res 4,place:=16 }) rfl rfl rfl rfl rfl rfl (by show bJ _ 16;unfold bJ;omega) (by simp) (by rw [e1];unfold hP;simp)
  ·have hc:=h.g9 mV.1 mV.2;have G:=h.Gf hg st (by omega) (by omega) (x:={ aa s g with bE:=s.step,res:=gj,place:=22 }) rfl rfl rfl rfl rfl rfl (by show bJ _ 22;unfold bJ;omega) (by simp);exact h.xm hg G mV.1 mV.2 (c':={ cn s (ag s g).ch with closed:=true }) ⟨.inl ⟨rfl,G.hh (by rw [e1];unfold hP;simp)⟩,hc,⟨List.Sublist.refl _,List.Sublist.refl _⟩,.inl ⟨rfl,rfl⟩⟩ (by unfold cQ;simp) (by simp)
 rw [if_neg e1]
 by_cases e2:(aa s g).place=22
 ·rw [if_pos e2]
  by_cases q1:0 < (cn s (ag s g).ch).recv.length
  ·rw [if_pos q1];exact h.drain hg st k6 e2 (.inl (tZ (by omega)))
  rw [if_neg q1]
  by_cases q2:0 < (cn s (ag s g).ch).send.length
  ·rw [if_pos q2];exact h.drain hg st k6 e2 (.inr (tZ (by omega)))
  rw [if_neg q2];have G:iw (aa s g) { aa s g with place:=16 }:=by
   refine ⟨rfl,rfl,rfl,rfl,rfl,rfl,by unfold SE;omega,st,by omega,by omega,by simp,?_,?_,?_,?_⟩
   ·show bJ _ 16;unfold bJ;omega
   ·refine ⟨?_,?_,?_,?_⟩ <;> simp
   ·simp only;omega
   ·simp
  exact h.LS hg G (by rw [e2];unfold hP;simp) (by unfold cQ;simp) (by simp)
 rw [if_neg e2]
 by_cases e3:(aa s g).place=23
 ·rw [if_pos e3];exact h.ic hg st k6 e3
 rw [if_neg e3];exact h
end Sx
namespace Sx
variable {s t:ah} {g:Nat} {nc ns n:Int}
theorem Sf.out {x y:Gr} (lx:Loc nc ns n y) (ox:∀ i,¬ Own x i) (oy:∀ i,¬ Own y i) (qx:∀ i j,¬ dI x i j) (hx:∀ ch,¬ bH x ch) (hy:∀ ch,¬ bH y ch) (wx:¬ Wt x) (gP:¬ c7 y) (wk:y.ak=[]):Sf nc ns n x y :=
 ⟨lx,fun ch=>⟨fun w=>absurd w (hy ch),fun w=>absurd w (hx ch)⟩,fun i=>⟨fun w=>absurd w (oy i),fun w=>absurd w (ox i)⟩,fun i d w=>absurd w (oy i),fun i j w=>absurd w (qx i j),gP,fun q=>by rw [wk];simp,fun w=>absurd w.1 wx,fun w=>absurd w.1 wx⟩
def eu (p:Int):Prop:=p=0∨p=1∨p=2∨p=3∨p=4∨p=17∨p=18∨p=19∨p=20
theorem eu.own {x:Gr} (h:eu x.place) (i:Int):¬ Own x i:=by
 rintro ⟨_,w | w⟩
 ·have:=w.2.1;have:=w.2.2.1;unfold eu at h;omega
 ·have:=w.2.1;unfold eu at h;omega
theorem eu.q {x:Gr} (h:eu x.place) (i j:Int):¬ dI x i j:=by
 rintro (w | w)
 ·have:=w.2.1;have:=w.2.2.1;unfold eu at h;omega
 ·have:=w.2.2.2.2;unfold eu at h;omega
theorem eu.holds {x:Gr} (h:eu x.place) (c:Int):¬ bH x c:=by
 rintro (w | w)
 ·have:=w.2.2.2;unfold eu at h;omega
 ·have:=w.2;unfold eu at h;omega
theorem eu.wt {x:Gr} (h:eu x.place):¬ Wt x:=by
 rintro (w | w)
 ·have:=w.2;unfold eu at h;omega
 ·have:=w.2;unfold eu at h;omega
theorem eu.gP {x:Gr} (h:eu x.place):¬ c7 x:=by unfold c7;unfold eu at h;omega
theorem eu.nw {x:Gr} (h:eu x.place):¬ cQ x:=by unfold cQ;unfold eu at h;omega
theorem eu.pm {x:Gr} (h:eu x.place) (L:Loc nc ns n x):x.param=-1∧x.token=false:=by
 constructor
 ·have:=L.p0
  by_cases c:0≤x.param
  ·exact absurd (L.p2 c).1 h.wt
  ·omega
 ·cases c:x.token
  ·rfl
  ·exact absurd (L.tk c).1 h.wt
theorem Sf.outs {x y:Gr} (lx:Loc nc ns n y) (hx:eu x.place) (hy:eu y.place) (wk:y.ak=[]):Sf nc ns n x y :=
 .out lx hx.own hy.own hx.q hx.holds hy.holds hx.wt hy.gP wk
theorem Loc.fresh {x y:Gr} (L:Loc nc ns n x) (h1:y.ops=x.ops) (h2:y.at_=x.at_) (lt:x.at_ < x.ops.length) (ok:bJ (aH x).kind y.place) (hp:y.place=1∨y.place=4∨y.place=18∨y.place=20∨y.place=19) (hs:y.place=19∧y.status=1∨y.place≠19∧y.status=0) (ht:y.token=false) (pm:y.param=-1) (wk:y.ak=[])
  (mk:y.place=1∨y.place=4→1≤(aH x).ch∧(aH x).ch≤nc) (VS:y.place=20→(aH x).kind=1∨7≤(aH x).kind) (ua:0≤ns):Loc nc ns n y:=by
 have ho:aH y=aH x:=by unfold aH;rw [h1,h2]
 have ho':eu y.place:=by unfold eu;omega
 have iC:=L.iC
 constructor
 ·rw [h1];exact L.oI
 ·rw [h1];exact iC
 ·rw [h2];exact L.a0
 ·rw [h1,h2];exact L.a1
 ·rw [h1,h2,ho];exact .inr ⟨lt,ok⟩
 ·rw [ho];intro _ e1 e2 e3 e4
  by_cases c:y.place=20
  ·have:=VS c;omega
  ·exact mk (by omega)
 ·omega
 ·omega
 ·omega
 ·omega
 ·rw [ht];simp
 ·rw [wk];simp
 ·omega
 ·rw [wk];simp
 ·rw [wk];simp
 ·omega
 ·omega
 ·rw [pm];omega
 ·omega
 ·rw [pm];omega
 ·rw [pm];omega
 ·intro _ c;unfold dV at c;omega
theorem MInv.jg (h:MInv s):(0:Int)≤s.aB.length:=by omega
theorem swap_perm (l:List Int) (i j:Nat) (hi:i < l.length) (hj:j < l.length):(swap l i j).Perm l:=by
 unfold swap;rw [List.getD_eq_getElem?_getD,List.getD_eq_getElem?_getD,List.getElem?_eq_getElem hi,List.getElem?_eq_getElem hj];simp only [Option.getD_some];exact List.set_set_perm hi hj
theorem Cf (ds:List Int):∀ n:Nat,(eJ ds n).Perm ((List.range n).map Int.ofNat)
 | 0=>by simp [eJ]
 | n + 1=>by
  have ih:=Cf ds n;have hl:(eJ ds n).length=n:=by have:=ih.length_eq;simpa using this
  unfold eJ;have hm:(ds.getD n 0 % ((n:Int) + 1)).toNat < n + 1:=by
   have h1:=Int.emod_nonneg (ds.getD n 0) (show ((n:Int) + 1)≠0 by omega);have h2:=Int.emod_lt_of_pos (ds.getD n 0) (show (0:Int) < (n:Int) + 1 by omega);omega
  refine (swap_perm _ _ _ (by rw [List.length_append,hl];exact hm) (by rw [List.length_append,hl];exact Nat.lt_succ_self n)).trans ?_;rw [List.range_succ,List.map_append];exact ih.append_right _
theorem VT (ds:List Int) (n:Nat) (i:Int):i∈eJ ds n↔0≤i∧i < n:=by
 rw [(Cf ds n).mem_iff];simp only [List.mem_map,List.mem_range]
 constructor
 ·rintro ⟨a,h1,rfl⟩;exact ⟨by simp,by simp;omega⟩
 ·rintro ⟨h1,h2⟩;exact ⟨i.toNat,by omega,by simp;omega⟩
theorem VU (ds:List Int) (n:Nat):(eJ ds n).Nodup:=by
 rw [(Cf ds n).nodup_iff];exact List.pairwise_map.2 (List.nodup_range.imp (fun h e=>h (Int.ofNat.inj e)))
theorem insert_perm (x:Int):∀ l,(insert x l).Perm (x :: l)
 | []=>List.Perm.refl _
 | y :: l=>by
  unfold insert
  split
  ·exact ((insert_perm x l).cons y).trans (List.Perm.swap x y l)
  ·exact List.Perm.refl _
theorem insert_sorted (x:Int):∀ l:List Int,l.Pairwise (·≤·)→(insert x l).Pairwise (·≤·)
 | [],_=>by simp [insert]
 | y :: l,h=>by
  unfold insert;have h2:=List.pairwise_cons.1 h
  split
  ·rename_i c;refine List.pairwise_cons.2 ⟨fun z hz=>?_,insert_sorted x l h2.2⟩;rcases List.mem_cons.1 ((insert_perm x l).mem_iff.1 hz) with w | w
   ·omega
   ·exact h2.1 z w
  ·rename_i c;refine List.pairwise_cons.2 ⟨fun z hz=>?_,h⟩;rcases List.mem_cons.1 hz with w | w
   ·omega
   ·have:=h2.1 z w;omega
theorem VV (l:List Int):∀ acc:List Int,acc.Pairwise (·≤·)→(l.foldl (fun acc x=>insert x acc) acc).Pairwise (·≤·)∧∀ x,x∈l.foldl (fun acc x=>insert x acc) acc↔x∈acc∨x∈l:=by
 induction l with
 | nil=>intro acc h;simp [h]
 | cons y l ih =>
  intro acc h;have:=ih (insert y acc) (insert_sorted y acc h);simp only [List.foldl_cons];refine ⟨this.1,fun x=>?_⟩;rw [this.2,(insert_perm y acc).mem_iff];simp only [List.mem_cons]
  grind
theorem VW (l:List Int):∀ acc:List Int,acc.Pairwise (· < ·)→(∀ x∈acc,0 < x)→l.Pairwise (·≤·)→(∀ x∈acc,∀ y∈l,x≤y)→(l.foldl iK acc).Pairwise (· < ·)∧∀ x,x∈l.foldl iK acc↔x∈acc∨x∈l∧0 < x:=by
 induction l with
 | nil=>intro acc h h0 _ _;simp [h]
 | cons y l ih =>
  intro acc h h0 hl hle;have j8:=List.pairwise_cons.1 hl;simp only [List.foldl_cons];have Ms:0 < acc.length→acc.getLastD 0∈acc:=fun hp=>by
   cases acc with
   | nil=>simp at hp
   | cons a b=>simp [List.getLastD]
  unfold iK
  split
  ·rename_i c;have:=ih acc h h0 j8.2 (fun x hx z hz=>hle x hx z (List.mem_cons_of_mem _ hz));unfold iK at this;refine ⟨this.1,fun x=>?_⟩;rw [this.2];simp only [List.mem_cons]
   constructor
   ·rintro (w | w)
    ·exact .inl w
    ·exact .inr ⟨.inr w.1,w.2⟩
   ·rintro (w | ⟨w | w,w2⟩)
    ·exact .inl w
    ·subst w;rcases c with c | c
     ·omega
     ·exact .inl (c.2 ▸ Ms c.1)
    ·exact .inr ⟨w,w2⟩
  ·rename_i c;have hy:0 < y:=by omega
   have cJ:∀ x∈acc,x < y:=by
    intro x hx;have h1:=hle x hx y (by simp);have h2:acc.getLastD 0≠y:=fun e=>c (.inr ⟨List.length_pos_iff.2 (List.ne_nil_of_mem hx),e⟩)
    by_cases q:x=y
    ·exfalso
     subst q;have hp:0 < acc.length:=List.length_pos_iff.2 (List.ne_nil_of_mem hx);have h3:=hle _ (Ms hp) x (by simp);have ha:=Po.En (List.ne_nil_of_mem hx);generalize acc.getLastD 0=z at *;rw [ha] at h hx;rcases List.mem_append.1 hx with w | w
     ·have:=(List.pairwise_append.1 h).2.2 x w z (List.mem_singleton.2 rfl);omega
     ·exact h2 (List.mem_singleton.1 w).symm
    ·omega
   have:=ih (acc ++ [y]) (List.pairwise_append.2 ⟨h,by simp,fun a ha b hb=>by rw [List.mem_singleton.1 hb];exact cJ a ha⟩) (fun x hx=>by
    rcases List.mem_append.1 hx with w | w
    ·exact h0 x w
    ·rw [List.mem_singleton.1 w];exact hy) j8.2 (fun x hx z hz=>by
    rcases List.mem_append.1 hx with w | w
    ·exact hle x w z (List.mem_cons_of_mem _ hz)
    ·rw [List.mem_singleton.1 w];exact j8.1 z hz)
   unfold iK at this;refine ⟨this.1,fun x=>?_⟩;rw [this.2];simp only [List.mem_append,List.mem_singleton,List.mem_cons,List.not_mem_nil,or_false]
   constructor
   ·rintro ((w | w) | w)
    ·exact .inl w
    ·subst w;exact .inr ⟨.inl rfl,hy⟩
    ·exact .inr ⟨.inr w.1,w.2⟩
   ·rintro (w | ⟨w | w,w2⟩)
    ·exact .inl (.inl w)
    ·exact .inl (.inr w)
    ·exact .inr ⟨w,w2⟩
theorem Gh (l:List Int):(aF l).Pairwise (· < ·)∧∀ x,x∈aF l↔x∈l∧0 < x:=by
 have h1:=VV l [] List.Pairwise.nil;have h2:=VW (sort l) [] List.Pairwise.nil (by simp) h1.1 (by simp);refine ⟨h2.1,fun x=>?_⟩;have:=h2.2 x;unfold aF;rw [this];have h3:=h1.2 x;unfold sort;rw [h3];simp
theorem Mt (s:ah) (h0:0≤s.drawn) (h1:s.drawn≤s.dG.length):∀ n,s.drawn≤(drawn s n).2∧(drawn s n).2≤s.dG.length
 | 0=>⟨Int.le_refl _,h1⟩
 | n + 1=>by
  have ih:=Mt s h0 h1 n;unfold drawn draw
  split
  ·exact ih
  ·simp only;omega
end Sx
namespace Sx
variable {s t:ah} {g:Nat} {nc ns n:Int}
theorem MInv.VX (h:MInv s) {d:Int} (d0:0≤d) (d1:d≤s.dG.length):MInv { s with drawn:=d } :=
 ⟨h.v,h.n1,h.n8,h.c8,h.sn,h.mw,h.c1,h.tV,h.ca,h.f0,h.po,d0,d1,h.du,h.d5,h.dn⟩
theorem MInv.outs (h:MInv s) (hg:g < s.gs.length) {y:Gr} (lx:Loc s.au.length s.aB.length s.gs.length y) (hx:eu (aa s g).place) (hy:eu y.place) (wk:y.ak=[]) (ha:y.at_=(aa s g).at_):MInv (ai s g y) :=
 h.self hg (.outs lx hx hy wk) ha (fun w=>absurd w hy.nw)
theorem ni {x y:Gr}:ai (ai s g x) g y=ai s g y:=by unfold ai;simp only [List.set_set]
theorem VY (hg:g < s.gs.length) (st:(aa s g).status=0) (ht:(aa s g).token=false):never s g=ai s g { aa s g with place:=19,status:=1 }:=by
 unfold never fF aG;simp only [je s g g _ hg,if_true,st,ht];rw [if_neg (by simp),ni]
theorem Gi (s:ah) (g:Nat) (x:Gr) (r:Md.an) (p:Int) (hg:g < s.gs.length):br (ai s g x) g r p=ai s g { x with bE:=s.step,res:=r,place:=p }:=by
 unfold br;rw [je s g g x hg,if_pos rfl,ni];rfl
theorem Mu (s:ah) (g:Nat) (x:Gr) (hg:g < s.gs.length) (st:x.status=0) (ht:x.token=false):never (ai s g x) g=ai s g { x with place:=19,status:=1 }:=by
 have e:aa (ai s g x) g=x:=by rw [je s g g x hg,if_pos rfl]
 rw [VY (by rw [eV];exact hg) (by rw [e];exact st) (by rw [e];exact ht),e,ni]
theorem Loc.VZ {x y:Gr} (L:Loc nc ns n x) (h1:y.ops=x.ops) (h2:y.at_=x.at_) (lt:x.at_ < x.ops.length) (k:(aH x).kind=9) (e:y.place=24) (st:y.status=0) (ht:y.token=false) (pm:y.param=-1) (wk:y.ak=[]) (ek:y.k=0) (es:y.ax=[]) (er:y.res.code=0) (ua:0≤ns)
  (o1:∀ i∈y.order,0≤i∧i < (aH x).cases.length∧bU x i∈y.aF) (o2:y.order.Nodup) (o3:1≤y.order.length) (l1:∀ c∈y.aF,1≤c∧c≤nc) (l2:y.aF.Pairwise (· < ·)) (l3:1≤y.aF.length):Loc nc ns n y:=by
 have ho:aH y=aH x:=by unfold aH;rw [h1,h2]
 have hc:∀ j,bU y j=bU x j:=fun j=>by unfold bU;rw [ho]
 have iC:=L.iC
 constructor
 ·rw [h1];exact L.oI
 ·rw [h1];exact iC
 ·rw [h2];exact L.a0
 ·rw [h1,h2];exact L.a1
 ·rw [h1,h2,ho,e];exact .inr ⟨lt,by unfold bJ;omega⟩
 ·rw [ho];intro _ _ _ _ _;omega
 ·omega
 ·omega
 ·omega
 ·omega
 ·rw [ht];simp
 ·rw [wk];simp
 ·omega
 ·rw [wk];simp
 ·rw [wk];simp
 ·omega
 ·omega
 ·rw [pm];omega
 ·omega
 ·rw [pm];omega
 ·rw [pm];omega
 ·intro _ _
  constructor
  ·intro i hi;rw [ho,hc];exact o1 i hi
  ·exact o2
  ·exact o3
  ·exact l1
  ·exact l2
  ·exact l3
  ·omega
  ·omega
  ·omega
  ·omega
  ·intro _;exact es
  ·omega
  ·omega
  ·rw [es];intro j a b;simp at b;omega
  ·omega
  ·intro c;omega
  ·omega
  ·intro _;exact er
  ·omega
  ·intro c;omega
theorem Mv {x:Gr} (L:Loc nc ns n x) (lt:x.at_ < x.ops.length):Pn.fu (aH x)=true:=by
 have:=L.a0;unfold aH;rw [List.getD_eq_getElem?_getD,List.getElem?_eq_getElem (by omega)];exact L.iC _ (List.getElem_mem _)
theorem Gj {o:Pn.Op} (h:Pn.fu o=true):1≤o.kind∧o.kind≤9∧0≤o.ch∧o.ch≤8∧0≤o.n∧o.n≤4∧0≤o.v∧o.v≤255∧o.cases.length≤6∧∀ c∈o.cases,Pn.lA c=true:=by
 unfold Pn.fu at h;simp only [decide_eq_true_eq] at h;exact ⟨h.1,h.2.1,h.2.2.1,h.2.2.2.1,h.2.2.2.2.1,h.2.2.2.2.2.1,h.2.2.2.2.2.2.1,h.2.2.2.2.2.2.2.1,h.2.2.2.2.2.2.2.2.1,h.2.2.2.2.2.2.2.2.2.2.2.2.2⟩
theorem MInv.kJ (h:MInv s) (hg:g < s.gs.length) {x:Gr} (hx:eu (aa s g).place) (h1:x.ops=(aa s g).ops) (h2:x.at_=(aa s g).at_) (lt:x.at_ < x.ops.length) (k:(aH (aa s g)).kind=9) (st:x.status=0) (ht:x.token=false) (pm:x.param=-1) (wk:x.ak=[]) (ek:x.k=0) (es:x.ax=[]) (er:x.res.code=0) (eo:x.order=[]):MInv (Sx.kJ (ai s g x) g (aH (aa s g))):=by
 have L:=h.loc hg;obtain ⟨o,ho⟩:∃ o,aH (aa s g)=o:=⟨_,rfl⟩
 have hox:aH x=o:=by rw [← ho];unfold aH;rw [h1,h2]
 rw [ho] at k ⊢;unfold Sx.kJ;simp only;have kT:=Mt (ai s g x) h.sE h.tW o.cases.length;obtain ⟨d,hd⟩:∃ d,(drawn (ai s g x) o.cases.length).2=d:=⟨_,rfl⟩
 rw [hd] at kT ⊢;have h':MInv { s with drawn:=d }:=h.VX (by have:=h.sE;have:(ai s g x).drawn=s.drawn:=rfl;omega) kT.2;have V0:=VT (drawn (ai s g x) o.cases.length).1 o.cases.length;have V1:=VU (drawn (ai s g x) o.cases.length).1 o.cases.length;generalize eJ (drawn (ai s g x) o.cases.length).1 o.cases.length=ord at *;have em:∀ c,aL (ai s g x) c=aL s c:=fun _=>rfl
 simp only [em];have gx:aa (ai s g x) g=x:=by rw [je s g g x hg,if_pos rfl]
 rw [gx,eo,List.nil_append];have gL:g < ({ s with drawn:=d }:ah).gs.length:=hg;obtain ⟨fX,xx⟩:∃ fX,ord.filter (fun i=>aL s (cD o i).ch)=fX:=⟨_,rfl⟩
 rw [xx];have gm:∀ i∈fX,0≤i∧i < o.cases.length∧1≤(cD o i).ch∧(cD o i).ch≤s.au.length:=by
  intro i hi;rw [← xx,List.mem_filter] at hi;have a:=(V0 i).1 hi.1;have b:=m9.1 hi.2;omega
 have gn:fX.Nodup:=by rw [← xx];exact V1.filter _
 have ls:=Gh (fX.map (fun i=>(cD o i).ch));obtain ⟨y,hy⟩:∃ y,({ x with order:=fX,aF:=aF (fX.map (fun i=>(cD o i).ch)),place:=24 }:Gr)=y:=⟨_,rfl⟩
 rw [hy];have e1:ai { ai s g x with drawn:=d } g y=ai { s with drawn:=d } g y:=by unfold ai;simp only [List.set_set]
 rw [e1];have y1:y.ops=(aa s g).ops∧y.at_=(aa s g).at_∧y.place=24∧y.status=0∧y.token=false∧y.param=-1∧y.ak=[]∧y.k=0∧y.ax=[]∧y.res.code=0∧y.order=fX∧y.aF=aF (fX.map (fun i=>(cD o i).ch)):=by
  subst hy;exact ⟨h1,h2,rfl,st,ht,pm,wk,ek,es,er,rfl,rfl⟩
 have eY:∀ p:Int,bJ 9 p→(p=18∨p=19)→∀ z:Gr,z.ops=y.ops→z.at_=y.at_→z.place=p→(p=19∧z.status=1∨p≠19∧z.status=0)→z.token=false→z.param=-1→z.ak=[]→MInv (ai { s with drawn:=d } g z):=by
  intro p ok hp z z1 z2 z3 z4 z5 z6 z7;refine h'.outs gL (Loc.fresh L (z1.trans y1.1) (z2.trans y1.2.1) (by rw [← h1,← h2];exact lt) (by rw [ho,k,z3];exact ok) (by rw [z3];omega) (by rw [z3];exact z4) z5 z6 z7 (by rw [z3];omega) (by rw [z3];omega) h.jg) hx (by unfold eu;omega) z7 (z2.trans y1.2.1)
 split
 ·rename_i hp;have yH:∀ ch,¬ bH y ch:=by
   rintro ch (w | w)
   ·have:=w.2.1;have h3:aH y=o:=by rw [← ho];unfold aH;rw [y1.1,y1.2.1]
    rw [h3] at this;omega
   ·rcases w.2 with w | w
    ·omega
    ·rw [y1.2.2.2.2.2.2.2.1] at w;simp at w
  have yO:∀ i,¬ Own y i:=by
   rintro i ⟨_,w | w⟩
   ·have:=w.2.2.1;omega
   ·have:=w.2.1;omega
  have bG:fX≠[]:=by intro e;rw [e] at hp;simp at hp
  refine h'.self gL (Sf.out (Loc.VZ L y1.1 y1.2.1 (by rw [← h1,← h2];exact lt) (by rw [ho];exact k) y1.2.2.1 y1.2.2.2.1 y1.2.2.2.2.1 y1.2.2.2.2.2.1 y1.2.2.2.2.2.2.1 y1.2.2.2.2.2.2.2.1 y1.2.2.2.2.2.2.2.2.1 y1.2.2.2.2.2.2.2.2.2.1 h.jg ?_ ?_ ?_ ?_ ?_ ?_) hx.own yO hx.q hx.holds yH hx.wt (by unfold c7;omega) y1.2.2.2.2.2.2.1) y1.2.1 (fun w=>by unfold cQ at w;omega)
  ·intro i hi;rw [y1.2.2.2.2.2.2.2.2.2.2.1] at hi;have:=gm i hi;rw [ho,y1.2.2.2.2.2.2.2.2.2.2.2];refine ⟨this.1,this.2.1,?_⟩;unfold bU;rw [ho];exact (ls.2 _).2 ⟨List.mem_map.2 ⟨i,hi,rfl⟩,by omega⟩
  ·rw [y1.2.2.2.2.2.2.2.2.2.2.1];exact gn
  ·rw [y1.2.2.2.2.2.2.2.2.2.2.1];exact List.length_pos_iff.2 bG
  ·intro c hc;rw [y1.2.2.2.2.2.2.2.2.2.2.2] at hc;obtain ⟨i,hi,rfl⟩:=List.mem_map.1 ((ls.2 c).1 hc).1;have:=gm i hi;exact ⟨this.2.2.1,this.2.2.2⟩
  ·rw [y1.2.2.2.2.2.2.2.2.2.2.2];exact ls.1
  ·rw [y1.2.2.2.2.2.2.2.2.2.2.2];obtain ⟨i,hi⟩:=List.exists_mem_of_ne_nil _ bG;have:=gm i hi;exact List.length_pos_iff.2 (List.ne_nil_of_mem ((ls.2 _).2 ⟨List.mem_map.2 ⟨i,hi,rfl⟩,by omega⟩))
 ·split
  ·rw [Gi _ _ _ _ _ gL];exact eY 18 (.inl rfl) (.inl rfl) _ rfl rfl rfl (.inr ⟨by decide,y1.2.2.2.1⟩) y1.2.2.2.2.1 y1.2.2.2.2.2.1 y1.2.2.2.2.2.2.1
  ·rw [Mu _ _ _ gL y1.2.2.2.1 y1.2.2.2.2.1];exact eY 19 (by unfold bJ;omega) (.inr rfl) _ rfl rfl rfl (.inl ⟨rfl,rfl⟩) y1.2.2.2.2.1 y1.2.2.2.2.2.1 y1.2.2.2.2.2.2.1
end Sx
namespace Sx
variable {s t:ah} {g:Nat} {nc ns n:Int}
theorem MInv.kK (h:MInv s) (hg:g < s.gs.length) (st:(aa s g).status=0) (e:(aa s g).place=0):MInv (kK s g):=by
 have L:=h.loc hg;have hx:eu (aa s g).place:=.inl e;obtain ⟨pm,tk⟩:=hx.pm L;have wk:=h.xu hg (by omega);unfold Sx.kK;simp only
 by_cases ha:((aa s g).ops.length:Int)≤(aa s g).at_
 ·rw [if_pos ha];refine h.outs hg (y:={ aa s g with status:=2,token:=false }) ?_ hx hx wk rfl;have iC:=L.iC;have a1:=L.a1
  constructor
  ·exact L.oI
  ·exact iC
  ·exact L.a0
  ·exact a1
  ·exact .inl e
  ·intro c;exact absurd e c
  ·exact .inr (.inr rfl)
  ·simp
  ·simp only;omega
  ·intro _;exact ⟨e,by simp only;omega⟩
  ·simp
  ·simp only;rw [wk];simp
  ·simp only;omega
  ·simp only;rw [wk];simp
  ·simp only;rw [wk];simp
  ·simp only;omega
  ·simp only;omega
  ·exact L.p0
  ·simp only;omega
  ·simp only;omega
  ·simp only;omega
  ·intro _ c;unfold dV at c;simp only at c;omega
 rw [if_neg ha];have lt:(aa s g).at_ < (aa s g).ops.length:=by omega
 obtain ⟨x,yP⟩:∃ x,({ oX (aa s g) with call:=s.step }:Gr)=x:=⟨_,rfl⟩
 have e2:ai (clear s g) g { aa (clear s g) g with call:=(clear s g).step }=ai s g x:=by
  unfold clear;rw [je s g g _ hg,if_pos rfl,ni,← yP];rfl
 have x1:x.ops=(aa s g).ops∧x.at_=(aa s g).at_∧x.place=0∧x.status=0∧x.token=false∧x.param=-1∧x.ak=[]∧x.k=0∧x.ax=[]∧x.res.code=0∧x.order=[]:=by
  subst yP;exact ⟨rfl,rfl,e,st,tk,rfl,rfl,rfl,rfl,rfl,rfl⟩
 have gx:aa (ai s g x) g=x:=by rw [je s g g x hg,if_pos rfl]
 have eo:ag (ai s g x) g=aH (aa s g):=by unfold ag;rw [gx,x1.1,x1.2.1];rfl
 have em:∀ c,Sx.aL (ai s g x) c=Sx.aL s c:=fun _=>rfl
 rw [e2,eo];simp only [em];have rf:=Gj (Mv L lt);generalize hk:(aH (aa s g)).kind=kd at *;have fin:∀ (p:Int),bJ kd p→(p=1∨p=4∨p=18∨p=20∨p=19)→(p=1∨p=4→Sx.aL s (aH (aa s g)).ch=true)→(p=20→kd=1∨7≤kd)→∀ z:Gr,z.ops=x.ops→z.at_=x.at_→z.place=p→(p=19∧z.status=1∨p≠19∧z.status=0)→z.token=false→z.param=-1→z.ak=[]→MInv (ai s g z):=by
  intro p ok hp hm hq z z1 z2 z3 z4 z5 z6 z7;refine h.outs hg (Loc.fresh L (z1.trans x1.1) (z2.trans x1.2.1) lt (by rw [hk,z3];exact ok) (by rw [z3];exact hp) (by rw [z3];exact z4) z5 z6 z7 (by rw [z3];exact fun w=>m9.1 (hm w)) (by rw [z3,hk];exact hq) h.jg) hx (by unfold eu;rw [z3];omega) z7 (z2.trans x1.2.1)
 have gT:∀ p:Int,aG (ai s g x) g p=ai s g { x with place:=p }:=fun p=>mz _ _ _ _ hg
 have pT:∀ r,br (ai s g x) g r 18=ai s g { x with bE:=s.step,res:=r,place:=18 }:=fun r=>Gi _ _ _ _ _ hg
 have nT:never (ai s g x) g=ai s g { x with place:=19,status:=1 }:=Mu _ _ _ hg x1.2.2.2.1 x1.2.2.2.2.1;have Cg:∀ p:Int,bJ kd p→(p=1∨p=4∨p=20)→(p=1∨p=4→Sx.aL s (aH (aa s g)).ch=true)→(p=20→kd=1∨7≤kd)→MInv (aG (ai s g x) g p):=by
  intro p ok hp hm hq;rw [gT];exact fin p ok (by omega) hm hq _ rfl rfl rfl (.inr ⟨by omega,x1.2.2.2.1⟩) x1.2.2.2.2.1 x1.2.2.2.2.2.1 x1.2.2.2.2.2.2.1
 have Mw:∀ r,MInv (br (ai s g x) g r 18):=by
  intro r;rw [pT];exact fin 18 (.inl rfl) (by simp) (by simp) (by simp) _ rfl rfl rfl (.inr ⟨by decide,x1.2.2.2.1⟩) x1.2.2.2.2.1 x1.2.2.2.2.2.1 x1.2.2.2.2.2.2.1
 have goN:bJ kd 19→MInv (never (ai s g x) g):=by
  intro ok;rw [nT];exact fin 19 ok (by simp) (by simp) (by simp) _ rfl rfl rfl (.inl ⟨rfl,rfl⟩) x1.2.2.2.2.1 x1.2.2.2.2.2.1 x1.2.2.2.2.2.2.1
 by_cases k1:kd=1∨kd=7∨kd=8
 ·rw [if_pos k1];exact Cg 20 (.inr (.inl ⟨k1,rfl⟩)) (by simp) (by simp) (by omega)
 rw [if_neg k1]
 by_cases k2:kd=2∨kd=3
 ·rw [if_pos k2]
  by_cases hm:Sx.aL s (aH (aa s g)).ch=true
  ·rw [if_pos hm];exact Cg 4 (.inr (.inr (.inl ⟨k2,by simp⟩))) (by simp) (fun _=>hm) (by simp)
  ·rw [if_neg hm];exact goN (.inr (.inr (.inl ⟨k2,by simp⟩)))
 rw [if_neg k2]
 by_cases k3:kd=4∨kd=5
 ·rw [if_pos k3]
  by_cases hm:Sx.aL s (aH (aa s g)).ch=true
  ·rw [if_pos hm];exact Cg 1 (by unfold bJ;omega) (by simp) (fun _=>hm) (by simp)
  ·rw [if_neg hm];exact Mw _
 rw [if_neg k3]
 by_cases k4:kd=6
 ·rw [if_pos k4]
  by_cases hm:Sx.aL s (aH (aa s g)).ch=true
  ·rw [if_pos hm];exact Cg 4 (by unfold bJ;omega) (by simp) (fun _=>hm) (by simp)
  ·rw [if_neg hm];exact Mw _
 rw [if_neg k4];exact h.kJ hg hx x1.1 x1.2.1 (by rw [x1.1,x1.2.1];exact lt) (by rw [hk];omega) x1.2.2.2.1 x1.2.2.2.2.1 x1.2.2.2.2.2.1 x1.2.2.2.2.2.2.1 x1.2.2.2.2.2.2.2.1 x1.2.2.2.2.2.2.2.2.1 x1.2.2.2.2.2.2.2.2.2.1 x1.2.2.2.2.2.2.2.2.2.2
theorem MInv.makes (h:MInv s) (hl:s.au.length < 8) {m:Int} (m0:0≤m) (m4:m≤4):MInv { s with au:=s.au ++ [⟨m,[],false,-1,[],[]⟩] }:=by
 have ec:∀ c:Int,1≤c→c≤s.au.length→cn { s with au:=s.au ++ [⟨m,[],false,-1,[],[]⟩] } c=cn s c:=by
  intro c a b;unfold cn;simp only;rw [List.getD_eq_getElem?_getD,List.getD_eq_getElem?_getD,List.getElem?_append_left (by omega)]
 have en:∀ c:Int,c=s.au.length + 1→cn { s with au:=s.au ++ [⟨m,[],false,-1,[],[]⟩] } c=⟨m,[],false,-1,[],[]⟩:=by
  intro c a;unfold cn;simp only;rw [List.getD_eq_getElem?_getD,List.getElem?_append_right (by omega)];have:(c - 1).toNat - s.au.length=0:=by omega
  rw [this];rfl
 have I:=h.v;have hh:∀ g,0≤g→g < (s.gs.length:Int)→∀ c,bH (gA s g) c→c≤s.au.length:=by
  intro g a b c hc;have L:=I.loc g a b;rcases hc with w | w
  ·rw [w.2.2.1];exact (L.B0 (by omega) (by omega) (by omega) w.1 w.2.1).2
  ·have sp:dV (gA s g).place:=by unfold dV;omega
   rcases w.2 with q | q
   ·exact ((L.se w.1 sp).l1 c q.2).2
   ·exact ((L.se w.1 sp).l1 c (List.mem_of_mem_take q.2)).2
 refine ⟨?_,h.n1,h.n8,by simp;omega,h.sn,h.mw,h.c1,h.tV,h.ca,h.f0,h.po,h.sE,h.tW,h.du,h.d5,h.dn⟩;unfold V;have el:(({ s with au:=s.au ++ [⟨m,[],false,-1,[],[]⟩] }:ah).au.length:Int)=s.au.length + 1:=by simp
 rw [el];generalize hs:({ s with au:=s.au ++ [⟨m,[],false,-1,[],[]⟩] }:ah)=s2 at *;have lP:s2.gs=s.gs:=by subst hs;rfl
 have eg:gA s2=gA s:=by funext g;unfold gA aa;rw [lP]
 have pR:su s2=su s:=by funext g;unfold su;subst hs;rfl
 have V2:s2.aB=s.aB:=by subst hs;rfl
 have Mx:∀ i,gX s2 i=gX s i:=fun i=>by subst hs;rfl
 rw [eg,pR,lP,V2];have sp:∀ c:Int,1≤c→c≤s.au.length + 1→c≤s.au.length∨c=s.au.length + 1:=fun c _ _=>by omega
 constructor
 ·intro g a b;exact (I.loc g a b).mono (by omega)
 ·intro c a b;rcases sp c a b with w | w
  ·rw [ec c a w];exact I.jS c a w
  ·rw [en c w];exact .inl rfl
 ·intro g a b c d e;rcases sp c d e with w | w
  ·rw [ec c d w];exact I.jD g a b c d w
  ·rw [en c w]
   constructor
   ·intro q;have:=hh g a b c q;omega
   ·intro q;simp only at q;omega
 ·intro c a b;rcases sp c a b with w | w
  ·rw [ec c a w];exact I.cap c a w
  ·rw [en c w];simp;omega
 ·intro g a b i hi;have:=I.own g a b i hi;rw [Mx];exact this
 ·intro c a b i;rcases sp c a b with w | w
  ·rw [ec c a w];exact I.q c a w i
  ·rw [en c w];simp
 ·intro c a b;rcases sp c a b with w | w
  ·rw [ec c a w];exact I.nd c a w
  ·rw [en c w];simp
 ·intro k a b w;have:=I.cU k a b w;rw [ec _ this.1 this.2.1];exact ⟨this.1,by omega,this.2.2⟩
 ·intro k a b w;have:=I.cl k a b w;rw [ec _ this.1 this.2.1];exact ⟨this.1,by omega,this.2.2⟩
 ·exact I.sA
 ·exact I.wk
 ·exact I.qO
 ·exact I.su
 ·intro i hi;rw [Mx] at hi;exact I.lv i hi
theorem MInv.kL (h:MInv s) (hg:g < s.gs.length) (st:(aa s g).status=0) (e:(aa s g).place=20):MInv (kL s g):=by
 have L:=h.loc hg;have hx:eu (aa s g).place:=by unfold eu;omega
 obtain ⟨pm,tk⟩:=hx.pm L;have wk:=h.xu hg (by omega);have lt:=(L.pl.resolve_left (by omega)).1;have rf:=Gj (Mv L lt);have ho:ag s g=aH (aa s g):=rfl;have key:∀ (t:ah) (r:Md.an),MInv t→t.gs=s.gs→MInv (br t g r 18):=by
  intro t r ht My;have eg:aa t g=aa s g:=by unfold aa;rw [My]
  have gL:g < t.gs.length:=by rw [My];exact hg
  refine ht.outs gL (y:={ aa t g with bE:=t.step,res:=r,place:=18 }) ?_ (by rw [eg];exact hx) (by unfold eu;simp) (by rw [eg];exact wk) rfl;have Lt:=ht.loc gL;exact Loc.fresh Lt rfl rfl (by rw [eg];exact lt) (.inl rfl) (by simp) (.inr ⟨by simp,by rw [eg];exact st⟩) (by rw [eg];exact tk) (by rw [eg];exact pm) (by rw [eg];exact wk) (by simp) (by simp) ht.jg
 unfold Sx.kL;simp only
 split
 ·exact key s _ h rfl
 split
 ·rename_i c1 c2;exact key _ _ (h.makes (by omega) (by rw [ho];exact rf.2.2.2.2.1) (by rw [ho];exact rf.2.2.2.2.2.1)) rfl
 split
 ·exact key s _ h rfl
 split
 ·exact key s _ h rfl
 ·exact key s _ h rfl
theorem V3 {l:List Nat} (f f':Nat→Int) {g:Nat} (hn:l.Nodup) (hg:g∈l) (he:∀ h∈l,h≠g→f' h=f h):(l.map f').sum=(l.map f).sum + (f' g - f g):=by
 induction l with
 | nil=>simp at hg
 | cons a l ih =>
  have me:=List.nodup_cons.1 hn;simp only [List.map_cons,List.sum_cons];rcases List.mem_cons.1 hg with w | w
  ·subst w;have:l.map f'=l.map f:=List.map_congr_left fun h hh=>he h (List.mem_cons_of_mem _ hh) (fun c=>me.1 (c ▸ hh))
   rw [this];omega
  ·have:=ih me.2 w (fun h hh bG=>he h (List.mem_cons_of_mem _ hh) bG);rw [this,he a (by simp) (fun c=>me.1 (c ▸ w))];omega
theorem MInv.answer (h:MInv s) (hg:g < s.gs.length) (st:(aa s g).status=0) (e:(aa s g).place=18):MInv (answer s g):=by
 have L:=h.loc hg;have hx:eu (aa s g).place:=by unfold eu;omega
 obtain ⟨pm,tk⟩:=hx.pm L;have lt:=(L.pl.resolve_left (by omega)).1;have iC:=L.iC;obtain ⟨y,hy⟩:∃ y,oX { aa s g with at_:=(aa s g).at_ + 1,place:=0 }=y:=⟨_,rfl⟩
 have y1:y.ops=(aa s g).ops∧y.at_=(aa s g).at_ + 1∧y.place=0∧y.status=0∧y.token=false∧y.param=-1∧y.ak=[]:=by
  subst hy;exact ⟨rfl,rfl,rfl,st,tk,rfl,rfl⟩
 have ea:Sx.answer s g={ ai s g y with done:=s.done ++ [mark s g s.step] }:=by
  unfold Sx.answer clear;simp only;have e1:aa { s with done:=s.done ++ [mark s g s.step] } g=aa s g:=rfl;rw [e1,je { s with done:=s.done ++ [mark s g s.step] } g g _ hg,if_pos rfl,ni,hy];rfl
 rw [ea];have ly:Loc s.au.length s.aB.length s.gs.length y:=by
  have a0:=L.a0;have ua:=h.jg
  constructor
  ·rw [y1.1];exact L.oI
  ·rw [y1.1];exact iC
  ·omega
  ·rw [y1.1];omega
  ·exact .inl y1.2.2.1
  ·intro c;exact absurd y1.2.2.1 c
  ·exact .inl y1.2.2.2.1
  ·omega
  ·omega
  ·omega
  ·rw [y1.2.2.2.2.1];simp
  ·rw [y1.2.2.2.2.2.2];simp
  ·omega
  ·rw [y1.2.2.2.2.2.2];simp
  ·rw [y1.2.2.2.2.2.2];simp
  ·omega
  ·omega
  ·rw [y1.2.2.2.2.2.1];omega
  ·omega
  ·rw [y1.2.2.2.2.2.1];omega
  ·rw [y1.2.2.2.2.2.1];omega
  ·intro _ c;unfold dV at c;omega
 have f:Sf s.au.length s.aB.length s.gs.length (aa s g) y:=.outs ly hx (.inl y1.2.2.1) y1.2.2.2.2.2.2;have v:V (ai s g y):=by
  have eA:=fz s g;have I:=Inv.self h.v (g:=g) (x:=y) (by omega) (by omega) f.lx (by rw [eA];exact f.hh) (by rw [eA];exact f.ow) (by rw [eA];exact f.mt) (by rw [eA];exact f.qx) (fun w=>by unfold cQ at w;omega) f.gP (by rw [eA];exact f.wx) (by rw [eA];exact f.wg) (by rw [eA];exact f.cg);unfold V;rw [eV];exact I.tS (fun k k0 _=>sD hg rfl k k0) (fun _ _ _=>rfl) (fun _ _ _=>rfl) (fun _ _ _=>Iff.rfl)
 refine ⟨v,by rw [show ({ ai s g y with done:=s.done ++ [mark s g s.step] }:ah).gs.length=s.gs.length from eV];exact h.n1,by rw [show ({ ai s g y with done:=s.done ++ [mark s g s.step] }:ah).gs.length=s.gs.length from eV];exact h.n8,h.c8,h.sn,h.mw,h.c1,h.tV,by rw [show ({ ai s g y with done:=s.done ++ [mark s g s.step] }:ah).gs.length=s.gs.length from eV];exact h.ca,h.f0,h.po,h.sE,h.tW,h.du,h.d5,?_⟩;have hs:oJ { ai s g y with done:=s.done ++ [mark s g s.step] }=oJ s + 1:=by
  have hl:(ai s g y).gs.length=s.gs.length:=eV;unfold oJ
  show ((List.range (ai s g y).gs.length).map (fun k=>(aa (ai s g y) k).at_)).sum=_;rw [hl,V3 (fun k=>(aa s k).at_) (fun k=>(aa (ai s g y) k).at_) (g:=g) List.nodup_range (by simpa using hg) (fun k _ bG=>by rw [je s g k y hg,if_neg bG])];rw [je s g g y hg,if_pos rfl,y1.2.1];omega
 rw [hs];have:=h.dn;simp only [List.length_append,List.length_cons,List.length_nil];omega
theorem MInv.js (h:MInv s) (hg:g < s.gs.length) (st:(aa s g).status=0):MInv (js s g).1:=by
 unfold Sx.js;simp only
 by_cases e0:(aa s g).place=0
 ·rw [if_pos e0];exact h.kK hg st e0
 rw [if_neg e0]
 by_cases e1:(aa s g).place=20
 ·rw [if_pos e1];exact h.kL hg st e1
 rw [if_neg e1]
 by_cases e2:(aa s g).place=18
 ·rw [if_pos e2];exact h.answer hg st e2
 rw [if_neg e2];exact h
end Sx
namespace Sx
variable {s t:ah} {g:Nat} {nc ns n:Int} {x y:Gr}
theorem Loc.mZ (L:Loc nc ns n x) (hs:SE x) (xp:x.place≠0) (h1:y.ops=x.ops) (h2:y.at_=x.at_) (st:y.status=0) (tk:y.token=false) (pm:y.param=-1) (yp:24≤y.place∧y.place≤34) (w1:y.ak≠[]→y.place=34∨y.place=30∧y.res.code≠0) (w3:∀ p∈y.ak,0≤p∧p < n) (w4:y.ak.Nodup)
  (hd:y.place=26∨y.place=27→0≤y.hold∧y.hold < ns) (ua:0≤ns) (ys:gN nc ns y):Loc nc ns n y:=by
 have ho:aH y=aH x:=by unfold aH;rw [h1,h2]
 have iC:=L.iC;have pl:=L.pl.resolve_left xp;have hk:(aH x).kind=9:=hs
 constructor
 ·rw [h1];exact L.oI
 ·rw [h1];exact iC
 ·rw [h2];exact L.a0
 ·rw [h1,h2];exact L.a1
 ·rw [h1,h2,ho];exact .inr ⟨pl.1,by unfold bJ;omega⟩
 ·rw [ho];intro _ _ _ _ _;omega
 ·exact .inl st
 ·intro c;omega
 ·intro c;omega
 ·intro c;omega
 ·rw [tk];simp
 ·intro c;rcases w1 c with c | c
  ·exact .inr (.inr (.inr (.inr (.inl c))))
  ·exact .inr (.inr (.inr (.inr (.inr c))))
 ·intro c;omega
 ·exact w3
 ·exact w4
 ·intro c;exact hd (by omega)
 ·intro _ _ c;omega
 ·rw [pm];omega
 ·intro c;omega
 ·rw [pm];intro c;exact absurd c (by decide)
 ·rw [pm];intro c;exact absurd c (by decide)
 ·intro _ _;exact ys
theorem oK (h:24≤x.place∧x.place≤29∨31≤x.place∧x.place≤34∨x.place=30∧x.res.code≠0):¬ Wt x:=by
 rintro (w | w)
 ·have:=w.2;omega
 ·have:=w.2;omega
theorem Loc.vz (L:Loc nc ns n x) (h:¬ Wt x):x.param=-1∧x.token=false:=by
 constructor
 ·have:=L.p0
  by_cases c:0≤x.param
  ·exact absurd (L.p2 c).1 h
  ·omega
 ·cases c:x.token
  ·rfl
  ·exact absurd (L.tk c).1 h
theorem zS {l:List Int} {k:Int} (k0:0≤k) (k1:k < l.length):l.take (k + 1).toNat=l.take k.toNat ++ [aE l k]:=by
 have e:(k + 1).toNat=k.toNat + 1:=by omega
 have:k.toNat < l.length:=by omega
 rw [e,List.take_add_one,List.getElem?_eq_getElem this];unfold aE;rw [List.getD_eq_getElem?_getD,List.getElem?_eq_getElem this];rfl
theorem Ci {l:List Int} {k:Int} (k0:0≤k) (k1:k < l.length):l.drop k.toNat=aE l k :: l.drop (k + 1).toNat:=by
 have e:(k + 1).toNat=k.toNat + 1:=by omega
 have:k.toNat < l.length:=by omega
 rw [e,List.drop_eq_getElem_cons this];unfold aE;rw [List.getD_eq_getElem?_getD,List.getElem?_eq_getElem this];rfl
theorem rR {l:List Int} {k:Int} (k0:0≤k) (k1:k < l.length):aE l k∈l:=by
 have:k.toNat < l.length:=by omega
 unfold aE;rw [List.getD_eq_getElem?_getD,List.getElem?_eq_getElem this];exact List.getElem_mem this
theorem Mz {l:List Int} {k:Int} (h:k=l.length):l.take k.toNat=l:=by
 rw [List.take_of_length_le (by omega)]
structure jG (x y:Gr):Prop where
 ops:y.ops=x.ops
 at_:y.at_=x.at_
 status:y.status=x.status
 token:y.token=x.token
 aU:y.aU=x.aU
 param:y.param=x.param
 aI:y.aI=x.aI
 order:y.order=x.order
 aF:y.aF=x.aF
theorem jG.aH (h:jG x y):aH y=aH x:=by unfold Sx.aH;rw [h.ops,h.at_]
theorem jG.se (h:jG x y):SE y↔SE x:=by unfold SE;rw [h.aH]
theorem jG.ch (h:jG x y) (j:Int):bU y j=bU x j:=by unfold bU;rw [h.aH]
end Sx
end Go.Proofs.YtdjhhbpedllnhaaGreat
