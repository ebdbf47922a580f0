/-
  What the laws need, part B7.
  Conditions: none.
-/
import Derived.Test.YtdjhhbpedllnhaaGreatB6
set_option linter.unusedVariables false
set_option linter.unusedSimpArgs false
set_option linter.unnecessarySimpa false
set_option maxHeartbeats 2000000
set_option maxHeartbeats 2000000
namespace Go.Proofs.YtdjhhbpedllnhaaGreat
namespace Sx
variable {s t:ah} {g:Nat} {nc ns n:Int}
theorem sQ {l:List Int} (h:l.length≠0):l.headD 0∈l:=by
 cases l with
 | nil=>simp at h
 | cons a l=>simp
theorem Ji {l:List Int} {r v:Int} (h:(fo l r v).2=true):((fo l r v).1.length:Int)≤r:=by
 unfold fo at h ⊢
 split at h
 ·cases h
 ·grind
theorem Jj {l:List Int}:(dF l).1.length≤l.length:=by
 unfold dF;split <;> simp
theorem MInv.cu (h:MInv s) (hg:g < s.gs.length) (st:(aa s g).status=0):MInv (cu s g).1:=by
 unfold Sx.cu;simp only
 by_cases k:(ag s g).kind≠2∧(ag s g).kind≠4
 ·grind
 rw [if_neg k];have k2:2≤(ag s g).kind∧(ag s g).kind≤5:=by omega
 by_cases hc:(Sx.common s g).2=true
 ·rw [if_pos hc];exact h.common hg st (.inl (by omega))
 rw [if_neg hc]
 by_cases hm:Sx.aT s (ag s g).ch=false
 ·grind
 rw [if_neg hm];have me:=nt.1 (show Sx.aT s (ag s g).ch=true by simpa using hm)
 by_cases e1:(aa s g).place=1
 ·rw [if_pos e1]
  split
  ·exact h.iN hg st (by omega) (by omega) (x:={ aa s g with place:=4 }) rfl rfl rfl rfl rfl rfl (by show bU _ 4;unfold bU;omega) (by simp) (by rw [e1];unfold hP;simp)
  ·have pl:=((h.loc hg).pl.resolve_left (by omega)).2;have hk:(aO (aa s g)).kind=(ag s g).kind:=rfl;rw [hk,e1] at pl;exact h.iN hg st (by omega) (by omega) (x:={ aa s g with bT:=s.step,res:=(aa s g).res,place:=2 }) rfl rfl rfl rfl rfl rfl (by show bU _ 2;unfold bU at pl ⊢;omega) (by simp) (by rw [e1];unfold hP;simp)
 rw [if_neg e1]
 by_cases e2:(aa s g).place=2
 ·rw [if_pos e2]
  split
  ·exact h.iN hg st (by omega) (by omega) (x:={ aa s g with bT:=0,place:=4 }) rfl rfl rfl rfl rfl rfl (by show bU _ 4;unfold bU;omega) (by simp) (by rw [e2];unfold hP;simp)
  ·exact h.iN hg st (by omega) (by omega) (x:={ aa s g with res:={ (aa s g).res with code:=2 },place:=18 }) rfl rfl rfl rfl rfl rfl (.inl rfl) (by simp) (by rw [e2];unfold hP;simp)
 rw [if_neg e2]
 by_cases e5:(aa s g).place=5
 ·rw [if_pos e5]
  split
  ·exact h.iN hg st (by omega) (by omega) (x:={ aa s g with bT:=s.step,res:=res 3,place:=16 }) rfl rfl rfl rfl rfl rfl (by show bU _ 16;unfold bU;omega) (by simp) (by rw [e5];unfold hP;simp)
  ·exact h.iN hg st (by omega) (by omega) (x:={ aa s g with place:=6 }) rfl rfl rfl rfl rfl rfl (by show bU _ 6;unfold bU;omega) (by simp) (by rw [e5];unfold hP;simp)
 rw [if_neg e5]
 by_cases e6:(aa s g).place=6
 ·rw [if_pos e6]
  split
  ·exact h.iN hg st (by omega) (by omega) (x:={ aa s g with place:=9 }) rfl rfl rfl rfl rfl rfl (by show bU _ 9;unfold bU;omega) (by simp) (by rw [e6];unfold hP;simp)
  ·rename_i hl;exact h.s6 hg st k2 e6 (.inl (sQ hl))
 rw [if_neg e6]
 by_cases e7:(aa s g).place=7
 ·rw [if_pos e7];exact h.s7 hg st k2 e7
 rw [if_neg e7]
 by_cases e8:(aa s g).place=8
 ·rw [if_pos e8];exact h.Rd hg st k2 e8 _
 rw [if_neg e8]
 by_cases e9:(aa s g).place=9
 ·rw [if_pos e9]
  split
  ·rename_i hp;exact h.s9 hg st k2 e9 (Ji hp) _
  split
  ·exact h.iN hg st (by omega) (by omega) (x:={ aa s g with bT:=s.step,res:=res 2,place:=16 }) rfl rfl rfl rfl rfl rfl (by show bU _ 16;unfold bU;omega) (by simp) (by rw [e9];unfold hP;simp)
  ·exact h.iN hg st (by omega) (by omega) (x:={ aa s g with place:=10 }) rfl rfl rfl rfl rfl rfl (by show bU _ 10;unfold bU;omega) (by simp) (by rw [e9];unfold hP;simp)
 rw [if_neg e9];have hk:(aO (aa s g)).kind=(ag s g).kind:=rfl
 by_cases nv:(aa s g).place=10
 ·rw [if_pos nv];have pl:=((h.loc hg).pl.resolve_left (by omega)).2;rw [hk,nv] at pl;have k3:(ag s g).kind=2:=by unfold bU at pl;omega
  exact h.oP hg st (.inl k3) nv ⟨rfl,rfl,rfl,by simp [k3]⟩
 rw [if_neg nv]
 by_cases nA:(aa s g).place=11
 ·rw [if_pos nA];have pl:=((h.loc hg).pl.resolve_left (by omega)).2;rw [hk,nA] at pl;have k3:(ag s g).kind=2:=by unfold bU at pl;omega
  exact h.sL hg st (.inl k3) nA rfl rfl rfl (by rw [if_pos k3]) (by rw [if_pos k3])
 rw [if_neg nA]
 by_cases g9:(aa s g).place=14
 ·rw [if_pos g9];have pl:=((h.loc hg).pl.resolve_left (by omega)).2;rw [hk,g9] at pl;have k3:(ag s g).kind=2:=by unfold bU at pl;omega
  exact h.Jh hg st (.inl k3) g9 _
 rw [if_neg g9];exact h
theorem MInv.cj (h:MInv s) (hg:g < s.gs.length) (st:(aa s g).status=0):MInv (cj s g).1:=by
 unfold Sx.cj;simp only
 by_cases k:(ag s g).kind≠3∧(ag s g).kind≠5
 ·grind
 rw [if_neg k];have k2:2≤(ag s g).kind∧(ag s g).kind≤5:=by omega
 by_cases hc:(Sx.common s g).2=true
 ·rw [if_pos hc];exact h.common hg st (.inl (by omega))
 rw [if_neg hc]
 by_cases hm:Sx.aT s (ag s g).ch=false
 ·grind
 rw [if_neg hm];have me:=nt.1 (show Sx.aT s (ag s g).ch=true by simpa using hm);have hk:(aO (aa s g)).kind=(ag s g).kind:=rfl
 by_cases e1:(aa s g).place=1
 ·rw [if_pos e1]
  split
  ·exact h.iN hg st (by omega) (by omega) (x:={ aa s g with place:=4 }) rfl rfl rfl rfl rfl rfl (by show bU _ 4;unfold bU;omega) (by simp) (by rw [e1];unfold hP;simp)
  ·have pl:=((h.loc hg).pl.resolve_left (by omega)).2;rw [hk,e1] at pl;exact h.iN hg st (by omega) (by omega) (x:={ aa s g with bT:=s.step,res:=(aa s g).res,place:=2 }) rfl rfl rfl rfl rfl rfl (by show bU _ 2;unfold bU at pl ⊢;omega) (by simp) (by rw [e1];unfold hP;simp)
 rw [if_neg e1]
 by_cases e2:(aa s g).place=2
 ·rw [if_pos e2];have pl:=((h.loc hg).pl.resolve_left (by omega)).2;rw [hk,e2] at pl
  split
  ·exact h.iN hg st (by omega) (by omega) (x:={ aa s g with place:=3 }) rfl rfl rfl rfl rfl rfl (by show bU _ 3;unfold bU at pl ⊢;omega) (by simp) (by rw [e2];unfold hP;simp)
  ·exact h.iN hg st (by omega) (by omega) (x:={ aa s g with res:={ (aa s g).res with code:=2 },place:=18 }) rfl rfl rfl rfl rfl rfl (.inl rfl) (by simp) (by rw [e2];unfold hP;simp)
 rw [if_neg e2]
 by_cases e3:(aa s g).place=3
 ·rw [if_pos e3]
  split
  ·exact h.iN hg st (by omega) (by omega) (x:={ aa s g with bT:=0,place:=4 }) rfl rfl rfl rfl rfl rfl (by show bU _ 4;unfold bU;omega) (by simp) (by rw [e3];unfold hP;simp)
  ·exact h.iN hg st (by omega) (by omega) (x:={ aa s g with bT:=s.step,res:=eB 0 false,place:=18 }) rfl rfl rfl rfl rfl rfl (.inl rfl) (by simp) (by rw [e3];unfold hP;simp)
 rw [if_neg e3]
 by_cases e5:(aa s g).place=5
 ·rw [if_pos e5]
  split
  ·exact h.iN hg st (by omega) (by omega) (x:={ aa s g with bT:=s.step,res:=eB 0 false,place:=16 }) rfl rfl rfl rfl rfl rfl (by show bU _ 16;unfold bU;omega) (by simp) (by rw [e5];unfold hP;simp)
  split
  ·exact h.iN hg st (by omega) (by omega) (x:={ aa s g with place:=9 }) rfl rfl rfl rfl rfl rfl (by show bU _ 9;unfold bU;omega) (by simp) (by rw [e5];unfold hP;simp)
  ·exact h.iN hg st (by omega) (by omega) (x:={ aa s g with place:=6 }) rfl rfl rfl rfl rfl rfl (by show bU _ 6;unfold bU;omega) (by simp) (by rw [e5];unfold hP;simp)
 rw [if_neg e5]
 by_cases e6:(aa s g).place=6
 ·rw [if_pos e6]
  split
  ·exact h.iN hg st (by omega) (by omega) (x:={ aa s g with place:=9 }) rfl rfl rfl rfl rfl rfl (by show bU _ 9;unfold bU;omega) (by simp) (by rw [e6];unfold hP;simp)
  ·rename_i hl;exact h.s6 hg st k2 e6 (.inr (sQ hl))
 rw [if_neg e6]
 by_cases e7:(aa s g).place=7
 ·rw [if_pos e7];exact h.s7 hg st k2 e7
 rw [if_neg e7]
 by_cases e8:(aa s g).place=8
 ·rw [if_pos e8];exact h.Re hg st k2 e8
 rw [if_neg e8]
 by_cases e9:(aa s g).place=9
 ·rw [if_pos e9]
  split
  ·have hc:=h.gP me.1 me.2;exact h.s9 hg st k2 e9 (by have:=Jj (l:=(cn s (ag s g).ch).buf);omega) _
  split
  ·exact h.iN hg st (by omega) (by omega) (x:={ aa s g with bT:=s.step,res:=res 2,place:=16 }) rfl rfl rfl rfl rfl rfl (by show bU _ 16;unfold bU;omega) (by simp) (by rw [e9];unfold hP;simp)
  ·exact h.iN hg st (by omega) (by omega) (x:={ aa s g with place:=10 }) rfl rfl rfl rfl rfl rfl (by show bU _ 10;unfold bU;omega) (by simp) (by rw [e9];unfold hP;simp)
 rw [if_neg e9]
 by_cases nv:(aa s g).place=10
 ·rw [if_pos nv];have pl:=((h.loc hg).pl.resolve_left (by omega)).2;rw [hk,nv] at pl;have k3:(ag s g).kind=3:=by unfold bU at pl;omega
  exact h.oP hg st (.inr k3) nv ⟨rfl,rfl,rfl,by simp [k3]⟩
 rw [if_neg nv]
 by_cases nA:(aa s g).place=11
 ·rw [if_pos nA];have pl:=((h.loc hg).pl.resolve_left (by omega)).2;rw [hk,nA] at pl;have k3:(ag s g).kind=3:=by unfold bU at pl;omega
  exact h.sL hg st (.inr k3) nA rfl rfl rfl (by rw [if_neg (by omega)]) (by rw [if_neg (by omega)])
 rw [if_neg nA]
 by_cases g9:(aa s g).place=14
 ·rw [if_pos g9];have pl:=((h.loc hg).pl.resolve_left (by omega)).2;rw [hk,g9] at pl;have k3:(ag s g).kind=3:=by unfold bU at pl;omega
  exact h.Jh hg st (.inr k3) g9 _
 rw [if_neg g9];exact h
end Sx
namespace Sx
variable {s t:ah} {g:Nat} {nc ns n:Int}
theorem Jk {s:ah} {g o:Nat} {i c:Int} (hg:g < s.gs.length) (ho:o < s.gs.length) (hi:(aa s g).hold=i) (so:(su s i).g=o) (sc:(su s i).ch=c) (c0:1≤c) (c1:c≤s.av.length) (bV:o≠g) :
  jj s g=ai (aV (ai (aE s c (cC (cn s c) i)) o { aa s o with bT:=s.step,dm:=(su s i).cs,param:=i }) i { su s i with done:=false }) g { aa s g with t:=s.step,au:=(aa s g).au ++ [(o:Int)],hold:=-1 }:=by
 subst hi;have e1:aZ (ai s g { aa s g with t:=s.step }) (aa s g).hold=aE (ai s g { aa s g with t:=s.step }) c (cC (cn s c) (aa s g).hold):=drop_eq (s:=ai s g { aa s g with t:=s.step }) sc c0 c1;have e0:∀ s1,aZ (ai s g { aa s g with t:=s.step }) (aa s g).hold=s1→jj s g=serve (ai s1 (su s1 (aa s g).hold).g.toNat { aa s1 (su s1 (aa s g).hold).g.toNat with bT:=(aa s1 g).t,dm:=(su s1 (aa s g).hold).cs }) g (aa s g).hold false:=fun s1 h=>by subst h;rfl
 rw [e0 _ e1];generalize (aa s g).hold=i at *;have l1:∀ x,(aE (ai s g x) c (cC (cn s c) i)).gs.length=s.gs.length:=fun x=>by show (ai s g x).gs.length=_;rw [eV]
 have es:∀ x,su (aE (ai s g x) c (cC (cn s c) i)) i=su s i:=fun _=>rfl
 have g1:∀ x,aa (aE (ai s g x) c (cC (cn s c) i)) g=x:=fun x=>by rw [Be,gy hg,if_pos rfl]
 have g2:∀ x,aa (aE (ai s g x) c (cC (cn s c) i)) o=aa s o:=fun x=>by rw [Be,gy hg,if_neg bV]
 rw [es,so,Int.toNat_natCast,g1,g2];rw [yX (o:=o) (by rw [eV,l1];exact hg) (by rw [eV,l1];exact ho) (by show (su s i).g=o;exact so) bV];have g3:∀ x y,aa (ai (aE (ai s g x) c (cC (cn s c) i)) o y) o=y:=fun x y=>by rw [gy (by rw [l1];exact ho),if_pos rfl]
 have g4:∀ x y,aa (ai (aE (ai s g x) c (cC (cn s c) i)) o y) g=x:=fun x y=>by rw [gy (by rw [l1];exact ho),if_neg (by omega),g1]
 rw [g3,g4];unfold ai aV aE;simp only [List.set_set];rw [Bl bV];rfl
theorem MInv.Jl (h:MInv s) (hg:g < s.gs.length) (st:(aa s g).status=0) (k:(ag s g).kind=6) (e:(aa s g).place=22∨(aa s g).place=23) {o:Nat} {i c:Int} {x y:Gr} (q:wq s g c i o) (c0:1≤c) (c1:c≤s.av.length) (hq:i∈(cn s c).recv∨i∈(cn s c).send) (bV:o≠g) (hh:bS (aa s g) c)
  (hp:(su s i).cs < 0∨0≤(su s i).cs∧(aa s o).bG=false∧y.bG=true) (py:Part (aa s o) y) (e1:y.param=i) (e2:y.token=(aa s o).token) (e3:y.status=(aa s o).status) (e4:(aa s o).bG=true→y.bG=true)
  (h1:x.ops=(aa s g).ops) (h2:x.at_=(aa s g).at_) (h3:x.status=(aa s g).status) (h4:x.token=(aa s g).token) (h5:x.param=(aa s g).param) (h6:x.au=(aa s g).au ++ [(o:Int)]) (h7:x.place=22) {d:Su}
  (hd:d.g=(su s i).g∧d.ch=(su s i).ch∧d.cs=(su s i).cs∧d.send=(su s i).send∧d.live=(su s i).live) :
  MInv (ai (aV (ai (aE s c (cC (cn s c) i)) o y) i d) g x):=by
 have hk:(aO (aa s g)).kind=(ag s g).kind:=rfl;have L:=h.loc hg;have G:gZ (aa s g) { x with au:=(aa s g).au }:=by
  refine ⟨h1,h2,h3,h4,h5,rfl,by unfold SE;omega,st,by omega,by omega,by simp only;omega,?_,?_,?_,?_⟩
  ·show bU _ x.place;rw [h7];unfold bU;omega
  ·grind
  ·simp only;omega
  ·grind
 have Jm:Wt (aa s o)∧(aa s o).param=-1:=by
  have Lo:=h.loc q.o1;rcases hp with hp | hp
  ·rcases q.q with w | w
   ·exact ⟨.inl ⟨w.1,w.2.1,w.2.2.1⟩,w.2.2.2.2⟩
   ·omega
  ·have jW:SE (aa s o):=by
    rcases q.mt with m | m
    ·omega
    ·exact m.1
   refine ⟨?_,?_⟩
   ·have:=Inv.IY h.v c0 c1 hq (g:=g) (by omega) (by omega) (by rw [fE];exact hh) (by rw [q.g_];omega);rw [q.g_,fE] at this;rcases this with w | w
    ·exact w
    ·grind
   ·by_cases z:0≤(aa s o).param
    ·have:=Lo.p3 z jW;rw [hp.2.1] at this;cases this
    ·have:=Lo.p0;omega
 have Jn:(o:Int)∉(aa s g).au:=by
  intro w;have:=Inv.wk h.v g (by omega) (by omega) o (by rw [fE];exact w);rw [fE] at this;omega
 have G1:=G.loc L (by simp only;omega);have Ez:=L.w3;have lx:Loc s.av.length s.aA.length s.gs.length x:=by
  have:=G1.EF (l:=(aa s g).au ++ [(o:Int)]) (.inr (.inr (.inl h7))) (fun p hp=>by
   rcases List.mem_append.1 hp with w | w
   ·exact Ez p w
   ·have:=List.mem_singleton.1 w;have:=q.o1;omega) (List.nodup_append.2 ⟨L.w4,by simp,fun a ha b hb=>by rw [List.mem_singleton.1 hb];exact fun z=>Jn (z ▸ ha)⟩) (by simp)
  rw [← h6] at this;exact this
 have yY:∀ i,¬ Own x i:=by
  have ho:aO x=aO (aa s g):=by unfold aO;rw [h1,h2]
  rintro i ⟨_,w | w⟩
  ·have:=w.2.2.1;omega
  ·have:=w.1;unfold SE at this;rw [ho] at this;omega
 have qF:∀ ch,bS x ch↔bS (aa s g) ch:=by
  intro ch;have:=G.hh (by show hP _↔hP x.place;rw [h7];unfold hP;omega) ch;exact this
 refine h.EA hg c0 c1 lx ⟨.inl ⟨rfl,qF⟩,h.gP c0 c1,⟨js,js⟩,.inr hh⟩ (fun i=>⟨fun w=>absurd w (yY i),fun w=>absurd w (G.own i).1⟩) (fun i d w=>absurd w (yY i)) G.nq (by unfold cR;omega) (by unfold dy;omega) (fun z hz=>?_) G.nw q.ch q.g_ q.o1 bV Jm.1 Jm.2 q.own (fun w=>?_) ⟨n9,n9⟩ ?_ py e1 e2 e3 h2 hd
 ·grind
 ·rcases hp with hp | hp
  ·rcases q.mt with m | m
   ·exact absurd w m.1.ne
   ·omega
  ·exact hp.2.2
 ·intro k a b cl ek;have:=Inv.cl h.v k (by omega) (by omega);rw [fE] at this;obtain ⟨s1,s2,s3,s4,s5,s6,s7,s8,s9,oP,sL⟩:=this cl;rw [ek,fE] at s7 s8 s9 oP sL;rcases hp with hp | hp
  ·rcases q.mt with m | m
   ·have k1:=sL m.1;have e5:(aa s k).hold=i:=by
     have m1:=s9.2;have m2:=q.own.2;rcases m1 with m1 | m1
     ·rcases m2 with m2 | m2
      ·omega
      ·exact absurd m2.1 m.1.ne
     ·exact absurd m1.1 m.1.ne
    rw [e5,q.ch] at k1;rcases hq with hq | hq
    ·exact k1.1 hq
    ·exact k1.2 hq
   ·omega
  ·have jW:SE (aa s o):=by
    rcases q.mt with m | m
    ·omega
    ·exact m.1
   have:=oP jW;rw [hp.2.1] at this;cases this
theorem MInv.drain (h:MInv s) (hg:g < s.gs.length) (st:(aa s g).status=0) (k:(ag s g).kind=6) (e:(aa s g).place=22) {i:Int} (hq:i∈(cn s (ag s g).ch).recv∨i∈(cn s (ag s g).ch).send):MInv (l9 s g i):=by
 have hk:(aO (aa s g)).kind=(ag s g).kind:=rfl;obtain ⟨c0,c1⟩:=h.rL hg (by omega) (by omega);have L:=h.loc hg;obtain ⟨o,q⟩:=h.uw (g:=g) c0 c1 hq;have hh:bS (aa s g) (ag s g).ch:=.inl ⟨by omega,by omega,rfl,by omega⟩;have G:gZ (aa s g) { aa s g with hold:=i,place:=23 }:=by
  refine ⟨rfl,rfl,rfl,rfl,rfl,rfl,by unfold SE;omega,st,by omega,by omega,by simp,?_,?_,?_,?_⟩
  ·show bU _ 23;unfold bU;omega
  ·grind
  ·simp only;omega
  ·simp
 have bV:=q.ne h G.nq;unfold l9;simp only;have es:su (ai s g { aa s g with hold:=i }) i=su s i:=rfl;rw [es]
 by_cases hn:0≤(su s i).cs
 ·rw [if_pos hn,nY _ _ _ _ hg];refine h.self hg (G.sf L (fun _=>⟨q.i0,q.i1⟩) ?_ (by simp)) rfl (fun _=>?_)
  ·rw [e];unfold hP;simp
  ·simp only;rw [q.ch];exact ⟨c0,c1,.inl ⟨by show 2≤(aO (aa s g)).kind;omega,by show (aO (aa s g)).kind≤6;omega,rfl,by simp⟩,hq,hn⟩
 ·rw [if_neg hn];have l1:(ai s g { aa s g with hold:=i }).gs.length=s.gs.length:=eV;have gg:aa (ai s g { aa s g with hold:=i }) g={ aa s g with hold:=i }:=by rw [gy hg,if_pos rfl]
  have go:aa (ai s g { aa s g with hold:=i }) o=aa s o:=by rw [gy hg,if_neg bV]
  rw [Jk (s:=ai s g { aa s g with hold:=i }) (i:=i) (by rw [l1];exact hg) (by rw [l1];exact q.o1) (by rw [gg]) q.g_ q.ch c0 c1 bV,gg,go,es];have ef:∀ y d x,ai (aV (ai (aE (ai s g { aa s g with hold:=i }) (ag s g).ch (cC (cn (ai s g { aa s g with hold:=i }) (ag s g).ch) i)) o y) i d) g x=ai (aV (ai (aE s (ag s g).ch (cC (cn s (ag s g).ch) i)) o y) i d) g x:=by
   intro y d x;unfold ai aV aE;simp only;rw [Bl bV];rfl
  rw [ef];exact h.Jl hg st k (.inl e) (x:={ aa s g with t:=s.step,au:=(aa s g).au ++ [(o:Int)],hold:=-1 }) (y:={ aa s o with bT:=s.step,dm:=(su s i).cs,param:=i }) q c0 c1 hq bV hh (.inl (by omega)) ⟨rfl,rfl,rfl,rfl,rfl,rfl,rfl,rfl,rfl,rfl,rfl⟩ rfl rfl rfl id rfl rfl rfl rfl rfl rfl e ⟨rfl,rfl,rfl,rfl,rfl⟩
theorem MInv.nN (h:MInv s) (hg:g < s.gs.length) (st:(aa s g).status=0) (k:(ag s g).kind=6) (e:(aa s g).place=23):MInv (nN s g):=by
 have hk:(aO (aa s g)).kind=(ag s g).kind:=rfl;have L:=h.loc hg;have G:gZ (aa s g) { aa s g with hold:=-1,place:=22 }:=by
  refine ⟨rfl,rfl,rfl,rfl,rfl,rfl,by unfold SE;omega,st,by omega,by omega,by simp,?_,?_,?_,?_⟩
  ·show bU _ 22;unfold bU;omega
  ·grind
  ·simp only;omega
  ·simp
 obtain ⟨o,q,c0,c1,hh,hq,jK⟩:=h.yW hg (.inr (.inl e));have bV:o≠g:=q.ne h G.nq;unfold Sx.nN;simp only [q.g_,Int.toNat_natCast]
 cases hp:(aa s o).bG with
 | true =>
  rw [if_pos rfl,drop_eq rfl c0 c1];exact h.wj hg G c0 c1 ⟨.inl ⟨rfl,G.hh (by rw [e];unfold hP;simp)⟩,h.gP c0 c1,⟨js,js⟩,.inr hh⟩ (by unfold cR;simp) (by simp)
 | false =>
  rw [if_neg (by simp)];have l1:(ai s o { aa s o with bG:=true }).gs.length=s.gs.length:=eV;have gg:aa (ai s o { aa s o with bG:=true }) g=aa s g:=by rw [gy q.o1,if_neg (by omega)]
  have go:aa (ai s o { aa s o with bG:=true }) o={ aa s o with bG:=true }:=by rw [gy q.o1,if_pos rfl]
  have es:su (ai s o { aa s o with bG:=true }) (aa s g).hold=su s (aa s g).hold:=rfl;rw [Jk (s:=ai s o { aa s o with bG:=true }) (i:=(aa s g).hold) (by rw [l1];exact hg) (by rw [l1];exact q.o1) (by rw [gg]) q.g_ q.ch c0 c1 bV,gg,go,es];rw [nY _ _ _ _ (by simp only [aV,ai,aE,List.length_set];exact hg)];have ef:∀ y d x c,ai (aV (ai (aE (ai s o { aa s o with bG:=true }) c (cC (cn (ai s o { aa s o with bG:=true }) c) (aa s g).hold)) o y) (aa s g).hold d) g x=ai (aV (ai (aE s c (cC (cn s c) (aa s g).hold)) o y) (aa s g).hold d) g x:=by
   intro y d x c;unfold ai aV aE;simp only [List.set_set];rfl
  rw [ef];exact h.Jl hg st k (.inr e) (x:={ aa s g with t:=s.step,au:=(aa s g).au ++ [(o:Int)],hold:=-1,place:=22 }) (y:={ aa s o with bG:=true,bT:=s.step,dm:=(su s (aa s g).hold).cs,param:=(aa s g).hold }) q c0 c1 hq bV hh (.inr ⟨jK,hp,rfl⟩) ⟨rfl,rfl,rfl,rfl,rfl,rfl,rfl,rfl,rfl,rfl,rfl⟩ rfl rfl rfl (fun _=>rfl) rfl rfl rfl rfl rfl rfl rfl ⟨rfl,rfl,rfl,rfl,rfl⟩
theorem MInv.dY (h:MInv s) (hg:g < s.gs.length) (st:(aa s g).status=0):MInv (dY s g).1:=by
 unfold Sx.dY;simp only
 by_cases k:(ag s g).kind≠6
 ·grind
 rw [if_neg k];have k6:(ag s g).kind=6:=by omega
 have hk:(aO (aa s g)).kind=(ag s g).kind:=rfl
 by_cases hc:(Sx.common s g).2=true
 ·rw [if_pos hc];exact h.common hg st (.inl (by omega))
 rw [if_neg hc]
 by_cases hm:Sx.aT s (ag s g).ch=false
 ·grind
 rw [if_neg hm];have me:=nt.1 (show Sx.aT s (ag s g).ch=true by simpa using hm)
 by_cases e1:(aa s g).place=21
 ·rw [if_pos e1]
  split
  ·exact h.iN hg st (by omega) (by omega) (x:={ aa s g with bT:=s.step,res:=res 4,place:=16 }) rfl rfl rfl rfl rfl rfl (by show bU _ 16;unfold bU;omega) (by simp) (by rw [e1];unfold hP;simp)
  ·have hc:=h.gP me.1 me.2;have G:=h.EH hg st (by omega) (by omega) (x:={ aa s g with bT:=s.step,res:=oH,place:=22 }) rfl rfl rfl rfl rfl rfl (by show bU _ 22;unfold bU;omega) (by simp);exact h.wj hg G me.1 me.2 (c':={ cn s (ag s g).ch with closed:=true }) ⟨.inl ⟨rfl,G.hh (by rw [e1];unfold hP;simp)⟩,hc,⟨List.Sublist.refl _,List.Sublist.refl _⟩,.inl ⟨rfl,rfl⟩⟩ (by unfold cR;simp) (by simp)
 rw [if_neg e1]
 by_cases e2:(aa s g).place=22
 ·rw [if_pos e2]
  by_cases q1:0 < (cn s (ag s g).ch).recv.length
  ·rw [if_pos q1];exact h.drain hg st k6 e2 (.inl (sQ (by omega)))
  rw [if_neg q1]
  by_cases q2:0 < (cn s (ag s g).ch).send.length
  ·rw [if_pos q2];exact h.drain hg st k6 e2 (.inr (sQ (by omega)))
  rw [if_neg q2];have G:gZ (aa s g) { aa s g with place:=16 }:=by
   refine ⟨rfl,rfl,rfl,rfl,rfl,rfl,by unfold SE;omega,st,by omega,by omega,by simp,?_,?_,?_,?_⟩
   ·show bU _ 16;unfold bU;omega
   ·grind
   ·simp only;omega
   ·simp
  exact h.I0 hg G (by rw [e2];unfold hP;simp) (by unfold cR;simp) (by simp)
 rw [if_neg e2]
 by_cases e3:(aa s g).place=23
 ·rw [if_pos e3];exact h.nN hg st k6 e3
 rw [if_neg e3];exact h
end Sx
namespace Sx
variable {s t:ah} {g:Nat} {nc ns n:Int}
theorem Sf.out {x y:Gr} (lx:Loc nc ns n y) (ox:∀ i,¬ Own x i) (oy:∀ i,¬ Own y i) (qx:∀ i j,¬ eH x i j) (hx:∀ ch,¬ bS x ch) (hy:∀ ch,¬ bS y ch) (wx:¬ Wt x) (gH:¬ dy y) (wk:y.au=[]):Sf nc ns n x y :=
 ⟨lx,fun ch=>⟨fun w=>absurd w (hy ch),fun w=>absurd w (hx ch)⟩,fun i=>⟨fun w=>absurd w (oy i),fun w=>absurd w (ox i)⟩,fun i d w=>absurd w (oy i),fun i j w=>absurd w (qx i j),gH,fun q=>by rw [wk];simp,fun w=>absurd w.1 wx,fun w=>absurd w.1 wx⟩
def dZ (p:Int):Prop:=p=0∨p=1∨p=2∨p=3∨p=4∨p=17∨p=18∨p=19∨p=20
theorem dZ.own {x:Gr} (h:dZ x.place) (i:Int):¬ Own x i:=by
 rintro ⟨_,w | w⟩
 ·have:=w.2.1;have:=w.2.2.1;unfold dZ at h;omega
 ·have:=w.2.1;unfold dZ at h;omega
theorem dZ.q {x:Gr} (h:dZ x.place) (i j:Int):¬ eH x i j:=by
 rintro (w | w)
 ·have:=w.2.1;have:=w.2.2.1;unfold dZ at h;omega
 ·have:=w.2.2.2.2;unfold dZ at h;omega
theorem dZ.holds {x:Gr} (h:dZ x.place) (c:Int):¬ bS x c:=by
 rintro (w | w)
 ·have:=w.2.2.2;unfold dZ at h;omega
 ·have:=w.2;unfold dZ at h;omega
theorem dZ.wt {x:Gr} (h:dZ x.place):¬ Wt x:=by
 rintro (w | w)
 ·have:=w.2;unfold dZ at h;omega
 ·have:=w.2;unfold dZ at h;omega
theorem dZ.gH {x:Gr} (h:dZ x.place):¬ dy x:=by unfold dy;unfold dZ at h;omega
theorem dZ.nw {x:Gr} (h:dZ x.place):¬ cR x:=by unfold cR;unfold dZ at h;omega
theorem dZ.pm {x:Gr} (h:dZ x.place) (L:Loc nc ns n x):x.param=-1∧x.token=false:=by
 constructor
 ·have:=L.p0
  by_cases c:0≤x.param
  ·exact absurd (L.p2 c).1 h.wt
  ·omega
 ·cases c:x.token
  ·rfl
  ·exact absurd (L.tk c).1 h.wt
theorem Sf.outs {x y:Gr} (lx:Loc nc ns n y) (hx:dZ x.place) (hy:dZ y.place) (wk:y.au=[]):Sf nc ns n x y :=
 .out lx hx.own hy.own hx.q hx.holds hy.holds hx.wt hy.gH wk
theorem Loc.fresh {x y:Gr} (L:Loc nc ns n x) (h1:y.ops=x.ops) (h2:y.at_=x.at_) (lt:x.at_ < x.ops.length) (ok:bU (aO x).kind y.place) (hp:y.place=1∨y.place=4∨y.place=18∨y.place=20∨y.place=19) (hs:y.place=19∧y.status=1∨y.place≠19∧y.status=0) (ht:y.token=false) (pm:y.param=-1) (wk:y.au=[])
  (mk:y.place=1∨y.place=4→1≤(aO x).ch∧(aO x).ch≤nc) (XO:y.place=20→(aO x).kind=1∨7≤(aO x).kind) (sR:0≤ns):Loc nc ns n y:=by
 have ho:aO y=aO x:=by unfold aO;rw [h1,h2]
 have XP:dZ y.place:=by unfold dZ;omega
 have ig:=L.ig
 constructor
 ·rw [h1];exact L.nU
 ·rw [h1];exact ig
 ·rw [h2];exact L.a0
 ·grind
 ·grind
 ·grind
 ·omega
 ·omega
 ·omega
 ·omega
 ·rw [ht];simp
 ·rw [wk];simp
 ·omega
 ·rw [wk];simp
 ·rw [wk];simp
 ·omega
 ·omega
 ·rw [pm];omega
 ·omega
 ·rw [pm];omega
 ·rw [pm];omega
 ·intro _ c;unfold c9 at c;omega
theorem MInv.ju (h:MInv s):(0:Int)≤s.aA.length:=by omega
theorem swap_perm (l:List Int) (i j:Nat) (hi:i < l.length) (hj:j < l.length):(swap l i j).Perm l:=by
 unfold swap;rw [List.getD_eq_getElem?_getD,List.getD_eq_getElem?_getD,List.getElem?_eq_getElem hi,List.getElem?_eq_getElem hj];simp only [Option.getD_some];exact List.set_set_perm hi hj
theorem Bn (ds:List Int):∀ n:Nat,(eU ds n).Perm ((List.range n).map Int.ofNat)
 | 0=>by simp [eU]
 | n + 1=>by
  have ih:=Bn ds n;have hl:(eU ds n).length=n:=by have:=ih.length_eq;simpa using this
  unfold eU;have hm:(ds.getD n 0 % ((n:Int) + 1)).toNat < n + 1:=by
   have h1:=Int.emod_nonneg (ds.getD n 0) (show ((n:Int) + 1)≠0 by omega);have h2:=Int.emod_lt_of_pos (ds.getD n 0) (show (0:Int) < (n:Int) + 1 by omega);omega
  refine (swap_perm _ _ _ (by rw [List.length_append,hl];exact hm) (by rw [List.length_append,hl];exact Nat.lt_succ_self n)).trans ?_;rw [List.range_succ,List.map_append];exact ih.append_right _
theorem Rf (ds:List Int) (n:Nat) (i:Int):i∈eU ds n↔0≤i∧i < n:=by
 rw [(Bn ds n).mem_iff];simp only [List.mem_map,List.mem_range]
 constructor
 ·grind
 ·rintro ⟨h1,h2⟩;exact ⟨i.toNat,by omega,by simp;omega⟩
theorem Rh (ds:List Int) (n:Nat):(eU ds n).Nodup:=by
 rw [(Bn ds n).nodup_iff];exact List.pairwise_map.2 (List.nodup_range.imp (fun h e=>h (Int.ofNat.inj e)))
theorem insert_perm (x:Int):∀ l,(insert x l).Perm (x :: l)
 | []=>List.Perm.refl _
 | y :: l=>by
  unfold insert
  split
  ·exact ((insert_perm x l).cons y).trans (List.Perm.swap x y l)
  ·exact List.Perm.refl _
theorem insert_sorted (x:Int):∀ l:List Int,l.Pairwise (·≤·)→(insert x l).Pairwise (·≤·)
 | [],_=>by simp [insert]
 | y :: l,h=>by
  unfold insert;have h2:=List.pairwise_cons.1 h
  split
  ·rename_i c;refine List.pairwise_cons.2 ⟨fun z hz=>?_,insert_sorted x l h2.2⟩;rcases List.mem_cons.1 ((insert_perm x l).mem_iff.1 hz) with w | w
   ·omega
   ·exact h2.1 z w
  ·rename_i c;refine List.pairwise_cons.2 ⟨fun z hz=>?_,h⟩;rcases List.mem_cons.1 hz with w | w
   ·omega
   ·have:=h2.1 z w;omega
theorem Ri (l:List Int):∀ acc:List Int,acc.Pairwise (·≤·)→(l.foldl (fun acc x=>insert x acc) acc).Pairwise (·≤·)∧∀ x,x∈l.foldl (fun acc x=>insert x acc) acc↔x∈acc∨x∈l:=by
 induction l with
 | nil=>intro acc h;simp [h]
 | cons y l ih =>
  intro acc h;have:=ih (insert y acc) (insert_sorted y acc h);simp only [List.foldl_cons];refine ⟨this.1,fun x=>?_⟩;rw [this.2,(insert_perm y acc).mem_iff];simp only [List.mem_cons]
  grind
theorem Rj (l:List Int):∀ acc:List Int,acc.Pairwise (· < ·)→(∀ x∈acc,0 < x)→l.Pairwise (·≤·)→(∀ x∈acc,∀ y∈l,x≤y)→(l.foldl iJ acc).Pairwise (· < ·)∧∀ x,x∈l.foldl iJ acc↔x∈acc∨x∈l∧0 < x:=by
 induction l with
 | nil=>intro acc h h0 _ _;simp [h]
 | cons y l ih =>
  intro acc h h0 hl hle;have qU:=List.pairwise_cons.1 hl;simp only [List.foldl_cons];have Jo:0 < acc.length→acc.getLastD 0∈acc:=fun hp=>by
   cases acc with
   | nil=>simp at hp
   | cons a b=>simp [List.getLastD]
  unfold iJ
  split
  ·rename_i c;have:=ih acc h h0 qU.2 (fun x hx z hz=>hle x hx z (List.mem_cons_of_mem _ hz));unfold iJ at this;refine ⟨this.1,fun x=>?_⟩;rw [this.2];simp only [List.mem_cons]
   constructor
   ·rintro (w | w)
    ·exact .inl w
    ·exact .inr ⟨.inr w.1,w.2⟩
   ·rintro (w | ⟨w | w,w2⟩)
    ·exact .inl w
    ·subst w;rcases c with c | c
     ·omega
     ·exact .inl (c.2 ▸ Jo c.1)
    ·exact .inr ⟨w,w2⟩
  ·rename_i c;have hy:0 < y:=by omega
   have iu:∀ x∈acc,x < y:=by
    intro x hx;have h1:=hle x hx y (by simp);have h2:acc.getLastD 0≠y:=fun e=>c (.inr ⟨List.length_pos_iff.2 (List.ne_nil_of_mem hx),e⟩)
    by_cases q:x=y
    ·exfalso
     subst q;have hp:0 < acc.length:=List.length_pos_iff.2 (List.ne_nil_of_mem hx);have h3:=hle _ (Jo hp) x (by simp);have ha:=Po.xU (List.ne_nil_of_mem hx);generalize acc.getLastD 0=z at *;rw [ha] at h hx;rcases List.mem_append.1 hx with w | w
     ·grind
     ·grind
    ·omega
   have:=ih (acc ++ [y]) (List.pairwise_append.2 ⟨h,by simp,fun a ha b hb=>by rw [List.mem_singleton.1 hb];exact iu a ha⟩) (fun x hx=>by
    rcases List.mem_append.1 hx with w | w
    ·exact h0 x w
    ·rw [List.mem_singleton.1 w];exact hy) qU.2 (fun x hx z hz=>by
    rcases List.mem_append.1 hx with w | w
    ·exact hle x w z (List.mem_cons_of_mem _ hz)
    ·rw [List.mem_singleton.1 w];exact qU.1 z hz)
   unfold iJ at this;refine ⟨this.1,fun x=>?_⟩;rw [this.2];simp only [List.mem_append,List.mem_singleton,List.mem_cons,List.not_mem_nil,or_false]
   constructor
   ·rintro ((w | w) | w)
    ·exact .inl w
    ·subst w;exact .inr ⟨.inl rfl,hy⟩
    ·exact .inr ⟨.inr w.1,w.2⟩
   ·rintro (w | ⟨w | w,w2⟩)
    ·exact .inl (.inl w)
    ·exact .inl (.inr w)
    ·exact .inr ⟨w,w2⟩
theorem EI (l:List Int):(aB l).Pairwise (· < ·)∧∀ x,x∈aB l↔x∈l∧0 < x:=by
 have h1:=Ri l [] List.Pairwise.nil;have h2:=Rj (sort l) [] List.Pairwise.nil (by simp) h1.1 (by simp);refine ⟨h2.1,fun x=>?_⟩;have:=h2.2 x;unfold aB;rw [this];have h3:=h1.2 x;unfold sort;rw [h3];simp
theorem Jp (s:ah) (h0:0≤s.drawn) (h1:s.drawn≤s.di.length):∀ n,s.drawn≤(drawn s n).2∧(drawn s n).2≤s.di.length
 | 0=>⟨Int.le_refl _,h1⟩
 | n + 1=>by
  have ih:=Jp s h0 h1 n;unfold drawn draw
  split
  ·exact ih
  ·simp only;omega
end Sx
namespace Sx
variable {s t:ah} {g:Nat} {nc ns n:Int}
theorem MInv.Rk (h:MInv s) {d:Int} (d0:0≤d) (d1:d≤s.di.length):MInv { s with drawn:=d } :=
 ⟨h.v,h.n1,h.n8,h.c8,h.sn,h.mA,h.c1,h.sM,h.ca,h.f0,h.po,d0,d1,h.du,h.d5,h.dn⟩
theorem MInv.outs (h:MInv s) (hg:g < s.gs.length) {y:Gr} (lx:Loc s.av.length s.aA.length s.gs.length y) (hx:dZ (aa s g).place) (hy:dZ y.place) (wk:y.au=[]) (ha:y.at_=(aa s g).at_):MInv (ai s g y) :=
 h.self hg (.outs lx hx hy wk) ha (fun w=>absurd w hy.nw)
theorem kS {x y:Gr}:ai (ai s g x) g y=ai s g y:=by unfold ai;simp only [List.set_set]
theorem Rl (hg:g < s.gs.length) (st:(aa s g).status=0) (ht:(aa s g).token=false):never s g=ai s g { aa s g with place:=19,status:=1 }:=by
 unfold never gi aS;simp only [je s g g _ hg,if_true,st,ht];rw [if_neg (by simp),kS]
theorem EJ (s:ah) (g:Nat) (x:Gr) (r:Md.aj) (p:Int) (hg:g < s.gs.length):cq (ai s g x) g r p=ai s g { x with bT:=s.step,res:=r,place:=p }:=by
 unfold cq;rw [je s g g x hg,if_pos rfl,kS];rfl
theorem Jq (s:ah) (g:Nat) (x:Gr) (hg:g < s.gs.length) (st:x.status=0) (ht:x.token=false):never (ai s g x) g=ai s g { x with place:=19,status:=1 }:=by
 have e:aa (ai s g x) g=x:=by rw [je s g g x hg,if_pos rfl]
 rw [Rl (by rw [eV];exact hg) (by rw [e];exact st) (by rw [e];exact ht),e,kS]
theorem Loc.Rm {x y:Gr} (L:Loc nc ns n x) (h1:y.ops=x.ops) (h2:y.at_=x.at_) (lt:x.at_ < x.ops.length) (k:(aO x).kind=9) (e:y.place=24) (st:y.status=0) (ht:y.token=false) (pm:y.param=-1) (wk:y.au=[]) (ek:y.k=0) (es:y.aq=[]) (er:y.res.code=0) (sR:0≤ns)
  (o1:∀ i∈y.order,0≤i∧i < (aO x).cases.length∧cr x i∈y.aB) (o2:y.order.Nodup) (o3:1≤y.order.length) (l1:∀ c∈y.aB,1≤c∧c≤nc) (l2:y.aB.Pairwise (· < ·)) (l3:1≤y.aB.length):Loc nc ns n y:=by
 have ho:aO y=aO x:=by unfold aO;rw [h1,h2]
 have hc:∀ j,cr y j=cr x j:=fun j=>by unfold cr;rw [ho]
 have ig:=L.ig
 constructor
 ·rw [h1];exact L.nU
 ·rw [h1];exact ig
 ·rw [h2];exact L.a0
 ·grind
 ·rw [h1,h2,ho,e];exact .inr ⟨lt,by unfold bU;omega⟩
 ·grind
 ·omega
 ·omega
 ·omega
 ·omega
 ·rw [ht];simp
 ·rw [wk];simp
 ·omega
 ·rw [wk];simp
 ·rw [wk];simp
 ·omega
 ·omega
 ·rw [pm];omega
 ·omega
 ·rw [pm];omega
 ·rw [pm];omega
 ·intro _ _
  constructor
  ·grind
  ·exact o2
  ·exact o3
  ·exact l1
  ·exact l2
  ·exact l3
  ·omega
  ·omega
  ·omega
  ·omega
  ·intro _;exact es
  ·omega
  ·omega
  ·grind
  ·omega
  ·intro c;omega
  ·omega
  ·intro _;exact er
  ·omega
  ·intro c;omega
theorem Jr {x:Gr} (L:Loc nc ns n x) (lt:x.at_ < x.ops.length):Pn.fG (aO x)=true:=by
 have:=L.a0;unfold aO;rw [List.getD_eq_getElem?_getD,List.getElem?_eq_getElem (by omega)];exact L.ig _ (List.getElem_mem _)
theorem EK {o:Pn.Op} (h:Pn.fG o=true):1≤o.kind∧o.kind≤9∧0≤o.ch∧o.ch≤8∧0≤o.n∧o.n≤4∧0≤o.v∧o.v≤255∧o.cases.length≤6∧∀ c∈o.cases,Pn.kL c=true:=by
 unfold Pn.fG at h;simp only [decide_eq_true_eq] at h;exact ⟨h.1,h.2.1,h.2.2.1,h.2.2.2.1,h.2.2.2.2.1,h.2.2.2.2.2.1,h.2.2.2.2.2.2.1,h.2.2.2.2.2.2.2.1,h.2.2.2.2.2.2.2.2.1,h.2.2.2.2.2.2.2.2.2.2.2.2.2⟩
theorem MInv.ko (h:MInv s) (hg:g < s.gs.length) {x:Gr} (hx:dZ (aa s g).place) (h1:x.ops=(aa s g).ops) (h2:x.at_=(aa s g).at_) (lt:x.at_ < x.ops.length) (k:(aO (aa s g)).kind=9) (st:x.status=0) (ht:x.token=false) (pm:x.param=-1) (wk:x.au=[]) (ek:x.k=0) (es:x.aq=[]) (er:x.res.code=0) (eo:x.order=[]):MInv (Sx.ko (ai s g x) g (aO (aa s g))):=by
 have L:=h.loc hg;obtain ⟨o,ho⟩:∃ o,aO (aa s g)=o:=⟨_,rfl⟩
 have XQ:aO x=o:=by rw [← ho];unfold aO;rw [h1,h2]
 rw [ho] at k ⊢;unfold Sx.ko;simp only;have kO:=Jp (ai s g x) h.rK h.sO o.cases.length;obtain ⟨d,hd⟩:∃ d,(drawn (ai s g x) o.cases.length).2=d:=⟨_,rfl⟩
 rw [hd] at kO ⊢;have h':MInv { s with drawn:=d }:=h.Rk (by have:=h.rK;have:(ai s g x).drawn=s.drawn:=rfl;omega) kO.2;have Ro:=Rf (drawn (ai s g x) o.cases.length).1 o.cases.length;have XR:=Rh (drawn (ai s g x) o.cases.length).1 o.cases.length;generalize eU (drawn (ai s g x) o.cases.length).1 o.cases.length=ord at *;have em:∀ c,aT (ai s g x) c=aT s c:=fun _=>rfl
 simp only [em];have gx:aa (ai s g x) g=x:=by rw [je s g g x hg,if_pos rfl]
 rw [gx,eo,List.nil_append];have gB:g < ({ s with drawn:=d }:ah).gs.length:=hg;obtain ⟨gj,yZ⟩:∃ gj,ord.filter (fun i=>aT s (aH o i).ch)=gj:=⟨_,rfl⟩
 rw [yZ];have gm:∀ i∈gj,0≤i∧i < o.cases.length∧1≤(aH o i).ch∧(aH o i).ch≤s.av.length:=by
  intro i hi;rw [← yZ,List.mem_filter] at hi;have a:=(Ro i).1 hi.1;have b:=nt.1 hi.2;omega
 have gn:gj.Nodup:=by grind
 have ls:=EI (gj.map (fun i=>(aH o i).ch));obtain ⟨y,hy⟩:∃ y,({ x with order:=gj,aB:=aB (gj.map (fun i=>(aH o i).ch)),place:=24 }:Gr)=y:=⟨_,rfl⟩
 rw [hy];have e1:ai { ai s g x with drawn:=d } g y=ai { s with drawn:=d } g y:=by unfold ai;simp only [List.set_set]
 rw [e1];have y1:y.ops=(aa s g).ops∧y.at_=(aa s g).at_∧y.place=24∧y.status=0∧y.token=false∧y.param=-1∧y.au=[]∧y.k=0∧y.aq=[]∧y.res.code=0∧y.order=gj∧y.aB=aB (gj.map (fun i=>(aH o i).ch)):=by grind
 have oB:∀ p:Int,bU 9 p→(p=18∨p=19)→∀ z:Gr,z.ops=y.ops→z.at_=y.at_→z.place=p→(p=19∧z.status=1∨p≠19∧z.status=0)→z.token=false→z.param=-1→z.au=[]→MInv (ai { s with drawn:=d } g z):=by
  intro p ok hp z z1 z2 z3 z4 z5 z6 z7;refine h'.outs gB (Loc.fresh L (z1.trans y1.1) (z2.trans y1.2.1) (by rw [← h1,← h2];exact lt) (by rw [ho,k,z3];exact ok) (by rw [z3];omega) (by rw [z3];exact z4) z5 z6 z7 (by rw [z3];omega) (by rw [z3];omega) h.ju) hx (by unfold dZ;omega) z7 (z2.trans y1.2.1)
 split
 ·rename_i hp;have yH:∀ ch,¬ bS y ch:=by
   rintro ch (w | w)
   ·omega
   ·simp_all
  have yO:∀ i,¬ Own y i:=by
   rintro i ⟨_,w | w⟩
   ·omega
   ·have:=w.2.1;omega
  have bV:gj≠[]:=by grind
  refine h'.self gB (Sf.out (Loc.Rm L y1.1 y1.2.1 (by rw [← h1,← h2];exact lt) (by rw [ho];exact k) y1.2.2.1 y1.2.2.2.1 y1.2.2.2.2.1 y1.2.2.2.2.2.1 y1.2.2.2.2.2.2.1 y1.2.2.2.2.2.2.2.1 y1.2.2.2.2.2.2.2.2.1 y1.2.2.2.2.2.2.2.2.2.1 h.ju ?_ ?_ ?_ ?_ ?_ ?_) hx.own yO hx.q hx.holds yH hx.wt (by unfold dy;omega) y1.2.2.2.2.2.2.1) y1.2.1 (fun w=>by unfold cR at w;omega)
  ·intro i hi;rw [y1.2.2.2.2.2.2.2.2.2.2.1] at hi;have:=gm i hi;rw [ho,y1.2.2.2.2.2.2.2.2.2.2.2];refine ⟨this.1,this.2.1,?_⟩;unfold cr;rw [ho];exact (ls.2 _).2 ⟨List.mem_map.2 ⟨i,hi,rfl⟩,by omega⟩
  ·grind
  ·grind
  ·grind
  ·grind
  ·rw [y1.2.2.2.2.2.2.2.2.2.2.2];obtain ⟨i,hi⟩:=List.exists_mem_of_ne_nil _ bV;have:=gm i hi;exact List.length_pos_iff.2 (List.ne_nil_of_mem ((ls.2 _).2 ⟨List.mem_map.2 ⟨i,hi,rfl⟩,by omega⟩))
 ·split
  ·rw [EJ _ _ _ _ _ gB];exact oB 18 (.inl rfl) (.inl rfl) _ rfl rfl rfl (.inr ⟨by decide,y1.2.2.2.1⟩) y1.2.2.2.2.1 y1.2.2.2.2.2.1 y1.2.2.2.2.2.2.1
  ·rw [Jq _ _ _ gB y1.2.2.2.1 y1.2.2.2.2.1];exact oB 19 (by unfold bU;omega) (.inr rfl) _ rfl rfl rfl (.inl ⟨rfl,rfl⟩) y1.2.2.2.2.1 y1.2.2.2.2.2.1 y1.2.2.2.2.2.2.1
end Sx
namespace Sx
variable {s t:ah} {g:Nat} {nc ns n:Int}
theorem MInv.kq (h:MInv s) (hg:g < s.gs.length) (st:(aa s g).status=0) (e:(aa s g).place=0):MInv (kq s g):=by
 have L:=h.loc hg;have hx:dZ (aa s g).place:=.inl e;obtain ⟨pm,tk⟩:=hx.pm L;have wk:=h.wv hg (by omega);unfold Sx.kq;simp only
 by_cases ha:((aa s g).ops.length:Int)≤(aa s g).at_
 ·rw [if_pos ha];refine h.outs hg (y:={ aa s g with status:=2,token:=false }) ?_ hx hx wk rfl;have ig:=L.ig;have a1:=L.a1
  constructor
  ·exact L.nU
  ·exact ig
  ·exact L.a0
  ·exact a1
  ·exact .inl e
  ·grind
  ·exact .inr (.inr rfl)
  ·simp
  ·simp only;omega
  ·grind
  ·simp
  ·grind
  ·simp only;omega
  ·grind
  ·grind
  ·simp only;omega
  ·simp only;omega
  ·exact L.p0
  ·simp only;omega
  ·simp only;omega
  ·simp only;omega
  ·intro _ c;unfold c9 at c;simp only at c;omega
 rw [if_neg ha];have lt:(aa s g).at_ < (aa s g).ops.length:=by omega
 obtain ⟨x,yg⟩:∃ x,({ oG (aa s g) with call:=s.step }:Gr)=x:=⟨_,rfl⟩
 have e2:ai (clear s g) g { aa (clear s g) g with call:=(clear s g).step }=ai s g x:=by
  unfold clear;rw [je s g g _ hg,if_pos rfl,kS,← yg];rfl
 have x1:x.ops=(aa s g).ops∧x.at_=(aa s g).at_∧x.place=0∧x.status=0∧x.token=false∧x.param=-1∧x.au=[]∧x.k=0∧x.aq=[]∧x.res.code=0∧x.order=[]:=by
  subst yg;exact ⟨rfl,rfl,e,st,tk,rfl,rfl,rfl,rfl,rfl,rfl⟩
 have gx:aa (ai s g x) g=x:=by rw [je s g g x hg,if_pos rfl]
 have eo:ag (ai s g x) g=aO (aa s g):=by unfold ag;rw [gx,x1.1,x1.2.1];rfl
 have em:∀ c,Sx.aT (ai s g x) c=Sx.aT s c:=fun _=>rfl
 rw [e2,eo];simp only [em];have rf:=EK (Jr L lt);generalize hk:(aO (aa s g)).kind=kd at *;have fin:∀ (p:Int),bU kd p→(p=1∨p=4∨p=18∨p=20∨p=19)→(p=1∨p=4→Sx.aT s (aO (aa s g)).ch=true)→(p=20→kd=1∨7≤kd)→∀ z:Gr,z.ops=x.ops→z.at_=x.at_→z.place=p→(p=19∧z.status=1∨p≠19∧z.status=0)→z.token=false→z.param=-1→z.au=[]→MInv (ai s g z):=by
  intro p ok hp hm hq z z1 z2 z3 z4 z5 z6 z7;refine h.outs hg (Loc.fresh L (z1.trans x1.1) (z2.trans x1.2.1) lt (by rw [hk,z3];exact ok) (by rw [z3];exact hp) (by rw [z3];exact z4) z5 z6 z7 (by rw [z3];exact fun w=>nt.1 (hm w)) (by rw [z3,hk];exact hq) h.ju) hx (by unfold dZ;rw [z3];omega) z7 (z2.trans x1.2.1)
 have gT:∀ p:Int,aS (ai s g x) g p=ai s g { x with place:=p }:=fun p=>nY _ _ _ _ hg
 have pT:∀ r,cq (ai s g x) g r 18=ai s g { x with bT:=s.step,res:=r,place:=18 }:=fun r=>EJ _ _ _ _ _ hg
 have nT:never (ai s g x) g=ai s g { x with place:=19,status:=1 }:=Jq _ _ _ hg x1.2.2.2.1 x1.2.2.2.2.1;have Bo:∀ p:Int,bU kd p→(p=1∨p=4∨p=20)→(p=1∨p=4→Sx.aT s (aO (aa s g)).ch=true)→(p=20→kd=1∨7≤kd)→MInv (aS (ai s g x) g p):=by grind
 have XS:∀ r,MInv (cq (ai s g x) g r 18):=by
  intro r;rw [pT];exact fin 18 (.inl rfl) (by simp) (by simp) (by simp) _ rfl rfl rfl (.inr ⟨by decide,x1.2.2.2.1⟩) x1.2.2.2.2.1 x1.2.2.2.2.2.1 x1.2.2.2.2.2.2.1
 have goN:bU kd 19→MInv (never (ai s g x) g):=by grind
 by_cases k1:kd=1∨kd=7∨kd=8
 ·rw [if_pos k1];exact Bo 20 (.inr (.inl ⟨k1,rfl⟩)) (by simp) (by simp) (by omega)
 rw [if_neg k1]
 by_cases k2:kd=2∨kd=3
 ·rw [if_pos k2]
  by_cases hm:Sx.aT s (aO (aa s g)).ch=true
  ·rw [if_pos hm];exact Bo 4 (.inr (.inr (.inl ⟨k2,by simp⟩))) (by simp) (fun _=>hm) (by simp)
  ·rw [if_neg hm];exact goN (.inr (.inr (.inl ⟨k2,by simp⟩)))
 rw [if_neg k2]
 by_cases k3:kd=4∨kd=5
 ·rw [if_pos k3]
  by_cases hm:Sx.aT s (aO (aa s g)).ch=true
  ·rw [if_pos hm];exact Bo 1 (by unfold bU;omega) (by simp) (fun _=>hm) (by simp)
  ·grind
 rw [if_neg k3]
 by_cases k4:kd=6
 ·rw [if_pos k4]
  by_cases hm:Sx.aT s (aO (aa s g)).ch=true
  ·rw [if_pos hm];exact Bo 4 (by unfold bU;omega) (by simp) (fun _=>hm) (by simp)
  ·grind
 rw [if_neg k4];exact h.ko hg hx x1.1 x1.2.1 (by rw [x1.1,x1.2.1];exact lt) (by rw [hk];omega) x1.2.2.2.1 x1.2.2.2.2.1 x1.2.2.2.2.2.1 x1.2.2.2.2.2.2.1 x1.2.2.2.2.2.2.2.1 x1.2.2.2.2.2.2.2.2.1 x1.2.2.2.2.2.2.2.2.2.1 x1.2.2.2.2.2.2.2.2.2.2
theorem MInv.makes (h:MInv s) (hl:s.av.length < 8) {m:Int} (m0:0≤m) (m4:m≤4):MInv { s with av:=s.av ++ [⟨m,[],false,-1,[],[]⟩] }:=by
 have ec:∀ c:Int,1≤c→c≤s.av.length→cn { s with av:=s.av ++ [⟨m,[],false,-1,[],[]⟩] } c=cn s c:=by
  intro c a b;unfold cn;simp only;rw [List.getD_eq_getElem?_getD,List.getD_eq_getElem?_getD,List.getElem?_append_left (by omega)]
 have en:∀ c:Int,c=s.av.length + 1→cn { s with av:=s.av ++ [⟨m,[],false,-1,[],[]⟩] } c=⟨m,[],false,-1,[],[]⟩:=by
  intro c a;unfold cn;simp only;rw [List.getD_eq_getElem?_getD,List.getElem?_append_right (by omega)];have:(c - 1).toNat - s.av.length=0:=by omega
  rw [this];rfl
 have I:=h.v;have hh:∀ g,0≤g→g < (s.gs.length:Int)→∀ c,bS (gA s g) c→c≤s.av.length:=by
  intro g a b c hc;have L:=I.loc g a b;rcases hc with w | w
  ·rw [w.2.2.1];exact (L.AY (by omega) (by omega) (by omega) w.1 w.2.1).2
  ·have sp:c9 (gA s g).place:=by unfold c9;omega
   rcases w.2 with q | q
   ·exact ((L.se w.1 sp).l1 c q.2).2
   ·exact ((L.se w.1 sp).l1 c (List.mem_of_mem_take q.2)).2
 refine ⟨?_,h.n1,h.n8,by simp;omega,h.sn,h.mA,h.c1,h.sM,h.ca,h.f0,h.po,h.rK,h.sO,h.du,h.d5,h.dn⟩;unfold V;have el:(({ s with av:=s.av ++ [⟨m,[],false,-1,[],[]⟩] }:ah).av.length:Int)=s.av.length + 1:=by simp
 rw [el];generalize hs:({ s with av:=s.av ++ [⟨m,[],false,-1,[],[]⟩] }:ah)=s2 at *;have mC:s2.gs=s.gs:=by subst hs;rfl
 have eg:gA s2=gA s:=by funext g;unfold gA aa;rw [mC]
 have oW:su s2=su s:=by funext g;unfold su;subst hs;rfl
 have Rp:s2.aA=s.aA:=by subst hs;rfl
 have Js:∀ i,gM s2 i=gM s i:=fun i=>by subst hs;rfl
 rw [eg,oW,mC,Rp];have sp:∀ c:Int,1≤c→c≤s.av.length + 1→c≤s.av.length∨c=s.av.length + 1:=fun c _ _=>by omega
 constructor
 ·intro g a b;exact (I.loc g a b).mono (by omega)
 ·intro c a b;rcases sp c a b with w | w
  ·rw [ec c a w];exact I.jV c a w
  ·grind
 ·intro g a b c d e;rcases sp c d e with w | w
  ·rw [ec c d w];exact I.iW g a b c d w
  ·grind
 ·intro c a b;rcases sp c a b with w | w
  ·rw [ec c a w];exact I.cap c a w
  ·grind
 ·intro g a b i hi;have:=I.own g a b i hi;rw [Js];exact this
 ·intro c a b i;rcases sp c a b with w | w
  ·rw [ec c a w];exact I.q c a w i
  ·rw [en c w];simp
 ·intro c a b;rcases sp c a b with w | w
  ·rw [ec c a w];exact I.nd c a w
  ·rw [en c w];simp
 ·intro k a b w;have:=I.cT k a b w;rw [ec _ this.1 this.2.1];exact ⟨this.1,by omega,this.2.2⟩
 ·intro k a b w;have:=I.cl k a b w;rw [ec _ this.1 this.2.1];exact ⟨this.1,by omega,this.2.2⟩
 ·exact I.rE
 ·exact I.wk
 ·exact I.qc
 ·exact I.su
 ·intro i hi;rw [Js] at hi;exact I.lv i hi
theorem MInv.kr (h:MInv s) (hg:g < s.gs.length) (st:(aa s g).status=0) (e:(aa s g).place=20):MInv (kr s g):=by
 have L:=h.loc hg;have hx:dZ (aa s g).place:=by unfold dZ;omega
 obtain ⟨pm,tk⟩:=hx.pm L;have wk:=h.wv hg (by omega);have lt:=(L.pl.resolve_left (by omega)).1;have rf:=EK (Jr L lt);have ho:ag s g=aO (aa s g):=rfl;have key:∀ (t:ah) (r:Md.aj),MInv t→t.gs=s.gs→MInv (cq t g r 18):=by
  intro t r ht EL;have eg:aa t g=aa s g:=by unfold aa;rw [EL]
  have gB:g < t.gs.length:=by rw [EL];exact hg
  refine ht.outs gB (y:={ aa t g with bT:=t.step,res:=r,place:=18 }) ?_ (by rw [eg];exact hx) (by unfold dZ;simp) (by rw [eg];exact wk) rfl;have Lt:=ht.loc gB;exact Loc.fresh Lt rfl rfl (by rw [eg];exact lt) (.inl rfl) (by simp) (.inr ⟨by simp,by rw [eg];exact st⟩) (by rw [eg];exact tk) (by rw [eg];exact pm) (by rw [eg];exact wk) (by simp) (by simp) ht.ju
 unfold Sx.kr;simp only
 split
 ·exact key s _ h rfl
 split
 ·rename_i c1 c2;exact key _ _ (h.makes (by omega) (by rw [ho];exact rf.2.2.2.2.1) (by rw [ho];exact rf.2.2.2.2.2.1)) rfl
 split
 ·exact key s _ h rfl
 split
 ·exact key s _ h rfl
 ·exact key s _ h rfl
theorem Rq {l:List Nat} (f f':Nat→Int) {g:Nat} (hn:l.Nodup) (hg:g∈l) (he:∀ h∈l,h≠g→f' h=f h):(l.map f').sum=(l.map f).sum + (f' g - f g):=by
 induction l with
 | nil=>simp at hg
 | cons a l ih =>
  have kK:=List.nodup_cons.1 hn;simp only [List.map_cons,List.sum_cons];rcases List.mem_cons.1 hg with w | w
  ·subst w;have:l.map f'=l.map f:=List.map_congr_left fun h hh=>he h (List.mem_cons_of_mem _ hh) (fun c=>kK.1 (c ▸ hh))
   rw [this];omega
  ·grind
theorem MInv.answer (h:MInv s) (hg:g < s.gs.length) (st:(aa s g).status=0) (e:(aa s g).place=18):MInv (answer s g):=by
 have L:=h.loc hg;have hx:dZ (aa s g).place:=by unfold dZ;omega
 obtain ⟨pm,tk⟩:=hx.pm L;have lt:=(L.pl.resolve_left (by omega)).1;have ig:=L.ig;obtain ⟨y,hy⟩:∃ y,oG { aa s g with at_:=(aa s g).at_ + 1,place:=0 }=y:=⟨_,rfl⟩
 have y1:y.ops=(aa s g).ops∧y.at_=(aa s g).at_ + 1∧y.place=0∧y.status=0∧y.token=false∧y.param=-1∧y.au=[]:=by
  subst hy;exact ⟨rfl,rfl,rfl,st,tk,rfl,rfl⟩
 have ea:Sx.answer s g={ ai s g y with done:=s.done ++ [mark s g s.step] }:=by
  unfold Sx.answer clear;simp only;have e1:aa { s with done:=s.done ++ [mark s g s.step] } g=aa s g:=rfl;rw [e1,je { s with done:=s.done ++ [mark s g s.step] } g g _ hg,if_pos rfl,kS,hy];rfl
 rw [ea];have ly:Loc s.av.length s.aA.length s.gs.length y:=by
  have a0:=L.a0;have sR:=h.ju
  constructor
  ·rw [y1.1];exact L.nU
  ·rw [y1.1];exact ig
  ·omega
  ·rw [y1.1];omega
  ·exact .inl y1.2.2.1
  ·omega
  ·exact .inl y1.2.2.2.1
  ·omega
  ·omega
  ·omega
  ·grind
  ·grind
  ·omega
  ·grind
  ·grind
  ·omega
  ·omega
  ·omega
  ·omega
  ·omega
  ·omega
  ·intro _ c;unfold c9 at c;omega
 have f:Sf s.av.length s.aA.length s.gs.length (aa s g) y:=.outs ly hx (.inl y1.2.2.1) y1.2.2.2.2.2.2;have v:V (ai s g y):=by
  have eA:=fE s g;have I:=Inv.self h.v (g:=g) (x:=y) (by omega) (by omega) f.lx (by rw [eA];exact f.hh) (by rw [eA];exact f.ow) (by rw [eA];exact f.mt) (by rw [eA];exact f.qx) (fun w=>by unfold cR at w;omega) f.gH (by rw [eA];exact f.wx) (by rw [eA];exact f.wg) (by rw [eA];exact f.cg);unfold V;rw [eV];exact I.sH (fun k k0 _=>rJ hg rfl k k0) (fun _ _ _=>rfl) (fun _ _ _=>rfl) (fun _ _ _=>Iff.rfl)
 refine ⟨v,by rw [show ({ ai s g y with done:=s.done ++ [mark s g s.step] }:ah).gs.length=s.gs.length from eV];exact h.n1,by rw [show ({ ai s g y with done:=s.done ++ [mark s g s.step] }:ah).gs.length=s.gs.length from eV];exact h.n8,h.c8,h.sn,h.mA,h.c1,h.sM,by rw [show ({ ai s g y with done:=s.done ++ [mark s g s.step] }:ah).gs.length=s.gs.length from eV];exact h.ca,h.f0,h.po,h.rK,h.sO,h.du,h.d5,?_⟩;have hs:nX { ai s g y with done:=s.done ++ [mark s g s.step] }=nX s + 1:=by
  have hl:(ai s g y).gs.length=s.gs.length:=eV;unfold nX
  show ((List.range (ai s g y).gs.length).map (fun k=>(aa (ai s g y) k).at_)).sum=_;rw [hl,Rq (fun k=>(aa s k).at_) (fun k=>(aa (ai s g y) k).at_) (g:=g) List.nodup_range (by simpa using hg) (fun k _ bV=>by rw [je s g k y hg,if_neg bV])];rw [je s g g y hg,if_pos rfl,y1.2.1];omega
 rw [hs];have:=h.dn;simp only [List.length_append,List.length_cons,List.length_nil];omega
theorem MInv.jm (h:MInv s) (hg:g < s.gs.length) (st:(aa s g).status=0):MInv (jm s g).1:=by
 unfold Sx.jm;simp only
 by_cases e0:(aa s g).place=0
 ·rw [if_pos e0];exact h.kq hg st e0
 rw [if_neg e0]
 by_cases e1:(aa s g).place=20
 ·rw [if_pos e1];exact h.kr hg st e1
 rw [if_neg e1]
 by_cases e2:(aa s g).place=18
 ·rw [if_pos e2];exact h.answer hg st e2
 rw [if_neg e2];exact h
end Sx
namespace Sx
variable {s t:ah} {g:Nat} {nc ns n:Int} {x y:Gr}
theorem Loc.mw (L:Loc nc ns n x) (hs:SE x) (xp:x.place≠0) (h1:y.ops=x.ops) (h2:y.at_=x.at_) (st:y.status=0) (tk:y.token=false) (pm:y.param=-1) (yp:24≤y.place∧y.place≤34) (w1:y.au≠[]→y.place=34∨y.place=30∧y.res.code≠0) (w3:∀ p∈y.au,0≤p∧p < n) (w4:y.au.Nodup)
  (hd:y.place=26∨y.place=27→0≤y.hold∧y.hold < ns) (sR:0≤ns) (ys:gw nc ns y):Loc nc ns n y:=by
 have ho:aO y=aO x:=by unfold aO;rw [h1,h2]
 have ig:=L.ig;have pl:=L.pl.resolve_left xp;have hk:(aO x).kind=9:=hs
 constructor
 ·rw [h1];exact L.nU
 ·rw [h1];exact ig
 ·rw [h2];exact L.a0
 ·grind
 ·rw [h1,h2,ho];exact .inr ⟨pl.1,by unfold bU;omega⟩
 ·grind
 ·exact .inl st
 ·intro c;omega
 ·intro c;omega
 ·intro c;omega
 ·rw [tk];simp
 ·grind
 ·intro c;omega
 ·exact w3
 ·exact w4
 ·omega
 ·intro _ _ c;omega
 ·rw [pm];omega
 ·intro c;omega
 ·omega
 ·omega
 ·intro _ _;exact ys
theorem oa (h:24≤x.place∧x.place≤29∨31≤x.place∧x.place≤34∨x.place=30∧x.res.code≠0):¬ Wt x:=by
 rintro (w | w)
 ·have:=w.2;omega
 ·have:=w.2;omega
theorem Loc.uy (L:Loc nc ns n x) (h:¬ Wt x):x.param=-1∧x.token=false:=by
 constructor
 ·have:=L.p0
  by_cases c:0≤x.param
  ·exact absurd (L.p2 c).1 h
  ·omega
 ·cases c:x.token
  ·rfl
  ·exact absurd (L.tk c).1 h
theorem sS {l:List Int} {k:Int} (k0:0≤k) (k1:k < l.length):l.take (k + 1).toNat=l.take k.toNat ++ [ax l k]:=by
 have e:(k + 1).toNat=k.toNat + 1:=by omega
 have:k.toNat < l.length:=by omega
 rw [e,List.take_add_one,List.getElem?_eq_getElem this];unfold ax;rw [List.getD_eq_getElem?_getD,List.getElem?_eq_getElem this];rfl
theorem uz {l:List Int} {k:Int} (k0:0≤k) (k1:k < l.length):l.drop k.toNat=ax l k :: l.drop (k + 1).toNat:=by
 have e:(k + 1).toNat=k.toNat + 1:=by omega
 have:k.toNat < l.length:=by omega
 rw [e,List.drop_eq_getElem_cons this];unfold ax;rw [List.getD_eq_getElem?_getD,List.getElem?_eq_getElem this];rfl
theorem oI {l:List Int} {k:Int} (k0:0≤k) (k1:k < l.length):ax l k∈l:=by
 have:k.toNat < l.length:=by omega
 unfold ax;rw [List.getD_eq_getElem?_getD,List.getElem?_eq_getElem this];exact List.getElem_mem this
theorem Rr {l:List Int} {k:Int} (h:k=l.length):l.take k.toNat=l:=by simp_all
structure jv (x y:Gr):Prop where
 ops:y.ops=x.ops
 at_:y.at_=x.at_
 status:y.status=x.status
 token:y.token=x.token
 bG:y.bG=x.bG
 param:y.param=x.param
 bh:y.bh=x.bh
 order:y.order=x.order
 aB:y.aB=x.aB
theorem jv.aO (h:jv x y):aO y=aO x:=by unfold Sx.aO;rw [h.ops,h.at_]
theorem jv.se (h:jv x y):SE y↔SE x:=by unfold SE;rw [h.aO]
theorem jv.ch (h:jv x y) (j:Int):cr y j=cr x j:=by unfold cr;rw [h.aO]
theorem gw.lock (b:gw nc ns x) (h:jv x y) (e:x.place=24∨x.place=31) (es:y.aq=x.aq) (ec:y.res.code=x.res.code)
  (hp:y.place=x.place∧y.k=x.k + 1∧x.k + 1 < x.aB.length∨y.place=x.place + 1∧y.k=0∧x.k + 1=x.aB.length):gw nc ns y:=by
 have ho:=h.aO;have hc:=h.ch;have o1:=b.o1;have ab:24≤y.place∧y.place≤27→24≤x.place∧x.place≤27:=by omega
 have kk:0≤y.k∧(y.place=24∨y.place=31→y.k < x.aB.length):=by have:=b.k0;omega
 have EM:∀ {P:Prop},y.place=28∨y.place=29∨y.place=30∨y.place=33∨y.place=34∨y.place=13∨y.place=14→P:=fun c=>by omega
 have EN:31≤y.place∧y.place≤33→31≤x.place∧x.place≤33:=by omega
 have k2:25≤y.place∧y.place≤29∨y.place=32∨y.place=34→y.k=0:=by omega
 constructor
 ·rw [h.order,h.aB,ho];simp only [hc];exact o1
 ·rw [h.order];exact b.o2
 ·rw [h.order];exact b.o3
 ·rw [h.aB];exact b.l1
 ·rw [h.aB];exact b.l2
 ·rw [h.aB];exact b.l3
 ·exact kk.1
 ·rw [h.aB];exact kk.2
 ·rw [h.order];intro c;rw [k2 c];have:=b.o3;omega
 ·omega
 ·rw [es];intro c;exact b.s1 (ab c)
 ·rw [es,ho];intro c
  by_cases d:31≤y.place∧y.place≤33
  ·have:=EN d;exact b.s2 (.inr (.inl ⟨this.1,by omega⟩))
  ·exact EM (by omega)
 ·omega
 ·rw [es,h.order];exact b.s4
 ·omega
 ·rw [es,h.order];intro c
  by_cases d:31≤y.place∧y.place≤33
  ·exact b.s6 (.inl (EN d))
  ·exact EM (by omega)
 ·omega
 ·rw [ec];intro c
  by_cases d:24≤y.place∧y.place≤27
  ·have:=ab d;exact b.c1 (.inl ⟨this.1,by omega⟩)
  ·exact EM (by omega)
 ·rw [h.bG];intro c;exact b.c2 (EN c)
 ·omega
theorem MInv.iF (h:MInv s) (hg:g < s.gs.length) (k:(ag s g).kind=9) (e:c9 (aa s g).place):gw s.av.length s.aA.length (aa s g):=(h.loc hg).se k e
theorem MInv.Jt (h:MInv s) (hg:g < s.gs.length) (st:(aa s g).status=0) (k:(ag s g).kind=9) (p:Int) (e:(aa s g).place=24∧p=25∨(aa s g).place=31∧p=32):MInv (lock s g p):=by
 have L:=h.loc hg;have b:=h.iF hg k (by unfold c9;omega);have kx:SE (aa s g):=k;unfold lock;simp only;have k1:=b.k1 (by omega);have rP:=b.l1 _ (oI b.k0 k1);have nw:¬ Wt (aa s g):=oa (by omega);obtain ⟨pm,tk⟩:=L.uy nw;have wk:(aa s g).au=[]:=by
  by_cases w:(aa s g).au=[]
  ·exact w
  ·have:=L.w1 w;omega
 unfold tryLock
 by_cases hl:(cn s (ax (aa s g).aB (aa s g).k)).lock=-1
 ·rw [if_pos hl];simp only [if_true];have key:∀ y,jv (aa s g) y→y.au=(aa s g).au→y.aq=(aa s g).aq→y.res.code=(aa s g).res.code→(y.place=(aa s g).place∧y.k=(aa s g).k + 1∧(aa s g).k + 1 < (aa s g).aB.length∨y.place=(aa s g).place + 1∧y.k=0∧(aa s g).k + 1=(aa s g).aB.length) →
    MInv (ai (aE s (ax (aa s g).aB (aa s g).k) { cn s (ax (aa s g).aB (aa s g).k) with lock:=g }) g y):=by
   intro y hk hw hs hc hp;have ys:=b.lock hk (by omega) hs hc hp;have eY:SE y:=hk.se.2 kx;refine h.chan hg rP.1 rP.2 (L.mw kx (by omega) hk.ops hk.at_ (by rw [hk.status];exact st) (by rw [hk.token];exact tk) (by rw [hk.param];exact pm) (by omega) (by rw [hw,wk];simp) (by rw [hw,wk];simp) (by rw [hw,wk];simp) (by omega) h.ju ys) ⟨.inr (.inl ⟨hl,rfl,fun ch=>?_⟩),h.gP rP.1 rP.2,⟨List.Sublist.refl _,List.Sublist.refl _⟩,.inl ⟨rfl,rfl⟩⟩ ?_ ?_ ?_ ?_ ?_ ?_ (fun w=>absurd w.1 nw) (fun w=>absurd w.1 nw) hk.at_
   ·-- it has one lock more
    have Ju:∀ z:Gr,SE z→(bS z ch↔(25≤z.place∧z.place≤29∨z.place=32)∧ch∈z.aB∨(z.place=24∨z.place=31∨z.place=30∨z.place=33)∧ch∈z.aB.take z.k.toNat):=by
     intro z hz;unfold bS;have:(aO z).kind=9:=hz
     constructor
     ·grind
     ·grind
    rw [Ju y eY,Ju _ kx,hk.aB];have tk:=sS b.k0 k1;rcases hp with hp | hp
    ·grind
    ·have XT:(aa s g).aB=(aa s g).aB.take (aa s g).k.toNat ++ [ax (aa s g).aB (aa s g).k]:=by rw [← tk,Rr hp.2.2]
     constructor
     ·grind
     ·grind
   ·intro i;unfold Own;rw [hk.se,hs];have n1:¬ SR y:=fun c=>c.ne eY
    have n2:¬ SR (aa s g):=fun c=>c.ne kx
    simp only [n1,n2,false_and,false_or]
    constructor
    ·grind
    ·grind
   ·intro i d _ m;rcases m with m | m
    ·exact absurd kx m.1.ne
    ·exact .inr ⟨eY,by rw [hs,hk.aO,hk.order,hk.ch];exact m.2⟩
   ·intro i j q ch a0 b0 hi;have gz:0≤i:=by
     have:i∈(cn s ch).recv∨i∈(cn s ch).send:=by
      unfold up at hi
      split at hi
      ·grind
      ·exact hi
     obtain ⟨o,z⟩:=h.uw (g:=g) a0 b0 this;exact z.i0
    rcases q with q | q
    ·omega
    ·obtain ⟨q1,q2,q3,q4,q5⟩:=q;have oY:(aa s g).place=31:=by omega
     have hj:=(b.s4 j q2 q3).2.2 (by omega);refine .inr ⟨eY,q2,by rw [hs];exact q3,by rw [hs];exact q4,?_⟩;rcases hp with hp | hp
     ·omega
     ·refine .inr (.inr (.inr (.inr (.inr ⟨by omega,?_⟩))));rw [hk.order,hp.2.1];simpa using hj
   ·unfold cR;omega
   ·unfold dy;omega
   ·grind
  split
  ·rename_i c;exact key _ ⟨rfl,rfl,rfl,rfl,rfl,rfl,rfl,rfl,rfl⟩ rfl rfl rfl (.inr ⟨by simp only;omega,rfl,c⟩)
  ·rename_i c;exact key _ ⟨rfl,rfl,rfl,rfl,rfl,rfl,rfl,rfl,rfl⟩ rfl rfl rfl (.inl ⟨rfl,rfl,by omega⟩)
 ·grind
end Sx
namespace Sx
variable {s t:ah} {g:Nat} {nc ns n:Int} {x y:Gr}
theorem rQ (hz:SE x) (ch:Int):bS x ch↔(25≤x.place∧x.place≤29∨x.place=32)∧ch∈x.aB∨(x.place=24∨x.place=31∨x.place=30∨x.place=33)∧ch∈x.aB.take x.k.toNat:=by
 unfold bS;have:(aO x).kind=9:=hz
 constructor
 ·grind
 ·grind
def jX (x:Gr):Prop:=25≤x.place∧x.place≤29∨x.place=32∨(x.place=30∨x.place=33)∧x.k=x.aB.length
theorem mD (hz:SE x) (h:jX x) (ch:Int):bS x ch↔ch∈x.aB:=by
 rw [rQ hz];rcases h with h | h | h
 ·grind
 ·grind
 ·simp_all
theorem MInv.qf (h:MInv s) (hg:g < s.gs.length) (e:24≤(aa s g).place∧(aa s g).place≤29∨31≤(aa s g).place∧(aa s g).place≤33∨(aa s g).place=14∨(aa s g).place=13∨(aa s g).place=30∧(aa s g).res.code=0):(aa s g).au=[]:=by
 by_cases w:(aa s g).au=[]
 ·exact w
 ·have:=(h.loc hg).w1 w;omega
theorem gw.polls (sR:0≤ns) (b:gw nc ns x) (h:jv x y) (e:25≤x.place∧x.place≤27)
  (hp:(25≤y.place∧y.place≤27)∧0≤y.k∧y.k < x.order.length∧y.aq=[]∧y.res.code=0∨y.place=30∧y.k=x.aB.length∧y.aq=[]∧y.res.code≠0 ∨
   y.place=28∧y.k=0∧y.aq=List.replicate (aO x).cases.length (-1)∧y.res.code=0):gw nc ns y:=by
 have ho:=h.aO;have hc:=h.ch;have o1:=b.o1;have l3:=b.l3;have o3:=b.o3;have hk:0≤y.k∧(25≤y.place∧y.place≤29∨y.place=32∨y.place=34→y.k < x.order.length)∧(y.place=30∨y.place=33→1≤y.k∧y.k≤x.aB.length):=by omega
 have no:y.place≠24∧y.place≠29∧y.place≠31∧y.place≠32∧y.place≠33∧y.place≠34∧y.place≠13∧y.place≠14:=by omega
 have hs:y.aq=[]∨y.aq=List.replicate (aO x).cases.length (-1):=by grind
 have rep:∀ j:Int,0≤j→j < y.aq.length→ax y.aq j=-1:=by
  intro j a c;rcases hs with w | w
  ·grind
  ·rw [w] at c ⊢;simp only [List.length_replicate] at c;unfold ax;rw [List.getD_eq_getElem?_getD,List.getElem?_replicate];rw [if_pos (by omega)];rfl
 constructor
 ·rw [h.order,h.aB,ho];simp only [hc];exact o1
 ·rw [h.order];exact b.o2
 ·rw [h.order];exact b.o3
 ·rw [h.aB];exact b.l1
 ·rw [h.aB];exact b.l2
 ·rw [h.aB];exact b.l3
 ·exact hk.1
 ·intro c;omega
 ·rw [h.order];exact hk.2.1
 ·rw [h.aB];exact hk.2.2
 ·grind
 ·grind
 ·grind
 ·grind
 ·intro c j hj;rw [h.order] at hj;have:=o1 j (List.mem_of_mem_drop hj);rcases hp with w | w | w
  ·omega
  ·omega
  ·grind
 ·omega
 ·intro c;omega
 ·omega
 ·intro c;omega
 ·intro c j hj;rcases hp with w | w | w
  ·omega
  ·omega
  ·simp_all
theorem wA {x:Gr} (hs:SE x) (h:24≤x.place∧x.place≤27∨x.aq=[]∨∀ i∈x.aq,i=-1) (i:Int):¬ Own x i:=by
 rintro ⟨w0,w | w⟩
 ·exact w.1.ne hs
 ·grind
theorem nZ {x:Gr} (hs:SE x) (h:24≤x.place∧x.place≤28∨x.place=33∨x.place=34∨x.place=30∧x.res.code≠0) (i j:Int):¬ eH x i j:=by
 rintro (w | w)
 ·exact w.1.ne hs
 ·omega
structure Poll (ns:Int) (x y:Gr):Prop where
 kp:jv x y
 hp:(25≤y.place∧y.place≤27)∧0≤y.k∧y.k < x.order.length∧y.aq=[]∧y.res.code=0∨y.place=30∧y.k=x.aB.length∧y.aq=[]∧y.res.code≠0 ∨
   y.place=28∧y.k=0∧y.aq=List.replicate (aO x).cases.length (-1)∧y.res.code=0
 hd:y.place=26∨y.place=27→0≤y.hold∧y.hold < ns
theorem Poll.loc {x y:Gr} (f:Poll ns x y) (L:Loc nc ns n x) (b:gw nc ns x) (hs:SE x) (st:x.status=0) (e:25≤x.place∧x.place≤27) (wk:y.au=[]) (sR:0≤ns):Loc nc ns n y:=by
 have hp:=f.hp;obtain ⟨pm,tk⟩:=L.uy (oa (x:=x) (by omega));refine L.mw hs (by omega) f.kp.ops f.kp.at_ (by rw [f.kp.status];exact st) (by rw [f.kp.token];exact tk) (by rw [f.kp.param];exact pm) (by omega) (by rw [wk];simp) (by rw [wk];simp) (by rw [wk];simp) f.hd sR (b.polls sR f.kp e hp)
theorem Poll.jX {x y:Gr} (f:Poll ns x y):jX y:=by
 have hp:=f.hp;have:=f.kp.aB;unfold Sx.jX;rw [this];omega
theorem Poll.rR {x y:Gr} (f:Poll ns x y) (hs:SE x) (i:Int):¬ Own y i:=by
 refine wA (f.kp.se.2 hs) ?_ i;rcases f.hp with w | w | w
 ·omega
 ·grind
 ·grind
theorem Poll.holds {x y:Gr} (f:Poll ns x y) (hs:SE x) (e:25≤x.place∧x.place≤27) (ch:Int):bS y ch↔bS x ch:=by
 rw [mD (f.kp.se.2 hs) f.jX,mD hs (by unfold Sx.jX;omega),f.kp.aB]
theorem MInv.Jv (h:MInv s) (hg:g < s.gs.length) (st:(aa s g).status=0) (k:(ag s g).kind=9) (e:25≤(aa s g).place∧(aa s g).place≤27) {y:Gr} (f:Poll s.aA.length (aa s g) y) (wk:y.au=(aa s g).au) (n2:y.place≠26∧y.place≠27) {c:Int} {c':Cn} (c0:1≤c) (c1:c≤s.av.length)
  (e1:c'.lock=(cn s c).lock) (e2:0≤c'.cap∧c'.cap≤4∧(c'.buf.length:Int)≤c'.cap) (e3:c'.recv.Sublist (cn s c).recv∧c'.send.Sublist (cn s c).send) (e4:c'.recv=(cn s c).recv∧c'.send=(cn s c).send∨bS (aa s g) c):MInv (ai (aE s c c') g y):=by
 have L:=h.loc hg;have kx:SE (aa s g):=k;have b:=h.iF hg k (by unfold c9;omega);have eI:=h.qf hg (by omega);have nw:¬ Wt (aa s g):=oa (by omega);exact h.chan hg c0 c1 (f.loc L b kx st e (wk.trans eI) h.ju) ⟨.inl ⟨e1,f.holds kx e⟩,e2,e3,e4⟩ (fun i=>⟨fun w=>absurd w (f.rR kx i),fun w=>absurd w (wA kx (.inl ⟨by omega,by omega⟩) i)⟩) (fun i d w=>absurd w (f.rR kx i)) (fun i j w=>absurd w (nZ kx (by omega) i j)) (by have:=f.hp;unfold cR;omega) (by have:=f.hp;unfold dy;omega) (fun q=>by rw [wk];exact id) (fun w=>absurd w.1 nw) (fun w=>absurd w.1 nw) f.kp.at_
theorem MInv.Bp (h:MInv s) (hg:g < s.gs.length) (st:(aa s g).status=0) (k:(ag s g).kind=9) (e:25≤(aa s g).place∧(aa s g).place≤27) {y:Gr} (f:Poll s.aA.length (aa s g) y) (wk:y.au=(aa s g).au) (n2:y.place≠27)
  (wn:cR y→1≤(su s y.hold).ch∧(su s y.hold).ch≤s.av.length∧bS y (su s y.hold).ch∧(y.hold∈(cn s (su s y.hold).ch).recv∨y.hold∈(cn s (su s y.hold).ch).send)∧0≤(su s y.hold).cs):MInv (ai s g y):=by
 have L:=h.loc hg;have kx:SE (aa s g):=k;have b:=h.iF hg k (by unfold c9;omega);have eI:=h.qf hg (by omega);have nw:¬ Wt (aa s g):=oa (by omega);exact h.self hg ⟨f.loc L b kx st e (wk.trans eI) h.ju,f.holds kx e,fun i=>⟨fun w=>absurd w (f.rR kx i),fun w=>absurd w (wA kx (.inl ⟨by omega,by omega⟩) i)⟩,fun i d w=>absurd w (f.rR kx i),fun i j w=>absurd w (nZ kx (by omega) i j),by have:=f.hp;unfold dy;omega,fun q=>by rw [wk];exact id,fun w=>absurd w.1 nw,fun w=>absurd w.1 nw⟩ f.kp.at_ wn
theorem gw.hand (b:gw nc ns x) (k:25≤x.place∧x.place≤29∨x.place=32∨x.place=34):ax x.order x.k∈x.order∧0≤ax x.order x.k∧ax x.order x.k < (aO x).cases.length∧cr x (ax x.order x.k)∈x.aB∧1≤cr x (ax x.order x.k)∧cr x (ax x.order x.k)≤nc:=by
 have hm:=oI b.k0 (b.k2 k);have o:=b.o1 _ hm;have l:=b.l1 _ o.2.2;exact ⟨hm,o.1,o.2.1,o.2.2,l.1,l.2⟩
theorem Jw {s:ah} {g:Nat} {x:Gr} {r:Md.aj} {i:Int} (hg:g < s.gs.length):cZ (ai s g x) g r i=ai s g { x with bT:=s.step,res:={ r with cs:=i },dm:=i,k:=x.aB.length,place:=30 }:=by
 unfold cZ;simp only;rw [EJ _ _ _ _ _ hg,je s g g _ hg,if_pos rfl,kS];unfold unlock;rw [je s g g _ hg,if_pos rfl,kS]
theorem Bq {s:ah} {g:Nat} (hg:g < s.gs.length):ai s g (aa s g)=s:=by
 unfold ai aa;rw [List.getD_eq_getElem?_getD,List.getElem?_eq_getElem hg];simp
theorem uA {s:ah} {g:Nat} {r:Md.aj} {i:Int} (hg:g < s.gs.length):cZ s g r i=ai s g { aa s g with bT:=s.step,res:={ r with cs:=i },dm:=i,k:=(aa s g).aB.length,place:=30 }:=by
 have:=Jw (s:=s) (g:=g) (x:=aa s g) (r:=r) (i:=i) hg;rw [Bq hg] at this;exact this
theorem Jx {s:ah} {g:Nat} {c:Int} {c':Cn} {r:Md.aj} {i:Int} (hg:g < s.gs.length):cZ (aE s c c') g r i=ai (aE s c c') g { aa s g with bT:=s.step,res:={ r with cs:=i },dm:=i,k:=(aa s g).aB.length,place:=30 }:=by
 rw [uA (by exact hg)];rfl
theorem oZ {s:ah} {g:Nat} {x:Gr} {p:Int} (hg:g < s.gs.length):next (ai s g x) g p=ai s g (if x.k + 1=x.order.length then { x with k:=0,place:=p } else { x with k:=x.k + 1 }):=by
 unfold next;simp only;rw [je s g g _ hg,if_pos rfl]
 split <;> rw [kS]
theorem uD {s:ah} {g:Nat} {p:Int} (hg:g < s.gs.length):next s g p=ai s g (if (aa s g).k + 1=(aa s g).order.length then { aa s g with k:=0,place:=p } else { aa s g with k:=(aa s g).k + 1 }):=by
 have:=oZ (s:=s) (g:=g) (x:=aa s g) (p:=p) hg;rw [Bq hg] at this;exact this
theorem uE {s:ah} {g:Nat} {x:Gr} (hg:g < s.gs.length):dG (ai s g x) g=ai s g (if x.place=27 then { x with dm:=ax x.order x.k } else x):=by
 unfold dG;simp only;rw [je s g g _ hg,if_pos rfl]
 split <;> rw [kS]
theorem MInv.Jy (h:MInv s) (hg:g < s.gs.length) (st:(aa s g).status=0) (k:(ag s g).kind=9) (e:(aa s g).place=25) {i c:Int} (hc:c∈(aa s g).aB) (hq:i∈(cn s c).recv∨i∈(cn s c).send):MInv (dG (taken s g i 26 27) g):=by
 have L:=h.loc hg;have kx:SE (aa s g):=k;have b:=h.iF hg k (by unfold c9;omega);have eI:=h.qf hg (by omega);have nw:¬ Wt (aa s g):=oa (by omega);obtain ⟨c0,c1⟩:=b.l1 c hc;obtain ⟨o,q⟩:=h.uw (g:=g) c0 c1 hq;have nq:=nZ kx (x:=aa s g) (by omega);have bV:=q.ne h nq;have k2:=b.k2 (by omega);have s1:=b.s1 (by omega);have cc:=b.c1 (by omega)
 by_cases hn:0≤(su s i).cs
 ·rw [EC hg hn,uE hg,if_neg (by simp)];have f:Poll s.aA.length (aa s g) { aa s g with hold:=i,place:=26 }:=⟨⟨rfl,rfl,rfl,rfl,rfl,rfl,rfl,rfl,rfl⟩,.inl ⟨by simp,b.k0,k2,s1,cc⟩,fun _=>⟨q.i0,q.i1⟩⟩
  refine h.Bp hg st k (by omega) f rfl (by simp) (fun _=>?_);simp only;rw [q.ch];exact ⟨c0,c1,(f.holds kx (by omega) c).2 ((mD kx (by unfold jX;omega) c).2 hc),hq,hn⟩
 ·rw [EB hg q.g_ bV q.ch c0 c1 hn];rw [uE (by rw [eV];exact hg),if_pos rfl];have f:Poll s.aA.length (aa s g) { aa s g with hold:=i,t:=s.step,bT:=s.step,wi:=o,place:=27,dm:=ax (aa s g).order (aa s g).k }:=⟨⟨rfl,rfl,rfl,rfl,rfl,rfl,rfl,rfl,rfl⟩,.inl ⟨by simp,b.k0,k2,s1,cc⟩,fun _=>⟨q.i0,q.i1⟩⟩
  refine h.Bk hg q (f.loc L b kx st (by omega) eI h.ju) ⟨.inl ⟨rfl,f.holds kx (by omega)⟩,h.gP c0 c1,⟨js,js⟩,.inr ?_⟩ (fun i=>⟨fun w=>absurd w (f.rR kx i),fun w=>absurd w (wA kx (.inl ⟨by omega,by omega⟩) i)⟩) (fun i d w=>absurd w (f.rR kx i)) nq (by unfold cR;simp) (fun q=>id) nw (.inr rfl) rfl c0 c1 ?_ hq ⟨rfl,rfl,rfl,rfl,rfl,rfl,rfl,rfl,rfl,rfl,rfl⟩ rfl rfl rfl (.inl ⟨by omega,n9,n9,rfl⟩) rfl
  ·exact (mD kx (by unfold jX;omega) c).2 hc
  ·exact (f.holds kx (by omega) c).2 ((mD kx (by unfold jX;omega) c).2 hc)
theorem MInv.Rs (h:MInv s) (hg:g < s.gs.length) (st:(aa s g).status=0) (k:(ag s g).kind=9) (e:(aa s g).place=26):MInv (dG (cT s g 25 27) g):=by
 have L:=h.loc hg;have kx:SE (aa s g):=k;have b:=h.iF hg k (by unfold c9;omega);have eI:=h.qf hg (by omega);have nw:¬ Wt (aa s g):=oa (by omega);have hd:=L.hd (by omega);have nq:=nZ kx (x:=aa s g) (by omega);have k2:=b.k2 (by omega);have s1:=b.s1 (by omega);have cc:=b.c1 (by omega);obtain ⟨o,q,c0,c1,hh,hq,jK⟩:=h.yW hg (.inr (.inr e));have bV:o≠g:=q.ne h nq
 cases hp:(aa s o).bG with
 | true =>
  rw [Jc (by rw [q.g_];exact hp),drop_eq rfl c0 c1,uE (by exact hg),if_neg (by simp)];have f:Poll s.aA.length (aa s g) { aa s g with hold:=-1,place:=25 }:=⟨⟨rfl,rfl,rfl,rfl,rfl,rfl,rfl,rfl,rfl⟩,.inl ⟨by simp,b.k0,k2,s1,cc⟩,by simp⟩
  exact h.Jv hg st k (by omega) f rfl (by simp) c0 c1 rfl (h.gP c0 c1) ⟨js,js⟩ (.inr hh)
 | false =>
  rw [ED hg q.o1 q.g_ bV hp,uE (by rw [eV];exact hg),if_pos rfl];have f:Poll s.aA.length (aa s g) { aa s g with t:=s.step,bT:=s.step,wi:=o,place:=27,dm:=ax (aa s g).order (aa s g).k }:=⟨⟨rfl,rfl,rfl,rfl,rfl,rfl,rfl,rfl,rfl⟩,.inl ⟨by simp,b.k0,k2,s1,cc⟩,fun _=>hd⟩
  have:=h.Bk hg q (c':=cn s (su s (aa s g).hold).ch) (f.loc L b kx st (by omega) eI h.ju) ⟨.inl ⟨rfl,f.holds kx (by omega)⟩,h.gP c0 c1,⟨List.Sublist.refl _,List.Sublist.refl _⟩,.inr hh⟩ (fun i=>⟨fun w=>absurd w (f.rR kx i),fun w=>absurd w (wA kx (.inl ⟨by omega,by omega⟩) i)⟩) (fun i d w=>absurd w (f.rR kx i)) nq (by unfold cR;simp) (fun q=>id) nw (.inr rfl) rfl c0 c1 ((f.holds kx (by omega) _).2 hh) hq (y:={ aa s o with bG:=true,bT:=s.step,wi:=g,dm:=(su s (aa s g).hold).cs }) ⟨rfl,rfl,rfl,rfl,rfl,rfl,rfl,rfl,rfl,rfl,rfl⟩ rfl rfl rfl (.inr ⟨jK,hp,rfl,hh⟩) rfl;rw [Ja c0 c1] at this;exact this
theorem MInv.fq (h:MInv s) (hg:g < s.gs.length) (st:(aa s g).status=0) (k:(ag s g).kind=9) (e:(aa s g).place=25):MInv (fq s g (ag s g)):=by
 have L:=h.loc hg;have kx:SE (aa s g):=k;have b:=h.iF hg k (by unfold c9;omega);have k2:=b.k2 (by omega);have s1:=b.s1 (by omega);have cc:=b.c1 (by omega);have k0:=b.k0;have l3:=b.l3;have hd:=b.hand (by omega);have ho:aO (aa s g)=ag s g:=rfl;have nJ:(aH (ag s g) (ax (aa s g).order (aa s g).k)).ch=cr (aa s g) (ax (aa s g).order (aa s g).k):=rfl;have Jz:∀ (r:Md.aj) (i:Int),r.code≠0→Poll s.aA.length (aa s g) { aa s g with bT:=s.step,res:={ r with cs:=i },dm:=i,k:=(aa s g).aB.length,place:=30 }:=fun r i hr =>
  ⟨⟨rfl,rfl,rfl,rfl,rfl,rfl,rfl,rfl,rfl⟩,.inr (.inl ⟨rfl,rfl,s1,hr⟩),by simp⟩
 have JA:∀ (r:Md.aj) (i:Int),r.code≠0→MInv (cZ s g r i):=fun r i hr=>by
  rw [uA hg];exact h.Bp hg st k (by omega) (Jz r i hr) rfl (by simp) (fun w=>by unfold cR at w;simp at w)
 have JB:∀ (c:Int) (l:List Int) (r:Md.aj) (i:Int),1≤c→c≤s.av.length→(l.length:Int)≤(cn s c).cap→r.code≠0→MInv (cZ (aE s c { cn s c with buf:=l }) g r i):=fun c l r i c0 c1 hl hr=>by
  rw [Jx hg];have AT:=h.gP c0 c1;exact h.Jv hg st k (by omega) (Jz r i hr) rfl (by simp) c0 c1 rfl ⟨AT.1,AT.2.1,hl⟩ ⟨List.Sublist.refl _,List.Sublist.refl _⟩ (.inl ⟨rfl,rfl⟩)
 unfold Sx.fq;simp only;generalize hi:ax (aa s g).order (aa s g).k=i at *;rw [← ho];have xe:(aH (aO (aa s g)) i).ch=cr (aa s g) i:=rfl;have XU:(fX s g i (aH (aO (aa s g)) i)).2=true→MInv (fX s g i (aH (aO (aa s g)) i)).1:=by
  unfold fX;simp only [xe]
  split
  ·grind
  split
  ·rename_i c;intro _;exact h.Jy hg st k e hd.2.2.2.1 (.inl (sQ (by omega)))
  split
  ·rename_i c;intro _;exact JB _ _ _ _ hd.2.2.2.2.1 hd.2.2.2.2.2 (Ji c) (by decide)
  ·intro c;cases c
 have XV:(gE s g i (aH (aO (aa s g)) i)).2=true→MInv (gE s g i (aH (aO (aa s g)) i)).1:=by
  unfold gE;simp only [xe]
  split
  ·rename_i c;intro _;exact h.Jy hg st k e hd.2.2.2.1 (.inr (sQ (by omega)))
  split
  ·intro _;have AT:=h.gP hd.2.2.2.2.1 hd.2.2.2.2.2;exact JB _ _ _ _ hd.2.2.2.2.1 hd.2.2.2.2.2 (by have:=Jj (l:=(cn s (cr (aa s g) i)).buf);omega) (by unfold eB;simp)
  split
  ·intro _;exact JA _ _ (by unfold eB;simp)
  ·intro c;cases c
 have XW:(aa s g).k + 1 < (aa s g).order.length→MInv (next s g 25):=by
  intro c;rw [uD hg,az];exact h.Bp hg st k (by omega) ⟨⟨rfl,rfl,rfl,rfl,rfl,rfl,rfl,rfl,rfl⟩,.inl ⟨by simp only;omega,by simp only;omega,c,s1,cc⟩,by simp only;omega⟩ rfl (by simp only;omega) (fun w=>by unfold cR at w;simp only at w;omega)
 have XX:¬ (aa s g).k + 1 < (aa s g).order.length→MInv (next (ai s g { aa s g with aq:=List.replicate (aO (aa s g)).cases.length (-1) }) g 28):=by
  intro c;rw [oZ hg,if_pos (by simp only;omega)];exact h.Bp hg st k (by omega) ⟨⟨rfl,rfl,rfl,rfl,rfl,rfl,rfl,rfl,rfl⟩,.inr (.inr ⟨rfl,rfl,rfl,cc⟩),by simp⟩ rfl (by simp) (fun w=>by unfold cR at w;simp at w)
 have XY:MInv (cZ s g ⟨2,0,0,false,0⟩ (-1)):=JA _ _ (by decide)
 by_cases EO:(aH (aO (aa s g)) i).send=true
 ·grind
 ·grind
end Sx
namespace Sx
variable {s t:ah} {g:Nat} {nc ns n:Int} {x y:Gr}
theorem MInv.EP (h:MInv s) (hg:g < s.gs.length) (st:(aa s g).status=0) (k:(ag s g).kind=9) (e:(aa s g).place=27) {o:Nat} {c i:Int} (hi:(aa s g).hold=i) (q:EE s g i c o) (other:∀ k:Nat,k < s.gs.length→k≠g→dy (aa s k)→(su s (aa s k).hold).g=o→False) (r:Md.aj) (hr:r.code≠0) (d:Su)
  (hd:d.g=(su s i).g∧d.ch=(su s i).ch∧d.cs=(su s i).cs∧d.send=(su s i).send∧d.live=(su s i).live) :
  MInv (ai (aV (ai (aE s c (cC (cn s c) i)) o { aa s o with param:=i }) i d) g { aa s g with au:=(aa s g).au ++ [(o:Int)],hold:=-1,res:=r,k:=(aa s g).aB.length,place:=30 }):=by
 have L:=h.loc hg;have kx:SE (aa s g):=k;have b:=h.iF hg k (by unfold c9;omega);have eI:=h.qf hg (by omega);have nw:¬ Wt (aa s g):=oa (by omega);have nq:=nZ kx (x:=aa s g) (by omega);have s1:=b.s1 (by omega);have f:Poll s.aA.length (aa s g) { aa s g with hold:=-1,res:=r,k:=(aa s g).aB.length,place:=30 }:=⟨⟨rfl,rfl,rfl,rfl,rfl,rfl,rfl,rfl,rfl⟩,.inr (.inl ⟨rfl,rfl,s1,hr⟩),by simp⟩
 have lz:=f.loc L b kx st (by omega) eI h.ju;have lx:Loc s.av.length s.aA.length s.gs.length { aa s g with au:=(aa s g).au ++ [(o:Int)],hold:=-1,res:=r,k:=(aa s g).aB.length,place:=30 } :=
  lz.EF (.inr (.inr (.inr (.inr (.inr ⟨rfl,hr⟩))))) (by rw [eI];have:=q.o1;simp;omega) (by rw [eI];simp) (by simp)
 have JC:∀ i,¬ Own { aa s g with au:=(aa s g).au ++ [(o:Int)],hold:=-1,res:=r,k:=(aa s g).aB.length,place:=30 } i:=fun i w=>f.rR kx i w
 refine h.EA hg q.c0 q.c1 lx ⟨.inl ⟨rfl,fun ch=>f.holds kx (by omega) ch⟩,h.gP q.c0 q.c1,⟨js,js⟩,.inr q.hh⟩ (fun i=>⟨fun w=>absurd w (JC i),fun w=>absurd w (wA kx (.inl ⟨by omega,by omega⟩) i)⟩) (fun i d w=>absurd w (JC i)) nq (by unfold cR;simp) (by unfold dy;simp) (fun q hq=>?_) nw q.sc q.so q.o1 q.ne q.wt q.pm q.own (fun w=>q.se w) ⟨n9,n9⟩ other ⟨rfl,rfl,rfl,rfl,rfl,rfl,rfl,rfl,rfl,rfl,rfl⟩ rfl rfl rfl rfl hd;rcases List.mem_append.1 hq with w | w
 ·exact .inl w
 ·grind
theorem rS {s:ah} {g:Nat} {x:Gr} {p:Int} (hg:g < s.gs.length):unlock (ai s g x) g p=ai s g { x with k:=x.aB.length,place:=p }:=by
 unfold unlock;rw [je s g g _ hg,if_pos rfl,kS]
theorem Rt {s:ah} {g:Nat} {p:Int} (hg:g < s.gs.length):unlock s g p=ai s g { aa s g with k:=(aa s g).aB.length,place:=p }:=rfl
theorem Ru {s:ah} {g o:Nat} {i c:Int} {d:Su} {r:Md.aj} {kk p:Int} (hg:g < s.gs.length) (ho:o < s.gs.length) (so:d.g=o) (bV:o≠g) (i0:0≤i) (i1:i < s.aA.length) (hk:kk=(aa s g).aB.length) :
  unlock (ai (serve (aV (aE s c (cC (cn s c) i)) i d) g i true) g { aa (serve (aV (aE s c (cC (cn s c) i)) i d) g i true) g with res:=r }) g p =
  ai (aV (ai (aE s c (cC (cn s c) i)) o { aa s o with param:=i }) i { d with done:=true }) g { aa s g with au:=(aa s g).au ++ [(o:Int)],hold:=-1,res:=r,k:=kk,place:=p }:=by
 have s1:su (aV (aE s c (cC (cn s c) i)) i d) i=d:=Jd i0 i1;have e:=yX (s:=aV (aE s c (cC (cn s c) i)) i d) (g:=g) (o:=o) (i:=i) (d:=true) hg ho (by rw [s1];exact so) bV;have g1:aa (aV (aE s c (cC (cn s c) i)) i d) g=aa s g:=rfl;have g2:aa (aV (aE s c (cC (cn s c) i)) i d) o=aa s o:=rfl;rw [s1,g1,g2] at e;rw [e];have hl:∀ y:Gr,g < (aV (ai (aV (aE s c (cC (cn s c) i)) i d) o y) i { d with done:=true }).gs.length:=fun y=>by show g < (ai _ _ _).gs.length;rw [eV];exact hg
 have g3:∀ y z,aa (ai (aV (ai (aV (aE s c (cC (cn s c) i)) i d) o y) i { d with done:=true }) g z) g=z:=fun y z=>by
  rw [gy (hl y),if_pos rfl]
 rw [g3,kS,rS (hl _),hk];unfold ai aV aE;simp only [List.set_set]
theorem JE {s:ah} {g o:Nat} {i c:Int} {r:Md.aj} {kk p:Int} (hg:g < s.gs.length) (ho:o < s.gs.length) (so:(su s i).g=o) (bV:o≠g) (hk:kk=(aa s g).aB.length) :
  unlock (ai (serve (aE s c (cC (cn s c) i)) g i true) g { aa (serve (aE s c (cC (cn s c) i)) g i true) g with res:=r }) g p =
  ai (aV (ai (aE s c (cC (cn s c) i)) o { aa s o with param:=i }) i { su s i with done:=true }) g { aa s g with au:=(aa s g).au ++ [(o:Int)],hold:=-1,res:=r,k:=kk,place:=p }:=by
 have e:=yX (s:=aE s c (cC (cn s c) i)) (g:=g) (o:=o) (i:=i) (d:=true) hg ho so bV;have g1:aa (aE s c (cC (cn s c) i)) g=aa s g:=rfl;have g2:aa (aE s c (cC (cn s c) i)) o=aa s o:=rfl;have g4:su (aE s c (cC (cn s c) i)) i=su s i:=rfl;rw [g1,g2,g4] at e;rw [e];have hl:∀ y:Gr,g < (aV (ai (aE s c (cC (cn s c) i)) o y) i { su s i with done:=true }).gs.length:=fun y=>by show g < (ai _ _ _).gs.length;rw [eV];exact hg
 have g3:∀ y z,aa (ai (aV (ai (aE s c (cC (cn s c) i)) o y) i { su s i with done:=true }) g z) g=z:=fun y z=>by
  rw [gy (hl y),if_pos rfl]
 rw [g3,kS,rS (hl _),hk]
theorem MInv.gG (h:MInv s) (hg:g < s.gs.length) (st:(aa s g).status=0) (k:(ag s g).kind=9) (e:(aa s g).place=27):MInv (gG s g (ag s g)):=by
 obtain ⟨o,q,wu⟩:=h.Bm hg (.inr e);have L:=h.loc hg;have kx:SE (aa s g):=k;have b:=h.iF hg k (by unfold c9;omega);have eP:=b.hand (by omega);have hd:=L.hd (by omega);unfold Sx.gG;simp only;generalize hi:ax (aa s g).order (aa s g).k=j at *;have d0:=eP.2.2.2.2.1;have d1:=eP.2.2.2.2.2;have nJ:(aH (ag s g) j).ch=cr (aa s g) j:=rfl;rw [drop_eq q.sc q.c0 q.c1]
 by_cases EO:(aH (ag s g) j).send=true
 ·simp only [if_pos EO];have e1:su (aE s (su s (aa s g).hold).ch (cC (cn s (su s (aa s g).hold).ch) (aa s g).hold)) (aa s g).hold=su s (aa s g).hold:=rfl;rw [e1,Ru hg q.o1 (by exact q.so) q.ne hd.1 hd.2 rfl];exact h.EP hg st k e rfl q wu _ (by simp) _ ⟨rfl,rfl,rfl,rfl,rfl⟩
 ·simp only [if_neg EO];rw [nJ];obtain ⟨r,hr,jY⟩:∃ r,({ eB (hand (aE s (su s (aa s g).hold).ch (cC (cn s (su s (aa s g).hold).ch) (aa s g).hold)) (cr (aa s g) j) (aa s g).hold).2 true with cs:=j }:Md.aj)=r∧r.code≠0:=⟨_,rfl,by simp [eB]⟩
  rw [hr];clear hr;unfold hand;simp only
  split
  ·rw [JE hg q.o1 q.so q.ne rfl];exact h.EP hg st k e rfl q wu _ jY _ ⟨rfl,rfl,rfl,rfl,rfl⟩
  ·simp only;rw [Jf q.c0 q.c1 d0 d1];obtain ⟨bf,hb,EG⟩:∃ b,(fh (cn (aE s (su s (aa s g).hold).ch (cC (cn s (su s (aa s g).hold).ch) (aa s g).hold)) (cr (aa s g) j)).buf (cn (aE s (su s (aa s g).hold).ch (cC (cn s (su s (aa s g).hold).ch) (aa s g).hold)) (cr (aa s g) j)).cap (su (aE s (su s (aa s g).hold).ch (cC (cn s (su s (aa s g).hold).ch) (aa s g).hold)) (aa s g).hold).v).1=b∧b.length=(cn s (cr (aa s g) j)).buf.length:=by
    refine ⟨_,rfl,?_⟩;rw [Jg,nr q.c0 q.c1 rfl _ d0];unfold up
    split
    ·rename_i c;rw [c];rfl
    ·rfl
   rw [hb];have ux:=h.gP d0 d1;have h2:MInv (aE s (cr (aa s g) j) { cn s (cr (aa s g) j) with buf:=bf }):=h.buf d0 d1 rfl rfl rfl ⟨ux.1,ux.2.1,by simp only;rw [EG];exact ux.2.2⟩;obtain ⟨s2,iX⟩:∃ s2,aE s (cr (aa s g) j) { cn s (cr (aa s g) j) with buf:=bf }=s2:=⟨_,rfl⟩
   have eg:∀ j,aa s2 j=aa s j:=fun j=>by rw [← iX];rfl
   have es:∀ j,su s2 j=su s j:=fun j=>by rw [← iX];rfl
   have el:s2.gs.length=s.gs.length:=by rw [← iX];rfl
   have ec:s2.av.length=s.av.length:=by rw [← iX];simp [aE]
   have eq:∀ ch,1≤ch→(cn s2 ch).recv=(cn s ch).recv∧(cn s2 ch).send=(cn s ch).send:=by
    intro ch a;rw [← iX,nr d0 d1 rfl ch a];unfold up
    split
    ·grind
    ·exact ⟨rfl,rfl⟩
   rw [iX] at h2 ⊢;have eo:ag s2 g=ag s g:=by unfold ag;rw [eg]
   rw [← es,← eg];rw [JE (by rw [el];exact hg) (by rw [el];exact q.o1) (by rw [es,eg];exact q.so) q.ne rfl];refine h2.EP (by rw [el];exact hg) (by rw [eg];exact st) (by rw [eo];exact k) (by rw [eg];exact e) rfl ⟨?_,?_,rfl,?_,?_,q.ne,?_,?_,?_,?_,?_,?_⟩ ?_ _ jY _ ⟨rfl,rfl,rfl,rfl,rfl⟩
   ·rw [es,eg];exact q.c0
   ·rw [es,eg,ec];exact q.c1
   ·rw [es,eg];exact q.so
   ·rw [el];exact q.o1
   ·rw [es,eg];exact q.hh
   ·rw [eg];exact q.wt
   ·rw [eg];exact q.pm
   ·rw [eg,eg];exact q.own
   ·rw [eg];exact q.se
   ·rw [es,eg,eg,(eq _ q.c0).1,(eq _ q.c0).2];exact q.sr
   ·grind
end Sx
namespace Sx
variable {s t:ah} {g:Nat} {nc ns n:Int} {x y:Gr}
theorem JF {l:List Int} {i j v:Int} (i0:0≤i) (j0:0≤j) (j1:j < l.length):ax (l.set i.toNat v) j=if j=i then v else ax l j:=by
 unfold ax;simp only [List.getD_eq_getElem?_getD,List.getElem?_set]
 by_cases c:j=i
 ·grind
 ·grind
theorem nB {l:List Int} {v:Int}:v∈l↔∃ j:Int,0≤j∧j < l.length∧ax l j=v:=by
 constructor
 ·intro h;obtain ⟨k,hk,e⟩:=List.getElem_of_mem h;refine ⟨k,by omega,by omega,?_⟩;unfold ax;rw [List.getD_eq_getElem?_getD,Int.toNat_natCast,List.getElem?_eq_getElem hk,e];rfl
 ·rintro ⟨j,a,b,rfl⟩
  exact oI a b
theorem uF (hs:SE x) (hy:SE y) (px:28≤x.place∧x.place≤34∨x.place=13∨x.place=14) (py:28≤y.place∧y.place≤34∨y.place=13∨y.place=14) (e:y.aq=x.aq) (i:Int):Own y i↔Own x i:=by
 have nx:¬ SR x:=fun w=>w.ne hs
 have ny:¬ SR y:=fun w=>w.ne hy
 unfold Own;simp only [nx,ny,false_and,false_or,e]
 constructor
 ·grind
 ·grind
theorem jv.mt (h:jv x y) (hs:SE x) (e:y.aq=x.aq) {i:Int} {d:Su} (m:Match x i d):Match y i d:=by
 rcases m with m | m
 ·grind [Wt,SE,SR]
 ·exact .inr ⟨h.se.2 hs,by rw [e,h.aO,h.order,h.ch];exact m.2⟩
theorem MInv.aA (h:MInv s) (hg:g < s.gs.length) (st:(aa s g).status=0) (k:(ag s g).kind=9) (e:(aa s g).place=28):MInv (aA s g (ag s g)):=by
 have L:=h.loc hg;have kx:SE (aa s g):=k;have b:=h.iF hg k (by unfold c9;omega);have eI:=h.qf hg (by omega);have nw:¬ Wt (aa s g):=oa (by omega);obtain ⟨pm,tk⟩:=L.uy nw;have eP:=b.hand (by omega);have k2:=b.k2 (by omega);have k0:=b.k0;have s2:=b.s2 (by omega);have s4:=b.s4;have s5:=b.s5 e;have cc:=b.c1 (by omega);have l3:=b.l3;have nq:=nZ kx (x:=aa s g) (by omega);unfold Sx.aA;simp only;have nJ:(aH (ag s g) (ax (aa s g).order (aa s g).k)).ch=cr (aa s g) (ax (aa s g).order (aa s g).k):=rfl;rw [nJ];have kO:=uz k0 k2;have sP:=sS k0 k2;have s8:=b.s8 e;generalize hi:ax (aa s g).order (aa s g).k=i at *
 by_cases ok:(bn s g).2.2=true
 ·rw [if_pos ok];have T:=Bi h hg ok;generalize (bn s g).2.1=d at *;generalize (bn s g).1=t at *;have Rv:g < (aV t d ⟨true,g,cr (aa s g) i,i,(aH (ag s g) i).send,(aH (ag s g) i).v,false⟩).gs.length:=by show g < t.gs.length;rw [T.gs];exact hg
  rw [oZ Rv];obtain ⟨y,hy⟩:∃ y,(if ({ aa s g with aq:=(aa s g).aq.set i.toNat d }:Gr).k + 1=(({ aa s g with aq:=(aa s g).aq.set i.toNat d }:Gr).order.length:Int) then ({ ({ aa s g with aq:=(aa s g).aq.set i.toNat d }:Gr) with k:=0,place:=29 }:Gr) else { ({ aa s g with aq:=(aa s g).aq.set i.toNat d }:Gr) with k:=({ aa s g with aq:=(aa s g).aq.set i.toNat d }:Gr).k + 1 })=y:=⟨_,rfl⟩
  rw [hy];have hk:jv (aa s g) y:=by rw [← hy];split <;> exact ⟨rfl,rfl,rfl,rfl,rfl,rfl,rfl,rfl,rfl⟩
  have ys:y.aq=(aa s g).aq.set i.toNat d∧y.au=(aa s g).au∧y.res.code=0:=by grind
  have yp:(y.place=29∧y.k=0∧(aa s g).k + 1=(aa s g).order.length)∨(y.place=28∧y.k=(aa s g).k + 1∧(aa s g).k + 1 < (aa s g).order.length):=by grind
  clear hy;have eY:SE y:=hk.se.2 kx;have jQ:i < ((aa s g).aq.length:Int):=by omega
  have kH:∀ j:Int,0≤j→j < (aa s g).aq.length→ax y.aq j=if j=i then d else ax (aa s g).aq j:=fun j a c=>by rw [ys.1,JF eP.2.1 a c]
  have kE:y.aq.length=(aa s g).aq.length:=by grind
  have Rw:ax (aa s g).aq i=-1:=s5 i (by rw [kO];simp);have d0:=T.i0;have d1:=T.i1;have nodup:=b.o2;have o9:gw s.av.length s.aA.length y:=by
   have ho:=hk.aO;have hc:=hk.ch;have o1:=b.o1;have o3:=b.o3;have kk:0≤y.k∧y.k < (aa s g).order.length:=by omega
   have XZ:y.place=28∨y.place=29:=by omega
   constructor
   ·rw [hk.order,hk.aB,ho];simp only [hc];exact o1
   ·rw [hk.order];exact b.o2
   ·rw [hk.order];exact o3
   ·rw [hk.aB];exact b.l1
   ·rw [hk.aB];exact b.l2
   ·rw [hk.aB];exact b.l3
   ·exact kk.1
   ·intro c;omega
   ·rw [hk.order];intro _;exact kk.2
   ·intro c;omega
   ·intro c;omega
   ·grind
   ·intro c;omega
   ·intro j a c;rw [kE] at c;rw [kH j a c,hk.order]
    split
    ·grind
    ·exact s4 j a c
   ·intro c j hj;have rB:j∈(aa s g).order.drop ((aa s g).k + 1).toNat:=by
     rw [hk.order] at hj;rcases yp with w | w
     ·omega
     ·grind
    have pe:=o1 j (List.mem_of_mem_drop rB);have lu:j≠i:=by
     intro z;have:=nodup;rw [← List.take_append_drop (aa s g).k.toNat (aa s g).order,kO] at this;have:=(List.nodup_append.1 this).2.1;exact (List.nodup_cons.1 this).1 (z ▸ rB)
    rw [kH j pe.1 (by rw [s2];exact pe.2.1),if_neg lu];exact s5 j (by rw [kO];exact List.mem_cons_of_mem _ rB)
   ·intro c j hj;rw [hk.order] at hj;have pe:=o1 j hj;rw [kH j pe.1 (by rw [s2];exact pe.2.1)]
    split
    ·exact d0
    ·rename_i z;refine s8 j ?_;rw [← List.take_append_drop (aa s g).k.toNat (aa s g).order,kO] at hj;rcases List.mem_append.1 hj with w | w
     ·exact w
     ·rcases List.mem_cons.1 w with w | w
      ·exact absurd w z
      ·have:(aa s g).order.drop ((aa s g).k + 1).toNat=[]:=List.drop_eq_nil_of_le (by omega);rw [this] at w;simp at w
   ·intro c;omega
   ·intro _;exact ys.2.2
   ·intro c;omega
   ·intro c j hj;have c2:y.k=(aa s g).k + 1:=by omega
    rw [hk.order,c2,sP] at hj;have pe:0≤j∧j < (aO (aa s g)).cases.length:=by grind
    rw [kH j pe.1 (by rw [s2];exact pe.2)]
    split
    ·exact d0
    ·grind
  have JG:∀ j,Own (aa s g) j→∃ c:Int,0≤c∧c < (aa s g).aq.length∧ax (aa s g).aq c=j∧c≠i:=by
   rintro j ⟨j0,w | w⟩
   ·omega
   ·obtain ⟨c,c0,c1,c2⟩:=nB.1 w.2.2;exact ⟨c,c0,c1,c2,fun z=>by rw [z,Rw] at c2;omega⟩
  refine h.take hg T (x:=y) (L.mw kx (by omega) hk.ops hk.at_ (by rw [hk.status];exact st) (by rw [hk.token];exact tk) (by rw [hk.param];exact pm) (by omega) (by rw [ys.2.1,eI];simp) (by rw [ys.2.1,eI];simp) (by rw [ys.2.1,eI];simp) (by omega) h.ju o9) ?_ ?_ ?_ ?_ rfl nq (by unfold cR;omega) (by unfold dy;omega) ys.2.1 nw hk.at_
  ·intro ch;rw [mD eY (by unfold jX;omega),mD kx (by unfold jX;omega),hk.aB]
  ·intro j
   constructor
   ·rintro ⟨j0,w | w⟩
    ·omega
    ·obtain ⟨c,c0,c1,c2⟩:=nB.1 w.2.2;rw [kE] at c1;rw [kH c c0 c1] at c2
     split at c2
     ·exact .inr c2.symm
     ·exact .inl ⟨j0,.inr ⟨kx,by omega,nB.2 ⟨c,c0,c1,c2⟩⟩⟩
   ·rintro (w | w)
    ·obtain ⟨c,c0,c1,c2,c3⟩:=JG j w;refine ⟨w.1,.inr ⟨eY,by omega,nB.2 ⟨c,c0,by rw [kE];exact c1,?_⟩⟩⟩;rw [kH c c0 c1,if_neg c3];exact c2
    ·subst w;refine ⟨d0,.inr ⟨eY,by omega,nB.2 ⟨i,eP.2.1,by rw [kE];exact jQ,?_⟩⟩⟩;rw [kH i eP.2.1 jQ,if_pos rfl]
  ·intro j w;obtain ⟨c,c0,c1,c2,c3⟩:=JG j w;have hO:=Inv.own h.v (g:Int) (by omega) (by omega) j (by rw [fE];exact w);rw [fE] at hO;rcases hO.2.1 with m | m
   ·exact absurd kx m.1.ne
   ·obtain ⟨_,m1,m2,m3,m4,m5,m6,m7⟩:=m;have ec:=m7 c c0 c1 c2;refine .inr ⟨eY,m1,by rw [kE];exact m2,?_,by rw [hk.ch];exact m4,by rw [hk.aO];exact m5,by rw [hk.order];exact m6,?_⟩
    ·grind
    ·intro q q0 q1 q2;rw [kE] at q1;rw [kH q q0 q1] at q2
     split at q2
     ·exfalso
      have:=hO.2.2.2;rw [← q2] at this;rw [T.nl] at this;cases this
     ·exact m7 q q0 q1 q2
  ·refine .inr ⟨eY,eP.2.1,by rw [kE];exact jQ,by rw [kH i eP.2.1 jQ,if_pos rfl],by rw [hk.ch],by rw [hk.aO];rfl,by rw [hk.order];exact eP.1,?_⟩;intro q q0 q1 q2;rw [kE] at q1;rw [kH q q0 q1] at q2
   split at q2
   ·rename_i z;exact z
   ·exfalso
    have w:Own (aa s g) d:=⟨d0,.inr ⟨kx,by omega,nB.2 ⟨q,q0,q1,q2⟩⟩⟩
    have hO:=Inv.own h.v (g:Int) (by omega) (by omega) d (by rw [fE];exact w);have:=hO.2.2.2;rw [T.nl] at this;cases this
 ·rw [if_neg ok];have e1:(bn s g).1=s:=by
   unfold bn at ok ⊢
   split
   ·grind
   ·grind
  rw [e1,rS hg];obtain ⟨y,hy⟩:∃ y,({ ({ aa s g with res:={ (aa s g).res with code:=6 } }:Gr) with k:=(({ aa s g with res:={ (aa s g).res with code:=6 } }:Gr).aB.length:Int),place:=30 }:Gr)=y:=⟨_,rfl⟩
  rw [hy];have hk:jv (aa s g) y:=by rw [← hy];exact ⟨rfl,rfl,rfl,rfl,rfl,rfl,rfl,rfl,rfl⟩
  have ys:y.aq=(aa s g).aq∧y.au=(aa s g).au∧y.res.code=6∧y.place=30∧y.k=(aa s g).aB.length:=by grind
  clear hy;have eY:SE y:=hk.se.2 kx;have o9:gw s.av.length s.aA.length y:=by
   have ho:=hk.aO;have hc:=hk.ch;have o1:=b.o1;have pl:=ys.2.2.2.1
   constructor
   ·rw [hk.order,hk.aB,ho];simp only [hc];exact o1
   ·rw [hk.order];exact b.o2
   ·rw [hk.order];exact b.o3
   ·rw [hk.aB];exact b.l1
   ·rw [hk.aB];exact b.l2
   ·rw [hk.aB];exact l3
   ·omega
   ·intro c;omega
   ·intro c;omega
   ·rw [hk.aB];intro c;omega
   ·intro c;omega
   ·intro c;omega
   ·grind
   ·rw [ys.1,hk.order];exact s4
   ·intro c;omega
   ·intro c;omega
   ·intro c;omega
   ·intro c;omega
   ·intro c;omega
   ·intro c;omega
  refine h.self hg ⟨L.mw kx (by omega) hk.ops hk.at_ (by rw [hk.status];exact st) (by rw [hk.token];exact tk) (by rw [hk.param];exact pm) (by omega) (by rw [ys.2.1,eI];simp) (by rw [ys.2.1,eI];simp) (by rw [ys.2.1,eI];simp) (by omega) h.ju o9,?_,uF kx eY (by omega) (by omega) ys.1,fun i d _ m=>hk.mt kx ys.1 m,fun i j w=>absurd w (nq i j),by unfold dy;omega,fun q=>by rw [ys.2.1];exact id,fun w=>absurd w.1 nw,fun w=>absurd w.1 nw⟩ hk.at_ (fun w=>by unfold cR at w;omega);intro ch;rw [mD eY (by unfold jX;rw [hk.aB];omega),mD kx (by unfold jX;omega),hk.aB]
end Sx
namespace Sx
variable {s t:ah} {g:Nat} {nc ns n:Int} {x y:Gr}
theorem MInv.wB (h:MInv s) (hg:g < s.gs.length) (k:(ag s g).kind=9) (px:28≤(aa s g).place∧(aa s g).place≤34∨(aa s g).place=13∨(aa s g).place=14) {i:Int} (i0:0≤i) (i1:i < (aa s g).aq.length) (v0:0≤ax (aa s g).aq i) :
  Own (aa s g) (ax (aa s g).aq i)∧ax (aa s g).aq i < s.aA.length∧(su s (ax (aa s g).aq i)).g=g∧(su s (ax (aa s g).aq i)).cs=i∧(su s (ax (aa s g).aq i)).ch=cr (aa s g) i∧(su s (ax (aa s g).aq i)).send=(aH (ag s g) i).send∧Match (aa s g) (ax (aa s g).aq i) (su s (ax (aa s g).aq i)):=by
 have kx:SE (aa s g):=k;have w:Own (aa s g) (ax (aa s g).aq i):=⟨v0,.inr ⟨kx,px,nB.2 ⟨i,i0,i1,rfl⟩⟩⟩
 have hO:=Inv.own h.v (g:Int) (by omega) (by omega) _ (by rw [fE];exact w);rw [fE] at hO;rcases hO.2.1 with m | m
 ·exact absurd kx m.1.ne
 ·have m':=m;obtain ⟨_,m1,m2,m3,m4,m5,m6,m7⟩:=m;have e:=m7 i i0 i1 rfl;rw [← e] at m4 m5;exact ⟨w,hO.1,hO.2.2.1,e.symm,m4,m5,.inr m'⟩
theorem MInv.iT (h:MInv s) (hg:g < s.gs.length) (st:(aa s g).status=0) (k:(ag s g).kind=9) (e:(aa s g).place=29):MInv (iT s g (ag s g)):=by
 have L:=h.loc hg;have kx:SE (aa s g):=k;have b:=h.iF hg k (by unfold c9;omega);have eI:=h.qf hg (by omega);have nw:¬ Wt (aa s g):=oa (by omega);obtain ⟨pm,tk⟩:=L.uy nw;have eP:=b.hand (by omega);have k2:=b.k2 (by omega);have k0:=b.k0;have s2:=b.s2 (by omega);have s4:=b.s4;have s6:=b.s6 (by omega);have cc:=b.c1 (by omega);have l3:=b.l3;have eA:=fE s g;have sP:=sS k0 k2;unfold Sx.iT;simp only;have nJ:(aH (ag s g) (ax (aa s g).order (aa s g).k)).ch=cr (aa s g) (ax (aa s g).order (aa s g).k):=rfl;rw [nJ];generalize hi:ax (aa s g).order (aa s g).k=i at *;have jQ:i < ((aa s g).aq.length:Int):=by omega
 have v0:=s6 i eP.1;obtain ⟨w,w1,w2,w3,w4,w5,w6⟩:=h.wB hg k (by omega) eP.2.1 jQ v0;generalize hv:ax (aa s g).aq i=v at *;have fin:∀ (c':Cn) (y:Gr),jv (aa s g) y→y.aq=(aa s g).aq→y.au=(aa s g).au→y.res.code=(aa s g).res.code→(y.place=29∧y.k=(aa s g).k + 1∧(aa s g).k + 1 < (aa s g).order.length∨y.place=30∧y.k=(aa s g).aB.length∧(aa s g).k + 1=(aa s g).order.length) →
   c'.lock=(cn s (cr (aa s g) i)).lock→c'.cap=(cn s (cr (aa s g) i)).cap→c'.buf=(cn s (cr (aa s g) i)).buf→(c'.recv=if (su s v).send=true then (cn s (cr (aa s g) i)).recv else (cn s (cr (aa s g) i)).recv ++ [v])→(c'.send=if (su s v).send=true then (cn s (cr (aa s g) i)).send ++ [v] else (cn s (cr (aa s g) i)).send) →
   MInv (ai (aE s (cr (aa s g) i) c') g y):=by
  intro c' y hk kT rT Rx hp e1 e2 e3 er es;have eY:SE y:=hk.se.2 kx;have o9:gw s.av.length s.aA.length y:=by
   have ho:=hk.aO;have hc:=hk.ch;have o1:=b.o1
   constructor
   ·rw [hk.order,hk.aB,ho];simp only [hc];exact o1
   ·rw [hk.order];exact b.o2
   ·rw [hk.order];exact b.o3
   ·rw [hk.aB];exact b.l1
   ·rw [hk.aB];exact b.l2
   ·rw [hk.aB];exact l3
   ·omega
   ·intro c;omega
   ·rw [hk.order];intro c;omega
   ·rw [hk.aB];intro c;omega
   ·intro c;omega
   ·grind
   ·grind
   ·rw [kT,hk.order];exact s4
   ·intro c;omega
   ·rw [kT,hk.order];intro _;exact s6
   ·intro c;omega
   ·omega
   ·intro c;omega
   ·intro c;omega
  have hold:∀ ch,bS y ch↔bS (aa s g) ch:=by
   intro ch;rw [mD eY (by unfold jX;rw [hk.aB];omega),mD kx (by unfold jX;omega),hk.aB]
  have r:Rest s (ai (aE s (cr (aa s g) i) c') g y):=(Rest.dS s _ c').trans (Rest.dR _ hg hk.at_);refine h.rest r (V.of r (Inv.push h.v (g:=g) (i:=v) (x:=y) (c:=cr (aa s g) i) (c':=c') (by omega) (by omega) (by rw [eA];exact w) eP.2.2.2.2.1 eP.2.2.2.2.2 w4 (L.mw kx (by omega) hk.ops hk.at_ (by rw [hk.status];exact st) (by rw [hk.token];exact tk) (by rw [hk.param];exact pm) (by omega) (by rw [rT,eI];simp) (by rw [rT,eI];simp) (by rw [rT,eI];simp) (by omega) h.ju o9) ?_ ?_ ?_ ?_ ?_ ?_ ?_ ?_ ?_ ?_ e1 e2 e3 er es) (fun j j0=>rJ hg rfl j j0) (fun ch q=>nr eP.2.2.2.2.1 eP.2.2.2.2.2 rfl ch q) (fun _ _=>rfl))
  ·grind
  ·intro j;rw [eA];exact uF kx eY (by omega) (by omega) kT j
  ·intro j q;have q2:=(uF kx eY (by omega) (by omega) kT j).1 q;have hO:=Inv.own h.v (g:Int) (by omega) (by omega) j (by rw [eA];exact q2);rw [eA] at hO;exact hk.mt kx kT hO.2.1
  ·rw [eA,w3]
   rintro (q | q)
   ·exact q.1.ne kx
   ·have q5:=q.2.2.2.2;have:i∈(aa s g).order.take (aa s g).k.toNat:=by grind
    have nd:=b.o2;rw [← List.take_append_drop (aa s g).k.toNat (aa s g).order,uz k0 k2,hi] at nd;exact (List.nodup_append.1 nd).2.2 i this i (by simp) rfl
  ·rw [eA];intro j l q;rcases q with q | q
   ·omega
   ·obtain ⟨q1,q2,q3,q4,q5⟩:=q;refine .inr ⟨eY,q2,by rw [kT];exact q3,by rw [kT];exact q4,?_⟩;have q6:l∈(aa s g).order.take (aa s g).k.toNat:=by grind
    rcases hp with hp | hp
    ·refine .inl ⟨hp.1,?_⟩;rw [hk.order,hp.2.1,sP];exact List.mem_append_left _ q6
    ·omega
  ·rw [w3];refine .inr ⟨eY,eP.2.1,by rw [kT];exact jQ,by rw [kT];exact hv,?_⟩;rcases hp with hp | hp
   ·refine .inl ⟨hp.1,?_⟩;rw [hk.order,hp.2.1,sP];simp
   ·omega
  ·unfold cR;omega
  ·unfold dy;omega
  ·rw [eA];exact rT
  ·rw [eA];exact nw
 obtain ⟨c',JH⟩:∃ c',(if (aH (ag s g) i).send=true then { cn s (cr (aa s g) i) with send:=(cn s (cr (aa s g) i)).send ++ [v] } else { cn s (cr (aa s g) i) with recv:=(cn s (cr (aa s g) i)).recv ++ [v] })=c':=⟨_,rfl⟩
 rw [JH];have c1:c'.lock=(cn s (cr (aa s g) i)).lock:=by grind
 have c2:c'.cap=(cn s (cr (aa s g) i)).cap:=by grind
 have c3:c'.buf=(cn s (cr (aa s g) i)).buf:=by grind
 have c4:c'.recv=if (su s v).send=true then (cn s (cr (aa s g) i)).recv else (cn s (cr (aa s g) i)).recv ++ [v]:=by grind
 have c5:c'.send=if (su s v).send=true then (cn s (cr (aa s g) i)).send ++ [v] else (cn s (cr (aa s g) i)).send:=by grind
 clear JH;have iE:g < (aE s (cr (aa s g) i) c').gs.length:=hg
 by_cases c:(aa s g).k + 1 < (aa s g).order.length
 ·rw [if_pos c,uD iE];have g0:aa (aE s (cr (aa s g) i) c') g=aa s g:=rfl;rw [g0,az];exact fin c' _ ⟨rfl,rfl,rfl,rfl,rfl,rfl,rfl,rfl,rfl⟩ rfl rfl rfl (.inl ⟨e,rfl,c⟩) c1 c2 c3 c4 c5
 ·rw [if_neg c,rS iE];exact fin c' _ ⟨rfl,rfl,rfl,rfl,rfl,rfl,rfl,rfl,rfl⟩ rfl rfl rfl (.inr ⟨rfl,rfl,by omega⟩) c1 c2 c3 c4 c5
end Sx
namespace Sx
variable {s t:ah} {g:Nat} {nc ns n:Int} {x y:Gr}
theorem MInv.Ry (h:MInv s) (hg:g < s.gs.length) (st:(aa s g).status=0) (k:(ag s g).kind=9) (e:(aa s g).place=14):MInv (kj s g):=by
 have L:=h.loc hg;have kx:SE (aa s g):=k;have b:=h.iF hg k (by unfold c9;omega);have eI:=h.qf hg (by omega);have pm:=L.p1 e st;have pk:=L.p3 pm kx;have s2:=b.s2 (by omega);have s4:=b.s4;have s6:=b.s6 (by omega);have l3:=b.l3;have tk:(aa s g).token=false:=by
  cases c:(aa s g).token
  ·rfl
  ·exact absurd e (L.tk c).2.2
 unfold kj;simp only;obtain ⟨r,hr⟩:∃ r,(if (su s (aa s g).param).send=true∧(su s (aa s g).param).done=true then ({ (if (su s (aa s g).param).done=true then ({ eB (su s (aa s g).param).v true with cs:=(su s (aa s g).param).cs }:Md.aj) else { eB 0 false with cs:=(su s (aa s g).param).cs }) with v:=0 }:Md.aj) else if (su s (aa s g).param).send=true then ⟨3,(su s (aa s g).param).cs,0,false,0⟩ else (if (su s (aa s g).param).done=true then ({ eB (su s (aa s g).param).v true with cs:=(su s (aa s g).param).cs }:Md.aj) else { eB 0 false with cs:=(su s (aa s g).param).cs }))=r:=⟨_,rfl⟩
 rw [hr];clear hr;obtain ⟨y,hy⟩:∃ y,({ aa s g with res:=r,param:=-1,k:=0,place:=31 }:Gr)=y:=⟨_,rfl⟩
 rw [hy];have y1:y.ops=(aa s g).ops∧y.at_=(aa s g).at_∧y.status=(aa s g).status∧y.token=(aa s g).token∧y.bG=(aa s g).bG∧y.param=-1∧y.order=(aa s g).order∧y.aB=(aa s g).aB∧y.aq=(aa s g).aq∧y.au=(aa s g).au∧y.k=0∧y.place=31:=by grind
 clear hy;obtain ⟨z1,z2,z3,z4,z5,z6,z7,z8,z9,Br,X0,Rz⟩:=y1;have ho:aO y=aO (aa s g):=by unfold aO;rw [z1,z2]
 have hc:∀ j,cr y j=cr (aa s g) j:=fun j=>by unfold cr;rw [ho]
 have eY:SE y:=by unfold SE;rw [ho];exact kx
 have o1:=b.o1;have o9:gw s.av.length s.aA.length y:=by
  constructor
  ·grind
  ·rw [z7];exact b.o2
  ·rw [z7];exact b.o3
  ·rw [z8];exact b.l1
  ·rw [z8];exact b.l2
  ·rw [z8];exact l3
  ·omega
  ·grind
  ·intro c;omega
  ·intro c;omega
  ·intro c;omega
  ·grind
  ·intro c;omega
  ·rw [z9,z7];exact s4
  ·intro c;omega
  ·grind
  ·intro c;omega
  ·intro c;omega
  ·grind
  ·intro c;omega
 have Bs:∀ ch,¬ bS (aa s g) ch:=by
  intro ch w;rw [rQ kx] at w;omega
 have Bt:∀ ch,¬ bS y ch:=by
  intro ch w;rw [rQ eY] at w;rcases w with w | w
  ·omega
  ·simp_all
 refine h.self hg ⟨L.mw kx (by omega) z1 z2 (by rw [z3];exact st) (by rw [z4];exact tk) z6 (by omega) (by rw [Br,eI];simp) (by rw [Br,eI];simp) (by rw [Br,eI];simp) (by omega) h.ju o9,fun ch=>⟨fun w=>absurd w (Bt ch),fun w=>absurd w (Bs ch)⟩,uF kx eY (by omega) (by omega) z9,?_,?_,by unfold dy;omega,fun q=>by rw [Br];exact id,fun w=>absurd st (w.2.2.2 e),fun w=>by have:=w.2.1;omega⟩ z2 (fun w=>by unfold cR at w;omega)
 ·intro i d _ m;rcases m with m | m
  ·exact absurd kx m.1.ne
  ·exact .inr ⟨eY,by rw [z9,ho,z7,hc];exact m.2⟩
 ·intro i j q;rcases q with q | q
  ·omega
  ·exact .inr ⟨eY,q.2.1,by rw [z9];exact q.2.2.1,by rw [z9];exact q.2.2.2.1,.inr (.inr (.inr (.inl Rz)))⟩
theorem Bu {s:ah} {g:Nat} (hg:g < s.gs.length):(ck s g).1=ai (aE s (ax (aa s g).aB ((aa s g).k - 1)) { cn s (ax (aa s g).aB ((aa s g).k - 1)) with lock:=-1 }) g { aa s g with k:=(aa s g).k - 1 }:=rfl
structure ER (nc ns n:Int) (x y:Gr):Prop where
 kp:jv x y
 aq:y.aq=x.aq
 au:y.au=x.au
 code:y.res.code=x.res.code
 k:y.k=x.k - 1
 hp:(x.place=30∨x.place=33)∧y.place=x.place∧1≤y.k∨x.place=30∧x.res.code=0∧y.place=13∧y.k=0∨(x.place=33∨x.place=30∧x.res.code≠0∧x.aq≠[])∧y.place=34∧y.k=0 ∨
  x.place=30∧x.res.code≠0∧(∀ i∈x.aq,i < 0)∧y.k=0∧(y.place=17∧x.au≠[]∨y.place=18∧x.au=[])
theorem ER.mw (f:ER nc ns n x y) (b:gw nc ns x) (e:c9 y.place):gw nc ns y:=by
 have h:=f.kp;have hp:=f.hp;have fk:=f.k;have ho:=h.aO;have hc:=h.ch;have o1:=b.o1;have l3:=b.l3;have o3:=b.o3;have k0:=b.k0;have k3:1≤x.k∧x.k≤x.aB.length:=b.k3 (by omega);have qR:y.place=x.place∧1≤y.k∧(x.place=30∨x.place=33)∨y.place=13∧x.place=30∧x.res.code=0∨y.place=34∧y.k=0:=by unfold c9 at e;omega
 constructor
 ·rw [h.order,h.aB,ho];simp only [hc];exact o1
 ·rw [h.order];exact b.o2
 ·rw [h.order];exact o3
 ·rw [h.aB];exact b.l1
 ·rw [h.aB];exact b.l2
 ·rw [h.aB];exact l3
 ·omega
 ·intro c;omega
 ·rw [h.order];intro c;omega
 ·rw [h.aB];intro c;omega
 ·intro c;omega
 ·rw [f.aq,ho];intro c;rcases hp with w | w | w | w
  ·exact b.s2 (by omega)
  ·rcases b.s3 w.1 with z | z
   ·exact z
   ·omega
  ·rcases w.1 with q | q
   ·exact b.s2 (by omega)
   ·rcases b.s3 q.1 with z | z
    ·exact z
    ·grind
  ·omega
 ·rw [f.aq,ho,f.code];intro c;exact b.s3 (by omega)
 ·rw [f.aq,h.order];exact b.s4
 ·intro c;omega
 ·rw [f.aq,h.order,f.code];intro c;exact b.s6 (by omega)
 ·intro c j hj;rw [show y.k=0 by omega] at hj;simp at hj
 ·rw [f.code];intro c;rcases hp with w | w | w | w
  ·omega
  ·exact w.2.1
  ·omega
  ·omega
 ·rw [h.bG];intro c;exact b.c2 (by omega)
 ·intro c;omega
end Sx
namespace Sx
variable {s t:ah} {g:Nat} {nc ns n:Int} {x y:Gr}
theorem Loc.fin (L:Loc nc ns n x) (hs:SE x) (xp:x.place≠0) (h1:y.ops=x.ops) (h2:y.at_=x.at_) (st:y.status=0) (tk:y.token=false) (pm:y.param=-1) (hp:y.place=17∧y.au≠[]∨y.place=18∧y.au=[]) (w3:∀ p∈y.au,0≤p∧p < n) (w4:y.au.Nodup) (sR:0≤ns):Loc nc ns n y:=by
 have ho:aO y=aO x:=by unfold aO;rw [h1,h2]
 have ig:=L.ig;have pl:=L.pl.resolve_left xp;have hk:(aO x).kind=9:=hs;have yp:y.place=17∨y.place=18:=by omega
 constructor
 ·rw [h1];exact L.nU
 ·rw [h1];exact ig
 ·rw [h2];exact L.a0
 ·grind
 ·rw [h1,h2,ho];exact .inr ⟨pl.1,by unfold bU;omega⟩
 ·grind
 ·exact .inl st
 ·intro c;omega
 ·intro c;omega
 ·intro c;omega
 ·rw [tk];simp
 ·grind
 ·grind
 ·exact w3
 ·exact w4
 ·intro c;omega
 ·intro _ c d;omega
 ·rw [pm];omega
 ·intro c;omega
 ·omega
 ·omega
 ·intro _ c;unfold c9 at c;omega
theorem Loc.waits (L:Loc nc ns n x) (hs:SE x) (e:x.place=30) (ec:x.res.code=0) (h:jv x y) (eg:y.aq=x.aq) (ew:y.au=x.au) (X3:y.res.code=x.res.code) (yp:y.place=30∨y.place=13) (st:x.status=0) (ys:gw nc ns y):Loc nc ns n y:=by
 have ho:=h.aO;have ig:=L.ig;have pl:=L.pl.resolve_left (by omega);have hk:(aO x).kind=9:=hs;have hy:SE y:=h.se.2 hs;have wy:Wt y:=.inr ⟨hy,by omega⟩;have eI:x.au=[]:=by
  by_cases w:x.au=[]
  ·exact w
  ·have:=L.w1 w;omega
 constructor
 ·rw [h.ops];exact L.nU
 ·rw [h.ops];exact ig
 ·rw [h.at_];exact L.a0
 ·rw [h.ops,h.at_];exact L.a1
 ·rw [h.ops,h.at_,ho];exact .inr ⟨pl.1,by unfold bU;omega⟩
 ·grind
 ·rw [h.status];exact .inl st
 ·rw [h.status];intro c;omega
 ·intro c;omega
 ·rw [h.status];intro c;omega
 ·rw [h.token,h.param];intro c;exact ⟨wy,(L.tk c).2.1,by omega⟩
 ·rw [ew,eI];simp
 ·intro c;omega
 ·rw [ew,eI];simp
 ·rw [ew,eI];simp
 ·intro c;omega
 ·intro c;exact absurd hy c.ne
 ·rw [h.param];exact L.p0
 ·intro c;omega
 ·rw [h.param];intro c;exact ⟨wy,(uF hs hy (by omega) (by omega) eg _).2 (L.p2 c).2⟩
 ·rw [h.param,h.bG];intro c _;exact L.p3 c hs
 ·intro _ _;exact ys
theorem MInv.uH (h:MInv s) (hg:g < s.gs.length) (st:(aa s g).status=0) (k:(ag s g).kind=9) (e:(aa s g).place=30∨(aa s g).place=33) {y:Gr} (f:ER s.av.length s.aA.length s.gs.length (aa s g) y):MInv (ai (aE s (ax (aa s g).aB ((aa s g).k - 1)) { cn s (ax (aa s g).aB ((aa s g).k - 1)) with lock:=-1 }) g y):=by
 have L:=h.loc hg;have kx:SE (aa s g):=k;have eY:SE y:=f.kp.se.2 kx;have b:=h.iF hg k (by unfold c9;omega);have k3:=b.k3 e;have hm:=oI (l:=(aa s g).aB) (k:=(aa s g).k - 1) (by omega) (by omega);have rP:=b.l1 _ hm;have hp:=f.hp;have fk:=f.k;have hk:=f.kp;have ey:c9 y.place∨y.place=17∨y.place=18:=by unfold c9;omega
 have ES:=sS (l:=(aa s g).aB) (k:=(aa s g).k - 1) (by omega) (by omega);have RB:(aa s g).k - 1 + 1=(aa s g).k:=by omega
 rw [RB] at ES;have Jn:ax (aa s g).aB ((aa s g).k - 1)∉(aa s g).aB.take ((aa s g).k - 1).toNat:=by
  intro w;have l2:=b.l2;rw [← List.take_append_drop (aa s g).k.toNat (aa s g).aB,ES] at l2;have:=(List.pairwise_append.1 (List.pairwise_append.1 l2).1).2.2 _ w _ (List.mem_singleton.2 rfl);omega
 have RE:∀ ch,bS (aa s g) ch↔ch∈(aa s g).aB.take (aa s g).k.toNat:=by
  intro ch;rw [rQ kx]
  constructor
  ·grind
  ·grind
 have X4:∀ ch,bS y ch↔ch∈(aa s g).aB.take ((aa s g).k - 1).toNat:=by
  intro ch;rw [rQ eY,hk.aB,fk]
  constructor
  ·grind
  ·intro w;refine .inr ⟨?_,w⟩
   by_cases z:(aa s g).k - 1=0
   ·simp_all
   ·omega
 have X5:(aa s g).place=33→(aa s g).au=[]:=fun c=>h.qf hg (by omega)
 have mz:(aa s g).place=33∨(aa s g).res.code≠0→¬ Wt (aa s g):=fun c=>oa (by omega)
 have lx:Loc s.av.length s.aA.length s.gs.length y:=by
  by_cases cw:(aa s g).place=30∧(aa s g).res.code=0
  ·exact L.waits kx cw.1 cw.2 hk f.aq f.au f.code (by omega) st (f.mw b (by unfold c9;omega))
  ·have nw:=mz (by omega);obtain ⟨pm,tk⟩:=L.uy nw;rcases ey with c | c
   ·have RF:=f.mw b c;refine L.mw kx (by omega) hk.ops hk.at_ (by rw [hk.status];exact st) (by rw [hk.token];exact tk) (by rw [hk.param];exact pm) (by unfold c9 at c;omega) ?_ (by rw [f.au];exact L.w3) (by rw [f.au];exact L.w4) (by omega) h.ju RF;rw [f.au,f.code];intro w;have:=L.w1 w;have z:y.place=(aa s g).place∨y.place=13∧(aa s g).place=30∧(aa s g).res.code=0∨y.place=34:=by
     rcases hp with q | q | q | q
     ·exact .inl q.2.1
     ·omega
     ·omega
     ·exfalso;unfold c9 at c;omega
    omega
   ·refine L.fin kx (by omega) hk.ops hk.at_ (by rw [hk.status];exact st) (by rw [hk.token];exact tk) (by rw [hk.param];exact pm) ?_ (by rw [f.au];exact L.w3) (by rw [f.au];exact L.w4) h.ju;rw [f.au];rcases hp with w | w | w | w
    ·omega
    ·omega
    ·omega
    ·exact w.2.2.2.2
 have ow:∀ i,Own y i↔Own (aa s g) i:=by
  intro i;rcases ey with c | c
  ·exact uF kx eY (by omega) (by unfold c9 at c;omega) f.aq i
  ·constructor
   ·rintro ⟨_,w | w⟩
    ·omega
    ·have:=w.2.1;omega
   ·rintro ⟨i0,w | w⟩
    ·omega
    ·grind
 refine h.chan hg rP.1 rP.2 lx ⟨.inr (.inr ⟨(RE _).2 (by rw [ES];simp),rfl,fun ch=>?_⟩),h.gP rP.1 rP.2,⟨List.Sublist.refl _,List.Sublist.refl _⟩,.inl ⟨rfl,rfl⟩⟩ ow (fun i d _ m=>hk.mt kx f.aq m) ?_ ?_ ?_ (fun q=>by rw [f.au];exact id) ?_ ?_ hk.at_
 ·grind
 ·intro i j q ch _ _ _;rcases q with q | q
  ·omega
  ·obtain ⟨q1,q2,q3,q4,q5⟩:=q;refine .inr ⟨eY,q2,by rw [f.aq];exact q3,by rw [f.aq];exact q4,?_⟩;have c:(aa s g).place=30∧(aa s g).res.code=0:=by omega
   rcases hp with w | w | w | w
   ·exact .inr (.inr (.inr (.inr (.inl ⟨by omega,by rw [f.code];exact c.2⟩))))
   ·omega
   ·omega
   ·omega
 ·unfold cR;unfold c9 at ey;omega
 ·unfold dy;unfold c9 at ey;omega
 ·rintro ⟨w1,w2,w3,w4⟩
  have c:(aa s g).place=30∧(aa s g).res.code=0:=by grind
  refine ⟨.inr ⟨eY,?_⟩,by rw [hk.param];exact w2,by rw [hk.token];exact w3,by intro z;omega⟩;have:y.place=30∨y.place=13:=by omega
  rcases this with z | z
  ·exact .inr (.inr ⟨z,by rw [f.code];exact c.2⟩)
  ·exact .inl z
 ·rintro ⟨w1,w2,w3⟩
  have c:(aa s g).place=30∧(aa s g).res.code=0:=by grind
  refine ⟨⟨.inr ⟨eY,?_⟩,by rw [hk.param];exact w2,fun _=>by rw [hk.bG];exact w3 kx⟩,fun z=>absurd eY z.ne⟩;have:y.place=30∨y.place=13:=by omega
  rcases this with z | z
  ·exact .inr (.inr ⟨z,by rw [f.code];exact c.2⟩)
  ·exact .inl z
theorem JI {s:ah} {g:Nat} (hg:g < s.gs.length):aa (ck s g).1 g={ aa s g with k:=(aa s g).k - 1 }:=by
 rw [Bu hg,gy (by exact hg),if_pos rfl]
theorem y7 {s:ah} {g:Nat} {p:Int} (hg:g < s.gs.length):aS (ck s g).1 g p=ai (aE s (ax (aa s g).aB ((aa s g).k - 1)) { cn s (ax (aa s g).aB ((aa s g).k - 1)) with lock:=-1 }) g { aa s g with k:=(aa s g).k - 1,place:=p }:=by
 rw [Bu hg,nY _ _ _ _ (by exact hg)]
theorem JJ {l:List Int} (h:¬ jT l=true):∀ i∈l,i < 0:=by
 intro i hi;unfold jT at h
 by_cases c:0≤i
 ·grind
 ·omega
theorem RG {l:List Int} (h:jT l=true):l≠[]:=by
 intro c;rw [c] at h;simp [jT] at h
theorem MInv.Bv (h:MInv s) (hg:g < s.gs.length) (st:(aa s g).status=0) (k:(ag s g).kind=9) (e:(aa s g).place=30) :
  MInv (if (ck s g).2=true then (ck s g).1 else if (aa s g).res.code=0 then aS (ck s g).1 g 13 else if jT (aa s g).aq=true then aS (ck s g).1 g 34 else au (ck s g).1 g):=by
 have b:=h.iF hg k (by unfold c9;omega);have k3:=b.k3 (by omega);have e2:(ck s g).2=decide (0 < (aa s g).k - 1):=rfl;have kp:∀ (kk p:Int),jv (aa s g) { aa s g with k:=kk,place:=p }:=fun _ _=>⟨rfl,rfl,rfl,rfl,rfl,rfl,rfl,rfl,rfl⟩
 rw [e2]
 split
 ·rename_i c;have c:0 < (aa s g).k - 1:=by simpa using c
  rw [Bu hg];exact h.uH hg st k (by omega) (y:={ aa s g with k:=(aa s g).k - 1 }) ⟨kp _ (aa s g).place,rfl,rfl,rfl,rfl,.inl ⟨.inl e,rfl,by simp only;omega⟩⟩
 rename_i c;have c:¬ 0 < (aa s g).k - 1:=by simpa using c
 split
 ·rename_i c2;rw [y7 hg];exact h.uH hg st k (by omega) ⟨kp _ _,rfl,rfl,rfl,rfl,.inr (.inl ⟨e,c2,rfl,by simp only;omega⟩)⟩
 rename_i c2
 split
 ·rename_i c3;rw [y7 hg];exact h.uH hg st k (by omega) ⟨kp _ _,rfl,rfl,rfl,rfl,.inr (.inr (.inl ⟨.inr ⟨e,c2,RG c3⟩,rfl,by simp only;omega⟩))⟩
 rename_i c3;unfold au;rw [JI hg]
 split
 ·rename_i c4;rw [y7 hg];exact h.uH hg st k (by omega) ⟨kp _ _,rfl,rfl,rfl,rfl,.inr (.inr (.inr ⟨e,c2,JJ c3,by simp only;omega,.inl ⟨rfl,List.length_pos_iff.1 c4⟩⟩))⟩
 ·rename_i c4;rw [y7 hg];exact h.uH hg st k (by omega) ⟨kp _ _,rfl,rfl,rfl,rfl,.inr (.inr (.inr ⟨e,c2,JJ c3,by simp only;omega,.inr ⟨rfl,List.length_eq_zero_iff.1 (by simp only at c4;omega)⟩⟩))⟩
theorem MInv.RH (h:MInv s) (hg:g < s.gs.length) (st:(aa s g).status=0) (k:(ag s g).kind=9) (e:(aa s g).place=33):MInv (if (ck s g).2=true then (ck s g).1 else aS (ck s g).1 g 34):=by
 have b:=h.iF hg k (by unfold c9;omega);have k3:=b.k3 (by omega);have e2:(ck s g).2=decide (0 < (aa s g).k - 1):=rfl;have kp:∀ (kk p:Int),jv (aa s g) { aa s g with k:=kk,place:=p }:=fun _ _=>⟨rfl,rfl,rfl,rfl,rfl,rfl,rfl,rfl,rfl⟩
 rw [e2]
 split
 ·rename_i c;have c:0 < (aa s g).k - 1:=by simpa using c
  rw [Bu hg];exact h.uH hg st k (by omega) (y:={ aa s g with k:=(aa s g).k - 1 }) ⟨kp _ (aa s g).place,rfl,rfl,rfl,rfl,.inl ⟨.inr e,rfl,by simp only;omega⟩⟩
 ·rename_i c;have c:¬ 0 < (aa s g).k - 1:=by simpa using c
  rw [y7 hg];exact h.uH hg st k (by omega) ⟨kp _ _,rfl,rfl,rfl,rfl,.inr (.inr (.inl ⟨.inl e,rfl,by simp only;omega⟩))⟩
end Sx
namespace Sx
variable {s t:ah} {g:Nat} {nc ns n:Int} {x y:Gr}
theorem MInv.iU (h:MInv s) (hg:g < s.gs.length) (st:(aa s g).status=0) (k:(ag s g).kind=9) (e:(aa s g).place=32):MInv (iU s g):=by
 have L:=h.loc hg;have kx:SE (aa s g):=k;have b:=h.iF hg k (by unfold c9;omega);have eI:=h.qf hg (by omega);have nw:¬ Wt (aa s g):=oa (by omega);obtain ⟨pm,tk⟩:=L.uy nw;have eP:=b.hand (by omega);have k2:=b.k2 (by omega);have k0:=b.k0;have s2:=b.s2 (by omega);have s6:=b.s6 (by omega);have l3:=b.l3;have pk:=b.c2 (by omega);have kO:=uz k0 k2;unfold Sx.iU;simp only;generalize hi:ax (aa s g).order (aa s g).k=i at *;have jQ:i < ((aa s g).aq.length:Int):=by omega
 have v0:=s6 i eP.1;obtain ⟨w,w1,w2,w3,w4,w5,w6⟩:=h.wB hg k (by omega) eP.2.1 jQ v0;generalize hv:ax (aa s g).aq i=v at *;rw [drop_eq w4 eP.2.2.2.2.1 eP.2.2.2.2.2];have fin:∀ (y:Gr),jv (aa s g) y→y.aq=(aa s g).aq→y.au=(aa s g).au→y.res.code=(aa s g).res.code→(y.place=32∧y.k=(aa s g).k + 1∧(aa s g).k + 1 < (aa s g).order.length∨y.place=33∧y.k=(aa s g).aB.length∧(aa s g).k + 1=(aa s g).order.length) →
   MInv (ai (aE s (cr (aa s g) i) (cC (cn s (cr (aa s g) i)) v)) g y):=by
  intro y hk kT rT Rx hp;have eY:SE y:=hk.se.2 kx;have ho:=hk.aO;have hc:=hk.ch;have o1:=b.o1;have o9:gw s.av.length s.aA.length y:=by
   constructor
   ·rw [hk.order,hk.aB,ho];simp only [hc];exact o1
   ·rw [hk.order];exact b.o2
   ·rw [hk.order];exact b.o3
   ·rw [hk.aB];exact b.l1
   ·rw [hk.aB];exact b.l2
   ·rw [hk.aB];exact l3
   ·omega
   ·intro c;omega
   ·rw [hk.order];intro c;omega
   ·rw [hk.aB];intro c;omega
   ·intro c;omega
   ·grind
   ·intro c;omega
   ·rw [kT,hk.order];exact b.s4
   ·intro c;omega
   ·rw [kT,hk.order];intro _;exact s6
   ·intro c;omega
   ·intro c;omega
   ·intro _;rw [hk.bG];exact pk
   ·intro c;omega
  have hold:∀ ch,bS y ch↔bS (aa s g) ch:=by
   intro ch;rw [mD eY (by unfold jX;rw [hk.aB];omega),mD kx (by unfold jX;omega),hk.aB]
  refine h.chan hg eP.2.2.2.2.1 eP.2.2.2.2.2 (L.mw kx (by omega) hk.ops hk.at_ (by rw [hk.status];exact st) (by rw [hk.token];exact tk) (by rw [hk.param];exact pm) (by omega) (by rw [rT,eI];simp) (by rw [rT,eI];simp) (by rw [rT,eI];simp) (by omega) h.ju o9) ⟨.inl ⟨rfl,hold⟩,h.gP eP.2.2.2.2.1 eP.2.2.2.2.2,⟨js,js⟩,.inr ((mD kx (by unfold jX;omega) _).2 eP.2.2.2.1)⟩ (uF kx eY (by omega) (by omega) kT) (fun i d _ m=>hk.mt kx kT m) ?_ (by unfold cR;omega) (by unfold dy;omega) (fun q=>by rw [rT];exact id) (fun w=>absurd w.1 nw) (fun w=>absurd w.1 nw) hk.at_;intro j l q ch a c hj;rcases q with q | q
  ·omega
  ·obtain ⟨q1,q2,q3,q4,q5⟩:=q;have q6:l∈(aa s g).order.drop (aa s g).k.toNat:=by grind
   have bV:l≠i:=by
    intro z;subst z;have ej:j=v:=q4.symm.trans hv;subst ej;have hq:j∈(cn s ch).recv∨j∈(cn s ch).send:=by
     unfold up at hj
     split at hj
     ·rename_i z;subst z;exact hj.imp (fun h=>js.subset h) (fun h=>js.subset h)
     ·exact hj
    obtain ⟨o,qq⟩:=h.uw (g:=g) a c hq;have:ch=cr (aa s g) l:=qq.ch.symm.trans w4;subst this;rw [iD] at hj;rcases hj with hj | hj
    ·exact n9 hj
    ·exact n9 hj
   rw [kO] at q6;have q7:=(List.mem_cons.1 q6).resolve_left bV;rcases hp with hp | hp
   ·refine .inr ⟨eY,q2,by rw [kT];exact q3,by rw [kT];exact q4,.inr (.inr (.inr (.inr (.inr ⟨hp.1,?_⟩))))⟩;rw [hk.order,hp.2.1];exact q7
   ·simp_all
 have iE:g < (aE s (cr (aa s g) i) (cC (cn s (cr (aa s g) i)) v)).gs.length:=hg;have g0:aa (aE s (cr (aa s g) i) (cC (cn s (cr (aa s g) i)) v)) g=aa s g:=rfl
 by_cases c:(aa s g).k + 1 < (aa s g).order.length
 ·rw [if_pos c,uD iE,g0,az];exact fin _ ⟨rfl,rfl,rfl,rfl,rfl,rfl,rfl,rfl,rfl⟩ rfl rfl rfl (.inl ⟨e,rfl,c⟩)
 ·rw [if_neg c,Rt iE,g0];exact fin _ ⟨rfl,rfl,rfl,rfl,rfl,rfl,rfl,rfl,rfl⟩ rfl rfl rfl (.inr ⟨rfl,rfl,by omega⟩)
structure RI (x y:Gr) (i:Int):Prop where
 ops:y.ops=x.ops
 at_:y.at_=x.at_
 status:y.status=x.status
 token:y.token=x.token
 bG:y.bG=x.bG
 param:y.param=x.param
 order:y.order=x.order
 aB:y.aB=x.aB
 au:y.au=x.au
 hp:y.place=34∧y.k=x.k + 1∧x.k + 1 < x.order.length∧y.aq=x.aq.set i.toNat (-1)∨x.k + 1=x.order.length∧y.aq=[]∧(y.place=17∧x.au≠[]∨y.place=18∧x.au=[])
theorem MInv.ET (h:MInv s) (hg:g < s.gs.length) (st:(aa s g).status=0) (k:(ag s g).kind=9) (e:(aa s g).place=34) {y:Gr} (f:RI (aa s g) y (ax (aa s g).order (aa s g).k)) :
  MInv (ai (if 0≤ax (aa s g).aq (ax (aa s g).order (aa s g).k) then cz s g (ax (aa s g).aq (ax (aa s g).order (aa s g).k)) else s) g y):=by
 have L:=h.loc hg;have kx:SE (aa s g):=k;have b:=h.iF hg k (by unfold c9;omega);have nw:¬ Wt (aa s g):=oa (by omega);obtain ⟨pm,tk⟩:=L.uy nw;have eP:=b.hand (by omega);have k2:=b.k2 (by omega);have k0:=b.k0;have s2:=b.s2 (by omega);have s4:=b.s4;have s7:=b.s7 e;have l3:=b.l3;have kO:=uz k0 k2;have sP:=sS k0 k2;have nq:=nZ kx (x:=aa s g) (by omega);generalize hi:ax (aa s g).order (aa s g).k=i at *;have jQ:i < ((aa s g).aq.length:Int):=by omega
 have ho:aO y=aO (aa s g):=by unfold aO;rw [f.ops,f.at_]
 have hc:∀ j,cr y j=cr (aa s g) j:=fun j=>by unfold cr;rw [ho]
 have eY:SE y:=by unfold SE;rw [ho];exact kx
 have hp:=f.hp;have kH:∀ j:Int,0≤j→j < (aa s g).aq.length→ax ((aa s g).aq.set i.toNat (-1)) j=if j=i then -1 else ax (aa s g).aq j:=fun j a c=>JF eP.2.1 a c
 have o1:=b.o1;have o3:=b.o3;have lx:Loc s.av.length s.aA.length s.gs.length y:=by
  rcases hp with p | p
  ·have o9:gw s.av.length s.aA.length y:=by
    have kE:y.aq.length=(aa s g).aq.length:=by grind
    constructor
    ·rw [f.order,f.aB,ho];simp only [hc];exact o1
    ·rw [f.order];exact b.o2
    ·rw [f.order];exact o3
    ·rw [f.aB];exact b.l1
    ·rw [f.aB];exact b.l2
    ·rw [f.aB];exact l3
    ·omega
    ·intro c;omega
    ·rw [f.order];intro c;omega
    ·omega
    ·intro c;omega
    ·grind
    ·intro c;omega
    ·intro j a c;rw [kE] at c;rw [p.2.2.2,kH j a c,f.order]
     split
     ·omega
     ·exact s4 j a c
    ·intro c;omega
    ·intro c;omega
    ·intro _ j hj;rw [f.order,p.2.1,sP] at hj;have pe:0≤j∧j < (aO (aa s g)).cases.length:=by grind
     rw [p.2.2.2,kH j pe.1 (by rw [s2];exact pe.2)]
     split
     ·rfl
     ·grind
    ·intro c;omega
    ·intro c;omega
    ·intro c;omega
   exact L.mw kx (by omega) f.ops f.at_ (by rw [f.status];exact st) (by rw [f.token];exact tk) (by rw [f.param];exact pm) (by omega) (fun _=>.inl p.1) (by rw [f.au];exact L.w3) (by rw [f.au];exact L.w4) (by omega) h.ju o9
  ·exact L.fin kx (by omega) f.ops f.at_ (by rw [f.status];exact st) (by rw [f.token];exact tk) (by rw [f.param];exact pm) (by rw [f.au];exact p.2.2) (by rw [f.au];exact L.w3) (by rw [f.au];exact L.w4) h.ju
 have Bs:∀ ch,¬ bS (aa s g) ch:=by
  intro ch w;rw [rQ kx] at w;omega
 have Bt:∀ ch,¬ bS y ch:=by
  intro ch w;rw [rQ eY] at w;omega
 have own:∀ j,Own y j↔Own (aa s g) j∧j≠ax (aa s g).aq i:=by
  intro j;have uniq:∀ c:Int,0≤c→c < (aa s g).aq.length→0≤ax (aa s g).aq c→ax (aa s g).aq c=ax (aa s g).aq i→c=i:=by
   intro c c0 c1 c2 c3;have a1:=h.wB hg k (by omega) c0 c1 c2;have a2:=h.wB hg k (by omega) eP.2.1 jQ (by rw [← c3];exact c2);have:=a1.2.2.2.1;rw [c3] at this;exact this.symm.trans a2.2.2.2.1
  rcases hp with p | p
  ·constructor
   ·rintro ⟨j0,w | w⟩
    ·omega
    ·have w3:=w.2.2;rw [p.2.2.2] at w3;obtain ⟨c,c0,c1,c2⟩:=nB.1 w3;rw [List.length_set] at c1;rw [kH c c0 c1] at c2
     split at c2
     ·omega
     ·rename_i z;refine ⟨⟨j0,.inr ⟨kx,by omega,nB.2 ⟨c,c0,c1,c2⟩⟩⟩,fun q=>z (uniq c c0 c1 (by omega) (c2.trans q))⟩
   ·rintro ⟨⟨j0,w | w⟩,w2⟩
    ·omega
    ·obtain ⟨c,c0,c1,c2⟩:=nB.1 w.2.2;refine ⟨j0,.inr ⟨eY,by omega,?_⟩⟩;rw [p.2.2.2];refine nB.2 ⟨c,c0,by rw [List.length_set];exact c1,?_⟩;rw [kH c c0 c1,if_neg (fun z=>w2 (by rw [← c2,z]))];exact c2
  ·constructor
   ·rintro ⟨j0,w | w⟩
    ·omega
    ·omega
   ·rintro ⟨⟨j0,w | w⟩,w2⟩
    ·omega
    ·exfalso
     obtain ⟨c,c0,c1,c2⟩:=nB.1 w.2.2;have co:=(s4 c c0 c1).2.2 (by omega);rw [← List.take_append_drop (aa s g).k.toNat (aa s g).order,kO] at co;rcases List.mem_append.1 co with q | q
     ·have:=s7 c q;omega
     ·rcases List.mem_cons.1 q with q | q
      ·grind
      ·have:(aa s g).order.drop ((aa s g).k + 1).toNat=[]:=List.drop_eq_nil_of_le (by omega);rw [this] at q;simp at q
 have mt:∀ j d,Own y j→Match (aa s g) j d→Match y j d:=by
  intro j d wo m;have bV:=((own j).1 wo).2;have j0:=wo.1;rcases m with m | m
  ·exact absurd kx m.1.ne
  ·obtain ⟨_,m1,m2,m3,m4,m5,m6,m7⟩:=m;rcases hp with p | p
   ·have kE:y.aq.length=(aa s g).aq.length:=by rw [p.2.2.2,List.length_set]
    refine .inr ⟨eY,m1,by rw [kE];exact m2,?_,by rw [hc];exact m4,by rw [ho];exact m5,by rw [f.order];exact m6,?_⟩
    ·grind
    ·grind
   ·exfalso
    rcases wo.2 with w | w
    ·exact w.1.ne eY
    ·omega
 have JK:¬ cR y:=by unfold cR;omega
 have gH:¬ dy y:=by unfold dy;omega
 by_cases hv:0≤ax (aa s g).aq i
 ·rw [if_pos hv];exact h.I5 hg (h.wB hg k (by omega) eP.2.1 jQ hv).1 lx (fun ch=>⟨fun w=>absurd w (Bt ch),fun w=>absurd w (Bs ch)⟩) own mt nq JK gH f.au nw f.at_
 ·rw [if_neg hv];refine h.self hg ⟨lx,fun ch=>⟨fun w=>absurd w (Bt ch),fun w=>absurd w (Bs ch)⟩,fun j=>?_,mt,fun i j w=>absurd w (nq i j),gH,fun q=>by rw [f.au];exact id,fun w=>absurd w.1 nw,fun w=>absurd w.1 nw⟩ f.at_ (fun w=>absurd w JK);rw [own];exact ⟨fun w=>w.1,fun w=>⟨w,fun z=>by have:=w.1;omega⟩⟩
theorem RJ {s:ah} {g h:Nat} {v:Int}:aa (cz s g v) h=aa s h:=by
 unfold cz aV dO aa
 split <;> rfl
theorem JL {s:ah} {g:Nat} {v:Int}:(cz s g v).gs.length=s.gs.length:=by
 unfold cz aV dO
 split <;> rfl
theorem MInv.iz (h:MInv s) (hg:g < s.gs.length) (st:(aa s g).status=0) (k:(ag s g).kind=9) (e:(aa s g).place=34):MInv (iz s g):=by
 have b:=h.iF hg k (by unfold c9;omega);have k2:=b.k2 (by omega);unfold Sx.iz;simp only;obtain ⟨t,ht⟩:∃ t,(if 0≤ax (aa s g).aq (ax (aa s g).order (aa s g).k) then cz s g (ax (aa s g).aq (ax (aa s g).order (aa s g).k)) else s)=t:=⟨_,rfl⟩
 have hl:t.gs.length=s.gs.length:=by rw [← ht];split;exact JL;rfl
 rw [ht]
 split
 ·rename_i c;rw [oZ (by rw [hl];exact hg),if_pos c];unfold au;rw [gy (by rw [hl];exact hg),if_pos rfl]
  split
  ·rename_i c2;rw [nY _ _ _ _ (by rw [hl];exact hg),← ht];exact h.ET hg st k e ⟨rfl,rfl,rfl,rfl,rfl,rfl,rfl,rfl,rfl,.inr ⟨c,rfl,.inl ⟨rfl,List.length_pos_iff.1 c2⟩⟩⟩
  ·rename_i c2;rw [nY _ _ _ _ (by rw [hl];exact hg),← ht];exact h.ET hg st k e ⟨rfl,rfl,rfl,rfl,rfl,rfl,rfl,rfl,rfl,.inr ⟨c,rfl,.inr ⟨rfl,List.length_eq_zero_iff.1 (by simp only at c2;omega)⟩⟩⟩
 ·rename_i c;rw [oZ (by rw [hl];exact hg),if_neg c,← ht];exact h.ET hg st k e ⟨rfl,rfl,rfl,rfl,rfl,rfl,rfl,rfl,rfl,.inl ⟨e,rfl,by omega,rfl⟩⟩
theorem MInv.aR (h:MInv s) (hg:g < s.gs.length) (st:(aa s g).status=0):MInv (aR s g).1:=by
 unfold Sx.aR;simp only
 by_cases k:(ag s g).kind≠9
 ·grind
 rw [if_neg k];have k9:(ag s g).kind=9:=by omega
 by_cases qh:(aa s g).place=24
 ·rw [if_pos qh];exact h.Jt hg st k9 25 (.inl ⟨qh,rfl⟩)
 rw [if_neg qh]
 by_cases kI:(aa s g).place=25
 ·rw [if_pos kI];exact h.fq hg st k9 kI
 rw [if_neg kI]
 by_cases qj:(aa s g).place=26
 ·rw [if_pos qj];exact h.Rs hg st k9 qj
 rw [if_neg qj]
 by_cases mE:(aa s g).place=27
 ·rw [if_pos mE];exact h.gG hg st k9 mE
 rw [if_neg mE]
 by_cases oe:(aa s g).place=28
 ·rw [if_pos oe];exact h.aA hg st k9 oe
 rw [if_neg oe]
 by_cases pn:(aa s g).place=29
 ·rw [if_pos pn];exact h.iT hg st k9 pn
 rw [if_neg pn]
 by_cases og:(aa s g).place=30
 ·rw [if_pos og];have:=h.Bv hg st k9 og
  split
  ·grind
  rename_i c;rw [if_neg c] at this
  split
  ·grind
  rename_i c;rw [if_neg c] at this
  split
  ·grind
  ·grind
 rw [if_neg og]
 by_cases g9:(aa s g).place=14
 ·rw [if_pos g9];exact h.Ry hg st k9 g9
 rw [if_neg g9]
 by_cases oY:(aa s g).place=31
 ·rw [if_pos oY];exact h.Jt hg st k9 32 (.inr ⟨oY,rfl⟩)
 rw [if_neg oY]
 by_cases qm:(aa s g).place=32
 ·rw [if_pos qm];exact h.iU hg st k9 qm
 rw [if_neg qm]
 by_cases qn:(aa s g).place=33
 ·rw [if_pos qn];have:=h.RH hg st k9 qn
  split
  ·grind
  ·grind
 rw [if_neg qn]
 by_cases oh:(aa s g).place=34
 ·rw [if_pos oh];exact h.iz hg st k9 oh
 rw [if_neg oh]
 by_cases e1:(aa s g).place=13∨(aa s g).place=17
 ·rw [if_pos e1];exact h.common hg st (.inr e1)
 rw [if_neg e1];exact h
theorem MInv.tick (h:MInv s):MInv { s with step:=s.step + 1 } :=
 ⟨h.v,h.n1,h.n8,h.c8,h.sn,h.mA,h.c1,h.sM,h.ca,h.f0,h.po,h.rK,h.sO,h.du,h.d5,h.dn⟩
theorem MInv.one (h:MInv s) (p:Int):MInv (one s p).1:=by
 unfold Sx.one
 split
 ·exact h
 rename_i c;have c0:0≤p∧p < s.gs.length∧(aa s p.toNat).status=0:=by omega
 have hg:p.toNat < ({ s with step:=s.step + 1 }:ah).gs.length:=by grind
 have ht:=h.tick;have st:(aa { s with step:=s.step + 1 } p.toNat).status=0:=c0.2.2;simp only
 split
 ·exact ht.jm hg st
 split
 ·exact ht.cu hg st
 split
 ·exact ht.cj hg st
 split
 ·exact ht.dY hg st
 split
 ·exact ht.aR hg st
 ·exact h
end Sx
namespace Sx
theorem EU {p:List (List Pn.Op)} {a c:Int} {d:List Int} {g:Nat} (hg:g < p.length):aa (start p a c d) g=clean (p.getD g []) 0:=by
 unfold aa start;simp only [List.getD_eq_getElem?_getD,List.getElem?_map,List.getElem?_eq_getElem hg];rfl
theorem MInv.start {p:List (List Pn.Op)} {a c:Int} {d:List Int} (hp:Pn.right p=true) (hc:can a p.length c=true) (hd:∀ x∈d,0≤x∧x < 65536) (hl:d.length≤1000):MInv (start p a c d):=by
 unfold Pn.right at hp;simp only [decide_eq_true_eq] at hp;unfold can at hc;simp only [decide_eq_true_eq] at hc;obtain ⟨p1,p8,pr⟩:=hp;have lg:(Sx.start p a c d).gs.length=p.length:=by simp [Sx.start]
 have lc:(Sx.start p a c d).av.length=0:=rfl;have ls:(Sx.start p a c d).aA.length=a.toNat:=by simp [Sx.start]
 have RK:∀ i,su (Sx.start p a c d) i=fB:=by
  intro i;unfold su Sx.start;simp only [List.getD_eq_getElem?_getD,List.getElem?_replicate]
  split <;> rfl
 have X6:∀ i,gM (Sx.start p a c d) i=false:=by
  intro i;unfold gM;have:(Sx.start p a c d).fresh=0:=rfl;rw [this]
  by_cases z:0≤i
  ·grind
  ·simp [z]
 have RN:((Sx.start p a c d).cache).flatten=[]:=by
  unfold Sx.start;simp only
  induction p with
  | nil=>rfl
  | cons x l ih=>simp
 have wC:∀ g,0≤g→g < (p.length:Int)→gA (Sx.start p a c d) g=clean (p.getD g.toNat []) 0:=fun g a b=>EU (by omega)
 have nO:∀ (l:List Pn.Op) i,¬ Own (clean l 0) i:=fun l i=>dZ.own (by unfold dZ clean;simp) i
 have nH:∀ (l:List Pn.Op) i,¬ bS (clean l 0) i:=fun l i=>dZ.holds (by unfold dZ clean;simp) i
 refine ⟨?_,by omega,by omega,by omega,by rw [ls];show ((a.toNat:Nat):Int)=a;omega,by omega,hc.2.2.2.2.1,hc.2.2.2.2.2,by simp [Sx.start],Int.le_refl _,⟨List.replicate a.toNat false,?_⟩,Int.le_refl _,by show (0:Int)≤_;omega,hd,hl,?_⟩
 ·unfold V;rw [lg,lc,ls]
  constructor
  ·intro g g0 g1;rw [wC g g0 g1];have hm:p.getD g.toNat []∈p:=by grind
   have hr:=pr _ hm;unfold Pn.lY at hr;simp only [decide_eq_true_eq] at hr
   constructor
   ·exact hr.1
   ·exact hr.2
   ·exact Int.le_refl _
   ·unfold clean;simp only;omega
   ·exact .inl rfl
   ·intro z;exact absurd rfl z
   ·exact .inl rfl
   ·intro z;exact absurd z (by unfold clean;simp)
   ·intro z;exact absurd z (by unfold clean;simp)
   ·intro z;exact absurd z (by unfold clean;simp)
   ·intro z;exact absurd z (by unfold clean;simp)
   ·intro z;exact absurd rfl z
   ·intro z;exact absurd z (by unfold clean;simp)
   ·intro q z;exact absurd z (by unfold clean;simp)
   ·unfold clean;exact List.nodup_nil
   ·intro z;exact absurd z (by unfold clean;simp)
   ·intro _ z;exact absurd z (by unfold clean;simp)
   ·unfold clean;simp only;omega
   ·intro z;exact absurd z (by unfold clean;simp)
   ·intro z;exact absurd z (by unfold clean;simp)
   ·intro z;exact absurd z (by unfold clean;simp)
   ·intro _ z;unfold c9 clean at z;simp at z
  ·intro ch z1 z2;omega
  ·omega
  ·intro ch z1 z2;omega
  ·grind
  ·intro ch z1 z2;omega
  ·intro ch z1 z2;omega
  ·intro g g0 g1 w;rw [wC g g0 g1] at w;exact absurd w (by unfold clean;simp)
  ·intro g g0 g1 w;rw [wC g g0 g1] at w;exact absurd w (by unfold clean;simp)
  ·intro g k g0 g1 _ _ w;rw [wC g g0 g1] at w;exact absurd w (by unfold clean;simp)
  ·intro g g0 g1 q w;rw [wC g g0 g1] at w;exact absurd w (by unfold clean;simp)
  ·intro g k q g0 g1 _ _ w;rw [wC g g0 g1] at w;exact absurd w (by unfold clean;simp)
  ·intro i _ _;rw [RK];exact ⟨by simp [fB],by simp only [fB];omega,by simp [fB],by simp [fB]⟩
  ·grind
 ·have e:(Sx.start p a c d).dx.toNat=a.toNat:=rfl;have X7:∀ x,Po.ei ⟨(Sx.start p a c d).cache,(Sx.start p a c d).middle,(Sx.start p a c d).fresh.toNat,List.replicate a.toNat false⟩ x=0:=by
   intro x;unfold Po.ei;simp only;rw [RN];rfl
  constructor
  ·show 1≤c.toNat;omega
  ·show c.toNat≤16;omega
  ·rw [e];omega
  ·simp [Sx.start]
  ·show (0:Int).toNat≤_;simp
  ·grind
  ·grind
  ·grind
  ·intro x z;have:x=[]:=by
    unfold Sx.start at z;simp only [List.mem_map] at z;obtain ⟨_,_,rfl⟩:=z;rfl
   rw [this];simp
 ·unfold nX;rw [lg];have:(List.range p.length).map (fun g=>(aa (Sx.start p a c d) g).at_)=(List.range p.length).map (fun _=>(0:Int)):=by
   refine List.map_congr_left fun g hg=>?_
   rw [EU (by simpa using hg)];rfl
  rw [this]
  show (0:Int)=_
  induction p.length with
  | zero=>rfl
  | succ n ih=>rw [List.range_succ,List.map_append,List.sum_append,← ih];rfl
end Sx
namespace Sx
structure Z (x:Gr):Prop where
 op:∀ o∈x.ops,o.cases.length≤6
 od:x.order.length≤6
 sg:x.aq.length≤6
 lk:x.aB.length≤6
def ZS (s:ah):Prop:=∀ g:Nat,Z (aa s g)
theorem Z.clean (a:Int):Z (clean [] a):=⟨by simp [Sx.clean],by simp [Sx.clean],by simp [Sx.clean],by simp [Sx.clean]⟩
section
variable {s t:ah} {g h:Nat}
theorem ZS.dR (z:ZS s) {x:Gr} (hx:Z x):ZS (ai s g x):=by
 intro k;unfold aa Sx.ai;simp only [List.getD_eq_getElem?_getD,List.getElem?_set]
 split
 ·split
  ·exact hx
  ·exact Z.clean _
 ·have:=z k;unfold aa at this;rw [List.getD_eq_getElem?_getD] at this;exact this
theorem ZS.of (z:ZS s) (e:t.gs=s.gs):ZS t:=by
 intro k;have:=z k;unfold aa at this ⊢;rw [e];exact this
theorem ZS.dS (z:ZS s) {c:Int} {x:Cn}:ZS (aE s c x):=z.of rfl
theorem ZS.gI (z:ZS s) {c:Int} {x:Su}:ZS (aV s c x):=z.of rfl
theorem Z.same {x y:Gr} (z:Z x) (h1:y.ops=x.ops) (h2:y.order=x.order) (h3:y.aq=x.aq) (h4:y.aB=x.aB):Z y:=⟨by rw [h1];exact z.op,by rw [h2];exact z.od,by rw [h3];exact z.sg,by rw [h4];exact z.lk⟩
theorem ZS.put (zt:ZS t) (z:ZS s) (h:Nat) {x:Gr} (e:x.ops=(aa s h).ops∧x.order=(aa s h).order∧x.aq=(aa s h).aq∧x.aB=(aa s h).aB:=by exact ⟨rfl,rfl,rfl,rfl⟩):ZS (Sx.ai t g x):=zt.dR ((z h).same e.1 e.2.1 e.2.2.1 e.2.2.2)
theorem ZS.ite {c:Prop} [Decidable c] {β:Type} {a b:ah × β} (h1:ZS a.1) (h2:ZS b.1):ZS (if c then a else b).1:=by split <;> assumption
theorem ZS.cB {c:Prop} [Decidable c] {a b:ah} (h1:ZS a) (h2:ZS b):ZS (if c then a else b):=by split <;> assumption
theorem ZS.aS (z:ZS s) {p:Int}:ZS (aS s g p):=z.put z g
theorem ZS.cq (z:ZS s) {r:Md.aj} {p:Int}:ZS (cq s g r p):=z.put z g
theorem ZS.free (z:ZS s) {c:Int}:ZS (free s c):=z.dS
theorem ZS.tryLock (z:ZS s) {c:Int}:ZS (tryLock s g c).1:=ZS.ite z.dS z
theorem ZS.au (z:ZS s):ZS (au s g):=ZS.cB z.aS z.aS
theorem ZS.gi (z:ZS s):ZS (gi s g):=by
 unfold Sx.gi;refine z.dR ?_
 split
 ·exact (z g).same rfl rfl rfl rfl
 ·split
  ·exact (z g).same rfl rfl rfl rfl
  ·exact z g
theorem ZS.ready (z:ZS s):ZS (ready s g):=by
 unfold Sx.ready;refine z.dR ?_
 split
 ·exact (z g).same rfl rfl rfl rfl
 ·split
  ·exact (z g).same rfl rfl rfl rfl
  ·exact z g
theorem ZS.dO (z:ZS s) {v:Int}:ZS (dO s g v):=ZS.cB (z.of rfl) z
theorem ZS.cz (z:ZS s) {v:Int}:ZS (cz s g v):=z.dO.gI
theorem ZS.bn (z:ZS s):ZS (bn s g).1:=by
 unfold Sx.bn;refine ZS.ite (ZS.ite ?_ z) ?_
 ·exact z.of rfl
 ·exact z.of rfl
theorem ZS.drop (z:ZS s) {v:Int}:ZS (aZ s v):=ZS.cB z.dS z
theorem ZS.pair (z:ZS s) {v:Int}:ZS (pair s g v):=ZS.put (ZS.put z z (su s v).g.toNat) z g
theorem ZS.serve (z:ZS s) {v:Int} {d:Bool}:ZS (serve s g v d):=by
 have z2:ZS (Sx.aV (Sx.ai s (su s v).g.toNat { aa s (su s v).g.toNat with param:=v }) v { su s v with done:=d }):=ZS.gI (ZS.put z z (su s v).g.toNat);exact ZS.put z2 z2 g
theorem ZS.common (z:ZS s):ZS (common s g).1:=by
 unfold Sx.common;simp only;refine ZS.ite (ZS.ite (ZS.ite (ZS.aS z.tryLock) (ZS.aS z.tryLock)) z) ?_;refine ZS.ite (ZS.aS z.free) ?_;refine ZS.ite (ZS.gi (ZS.aS z)) ?_;refine ZS.ite (ZS.aS (ZS.put z.cz z g)) ?_;refine ZS.ite (ZS.au z.free) ?_;refine ZS.ite (ZS.au (ZS.put z.ready z g)) z
theorem ZS.taken (z:ZS s) {i a b:Int}:ZS (taken s g i a b) :=
 ZS.cB (ZS.aS (ZS.put z z g)) (ZS.aS (ZS.pair (ZS.drop (ZS.put z z g))))
theorem ZS.cT (z:ZS s) {a b:Int}:ZS (cT s g a b) :=
 ZS.cB (ZS.put z.drop z g) (ZS.aS (ZS.pair (ZS.put (ZS.put z z g) z (su s (aa s g).hold).g.toNat )))
theorem ZS.bh (z:ZS s) {d:Su}:ZS (bh s g d) :=
 ZS.cB (ZS.put z.bn.gI z g) (ZS.put z.bn z g)
theorem ZS.mS (z:ZS s) {v:Int}:ZS (mS s g v):=ZS.serve (ZS.gI z.drop)
theorem ZS.hand (z:ZS s) {c i:Int}:ZS (hand s c i).1:=by unfold Sx.hand;simp only;split;exact z;exact z.dS
theorem ZS.cu (z:ZS s):ZS (cu s g).1:=by
 unfold Sx.cu;simp only;refine ZS.ite z ?_;refine ZS.ite z.common ?_;refine ZS.ite z ?_;refine ZS.ite (ZS.ite z.aS z.cq) ?_;refine ZS.ite (ZS.ite (ZS.put z z g) (ZS.put z z g)) ?_;refine ZS.ite (ZS.ite z.cq z.aS) ?_;refine ZS.ite (ZS.ite z.aS z.taken) ?_;refine ZS.ite z.cT ?_;refine ZS.ite (ZS.put z.mS z.mS g) ?_;refine ZS.ite (ZS.ite (ZS.cq z.dS) (ZS.ite z.cq z.aS)) ?_;refine ZS.ite z.bh ?_;refine ZS.ite (ZS.put z.dS z g) ?_;exact ZS.ite (ZS.put z z g) z
theorem ZS.cj (z:ZS s):ZS (cj s g).1:=by
 unfold Sx.cj;simp only;refine ZS.ite z ?_;refine ZS.ite z.common ?_;refine ZS.ite z ?_;refine ZS.ite (ZS.ite z.aS z.cq) ?_;refine ZS.ite (ZS.ite z.aS (ZS.put z z g)) ?_;refine ZS.ite (ZS.ite (ZS.put z z g) z.cq) ?_;refine ZS.ite (ZS.ite z.cq (ZS.ite z.aS z.aS)) ?_;refine ZS.ite (ZS.ite z.aS z.taken) ?_;refine ZS.ite z.cT ?_;refine ZS.ite (ZS.put (ZS.serve (ZS.hand z.drop)) (ZS.serve (ZS.hand z.drop)) g ) ?_;refine ZS.ite (ZS.ite (ZS.cq z.dS) (ZS.ite z.cq z.aS)) ?_;refine ZS.ite z.bh ?_;refine ZS.ite (ZS.put z.dS z g) ?_;exact ZS.ite (ZS.put z z g) z
theorem ZS.jj (z:ZS s):ZS (jj s g):=by
 have z2:ZS (Sx.aZ (Sx.ai s g { aa s g with t:=s.step }) (aa s g).hold):=ZS.drop (ZS.put z z g);exact ZS.serve (ZS.put z2 z2 (su (Sx.aZ (Sx.ai s g { aa s g with t:=s.step }) (aa s g).hold) (aa s g).hold).g.toNat)
theorem ZS.l9 (z:ZS s) {i:Int}:ZS (l9 s g i):=by
 have z2:ZS (Sx.ai s g { aa s g with hold:=i }):=ZS.put z z g;exact ZS.cB z2.aS z2.jj
theorem ZS.nN (z:ZS s):ZS (nN s g) :=
 ZS.cB (ZS.put z.drop z g) (ZS.aS (ZS.jj (ZS.put z z (su s (aa s g).hold).g.toNat)))
theorem ZS.dY (z:ZS s):ZS (dY s g).1:=by
 unfold Sx.dY;simp only;refine ZS.ite z ?_;refine ZS.ite z.common ?_;refine ZS.ite z ?_;refine ZS.ite (ZS.ite z.cq (ZS.cq z.dS)) ?_;refine ZS.ite (ZS.ite z.l9 (ZS.ite z.l9 z.aS)) ?_;exact ZS.ite z.nN z
theorem ZS.unlock (z:ZS s) {p:Int}:ZS (unlock s g p):=ZS.put z z g
theorem ZS.cZ (z:ZS s) {r:Md.aj} {i:Int}:ZS (cZ s g r i):=by
 have z2:ZS (Sx.cq s g { r with cs:=i } 30):=z.cq;exact ZS.unlock (ZS.put z2 z2 g)
theorem ZS.lock (z:ZS s) {p:Int}:ZS (lock s g p) :=
 ZS.cB (ZS.cB (ZS.put z.tryLock z g) (ZS.put z.tryLock z g)) z
theorem ZS.next (z:ZS s) {p:Int}:ZS (next s g p):=ZS.cB (ZS.put z z g) (ZS.put z z g)
theorem ZS.dG (z:ZS s):ZS (dG s g):=ZS.cB (ZS.put z z g) (z.dR (z g))
theorem ZS.fX (z:ZS s) {i:Int} {k:Pn.Cs}:ZS (fX s g i k).1 :=
 ZS.ite z.cZ (ZS.ite (ZS.dG z.taken) (ZS.ite (ZS.cZ z.dS) z))
theorem ZS.gE (z:ZS s) {i:Int} {k:Pn.Cs}:ZS (gE s g i k).1 :=
 ZS.ite (ZS.dG z.taken) (ZS.ite (ZS.cZ z.dS) (ZS.ite z.cZ z))
theorem y8 (z:ZS s):(ag s g).cases.length≤6:=by
 unfold ag;rw [List.getD_eq_getElem?_getD]
 by_cases c:(aa s g).at_.toNat < (aa s g).ops.length
 ·rw [List.getElem?_eq_getElem c];exact (z g).op _ (List.getElem_mem c)
 ·rw [List.getElem?_eq_none (by omega)];simp [xX]
theorem ZS.fq (z:ZS s):ZS (fq s g (ag s g)):=by
 have hc:=y8 z (g:=g);have z2:ZS (Sx.ai s g { aa s g with aq:=List.replicate (ag s g).cases.length (-1) }):=z.dR ⟨(z g).op,(z g).od,by simp only [List.length_replicate];exact hc,(z g).lk⟩;unfold Sx.fq;simp only
 by_cases c1:(aH (ag s g) (ax (aa s g).order (aa s g).k)).send=true
 ·rw [if_pos c1];exact ZS.cB z.fX (ZS.cB z.next (ZS.cB z.cZ z2.next))
 ·rw [if_neg c1];exact ZS.cB z.gE (ZS.cB z.next (ZS.cB z.cZ z2.next))
theorem ZS.gG (z:ZS s) {o:Pn.Op}:ZS (gG s g o):=by
 unfold Sx.gG;simp only;have z1:=z.drop (v:=(aa s g).hold)
 by_cases c:(aH o (ax (aa s g).order (aa s g).k)).send=true
 ·simp only [if_pos c];exact ZS.unlock (ZS.put (ZS.serve z1.gI) (ZS.serve z1.gI) g )
 ·simp only [if_neg c];exact ZS.unlock (ZS.put (ZS.serve z1.hand) (ZS.serve z1.hand) g )
theorem ZS.aA (z:ZS s) {o:Pn.Op}:ZS (aA s g o):=by
 unfold Sx.aA;simp only;refine ZS.cB (ZS.next ?_) (ZS.unlock ?_)
 ·refine ZS.dR z.bn.gI ?_;exact ⟨(z g).op,(z g).od,by simp only [List.length_set];exact (z g).sg,(z g).lk⟩
 ·refine ZS.put z.bn z g
theorem ZS.iT (z:ZS s) {o:Pn.Op}:ZS (iT s g o) :=
 ZS.cB (ZS.next z.dS) (ZS.unlock (ZS.put z.dS z g))
theorem ZS.ck (z:ZS s):ZS (ck s g).1:=ZS.put z.free z g
theorem ZS.kj (z:ZS s):ZS (kj s g):=ZS.put z z g
theorem ZS.iU (z:ZS s):ZS (iU s g):=ZS.cB (ZS.next z.drop) (ZS.unlock z.drop)
theorem ZS.iz (z:ZS s):ZS (iz s g):=by
 unfold Sx.iz;simp only;have z1:ZS (if 0≤ax (aa s g).aq (ax (aa s g).order (aa s g).k) then Sx.cz s g (ax (aa s g).aq (ax (aa s g).order (aa s g).k)) else s):=ZS.cB z.cz z;generalize (if 0≤ax (aa s g).aq (ax (aa s g).order (aa s g).k) then Sx.cz s g (ax (aa s g).aq (ax (aa s g).order (aa s g).k)) else s)=t at *;refine ZS.cB (ZS.au (ZS.next ?_)) (ZS.next ?_)
 ·refine ZS.dR z1 ?_;exact ⟨(z g).op,(z g).od,by simp,(z g).lk⟩
 ·refine ZS.dR z1 ?_;exact ⟨(z g).op,(z g).od,by simp only [List.length_set];exact (z g).sg,(z g).lk⟩
theorem ZS.aR (z:ZS s):ZS (aR s g).1:=by
 unfold Sx.aR;simp only;refine ZS.ite z ?_;refine ZS.ite z.lock ?_;refine ZS.ite z.fq ?_;refine ZS.ite (ZS.dG z.cT) ?_;refine ZS.ite z.gG ?_;refine ZS.ite z.aA ?_;refine ZS.ite z.iT ?_;refine ZS.ite (ZS.ite z.ck (ZS.ite (ZS.aS z.ck) (ZS.ite (ZS.aS z.ck) (ZS.au z.ck)))) ?_;refine ZS.ite z.kj ?_;refine ZS.ite z.lock ?_;refine ZS.ite z.iU ?_;refine ZS.ite (ZS.ite z.ck (ZS.aS z.ck)) ?_;refine ZS.ite z.iz ?_;exact ZS.ite z.common z
theorem ZS.never (z:ZS s):ZS (never s g):=ZS.gi z.aS
theorem ZS.clear (z:ZS s):ZS (clear s g):=by
 unfold Sx.clear;exact z.dR ⟨(z g).op,by simp [oG,Sx.clean],by simp [oG,Sx.clean],by simp [oG,Sx.clean]⟩
theorem RO (l:List Int) (h:(aB l).Nodup):(aB l).length≤l.length:=by
 refine List.Nodup.length_le_of_subset h fun x hx=>((EI l).2 x).1 hx |>.1
theorem ZS.ko (z:ZS s) {o:Pn.Op} (hc:o.cases.length≤6) (ho:(aa s g).order=[]):ZS (ko s g o):=by
 unfold Sx.ko;simp only;have z1:ZS { s with drawn:=(drawn s o.cases.length).2 }:=z.of rfl;have hl:∀ (p:Int→Bool),((eU (drawn s o.cases.length).1 o.cases.length).filter p).length≤6:=by
  intro p;have h1:=List.length_filter_le p (eU (drawn s o.cases.length).1 o.cases.length);have h2:=(Bn (drawn s o.cases.length).1 o.cases.length).length_eq;simp at h2;omega
 have zx:Z { aa s g with order:=(aa s g).order ++ (eU (drawn s o.cases.length).1 o.cases.length).filter (fun i=>aT s (aH o i).ch),aB:=Sx.aB (((eU (drawn s o.cases.length).1 o.cases.length).filter (fun i=>aT s (aH o i).ch)).map (fun i=>(aH o i).ch)),place:=24 }:=by
  refine ⟨(z g).op,?_,(z g).sg,?_⟩
  ·simp only [ho,List.nil_append];exact hl _
  ·have ls:=EI (((eU (drawn s o.cases.length).1 o.cases.length).filter (fun i=>aT s (aH o i).ch)).map (fun i=>(aH o i).ch));have:=RO _ (ls.1.imp (fun h e=>by omega));have h2:=hl (fun i=>aT s (aH o i).ch);simp only [List.length_map] at this;simp only;omega
 have z2:=z1.dR (g:=g) zx;exact ZS.cB z2 (ZS.cB z2.cq z2.never)
theorem ZS.kq (z:ZS s):ZS (kq s g):=by
 unfold Sx.kq;simp only;refine ZS.cB (ZS.put z z g) ?_;have z2:ZS (Sx.ai (Sx.clear s g) g { aa (Sx.clear s g) g with call:=(Sx.clear s g).step }):=ZS.put z.clear z.clear g;have ho:(aa (Sx.ai (Sx.clear s g) g { aa (Sx.clear s g) g with call:=(Sx.clear s g).step }) g).order=[]:=by
  by_cases hg:g < s.gs.length
  ·have iE:g < (Sx.clear s g).gs.length:=by unfold Sx.clear;rw [eV];exact hg
   rw [gy iE,if_pos rfl];unfold Sx.clear;rw [gy hg,if_pos rfl];rfl
  ·unfold aa Sx.ai;rw [List.getD_eq_getElem?_getD,List.getElem?_eq_none (by simp [Sx.clear,Sx.ai];omega)];rfl
 generalize Sx.ai (Sx.clear s g) g { aa (Sx.clear s g) g with call:=(Sx.clear s g).step }=s2 at *;have hc:=y8 z2 (g:=g);refine ZS.cB z2.aS ?_;refine ZS.cB (ZS.cB z2.aS z2.never) ?_;refine ZS.cB (ZS.cB z2.aS z2.cq) ?_;exact ZS.cB (ZS.cB z2.aS z2.cq) (z2.ko hc ho)
theorem ZS.kr (z:ZS s):ZS (kr s g):=by
 unfold Sx.kr;simp only;exact ZS.cB z.cq (ZS.cB (ZS.cq (s:={ s with av:=s.av ++ [⟨(ag s g).n,[],false,-1,[],[]⟩] }) (z.of rfl)) (ZS.cB z.cq (ZS.cB z.cq z.cq)))
theorem ZS.answer (z:ZS s):ZS (answer s g):=by
 unfold Sx.answer;simp only;have z1:ZS { s with done:=s.done ++ [mark s g s.step] }:=z.of rfl;exact ZS.clear (ZS.put z1 z1 g)
theorem ZS.jm (z:ZS s):ZS (jm s g).1:=by
 unfold Sx.jm;simp only;exact ZS.ite z.kq (ZS.ite z.kr (ZS.ite z.answer z))
theorem ZS.one (z:ZS s) (p:Int):ZS (one s p).1:=by
 unfold Sx.one
 split
 ·exact z
 have z1:ZS { s with step:=s.step + 1 }:=z.of rfl;simp only;exact ZS.ite z1.jm (ZS.ite z1.cu (ZS.ite z1.cj (ZS.ite z1.dY (ZS.ite z1.aR z))))
theorem ZS.start {p:List (List Pn.Op)} {a c:Int} {d:List Int} (hp:Pn.right p=true):ZS (start p a c d):=by
 unfold Pn.right at hp;simp only [decide_eq_true_eq] at hp;intro g
 by_cases hg:g < p.length
 ·rw [EU hg];have hm:p.getD g []∈p:=by
   rw [List.getD_eq_getElem?_getD,List.getElem?_eq_getElem hg];exact List.getElem_mem _
  have hr:=hp.2.2 _ hm;unfold Pn.lY at hr;simp only [decide_eq_true_eq] at hr;exact ⟨fun o ho=>(EK (hr.2 o ho)).2.2.2.2.2.2.2.2.1,by simp [Sx.clean],by simp [Sx.clean],by simp [Sx.clean]⟩
 ·unfold aa;rw [List.getD_eq_getElem?_getD,List.getElem?_eq_none (by simp [Sx.start];omega)];exact Z.clean 0
structure Good (s:ah):Prop extends MInv s where
 z:ZS s
theorem Good.one (h:Good s) (p:Int):Good (one s p).1:=⟨h.toMInv.one p,h.z.one p⟩
theorem Good.start {p:List (List Pn.Op)} {a c:Int} {d:List Int} (hp:Pn.right p=true) (hc:can a p.length c=true) (hd:∀ x∈d,0≤x∧x < 65536) (hl:d.length≤1000):Good (start p a c d):=⟨MInv.start hp hc hd hl,ZS.start hp⟩
end
end Sx
namespace Sx
def SP (k:Int) (s:ah):Prop:=s.step=k
section
variable {s t:ah} {g h:Nat} {k:Int}
theorem SP.of (z:SP k s) (e:t.step=s.step):SP k t:=by unfold SP at *;rw [e];exact z
theorem SP.w (zt:SP k t) {x:Gr}:SP k (Sx.ai t g x):=zt
theorem SP.dS (z:SP k s) {c:Int} {x:Cn}:SP k (Sx.aE s c x):=z
theorem SP.gI (z:SP k s) {c:Int} {x:Su}:SP k (Sx.aV s c x):=z
theorem SP.ite {c:Prop} [Decidable c] {β:Type} {a b:ah × β} (h1:SP k a.1) (h2:SP k b.1):SP k (if c then a else b).1:=by split <;> assumption
theorem SP.cB {c:Prop} [Decidable c] {a b:ah} (h1:SP k a) (h2:SP k b):SP k (if c then a else b):=by split <;> assumption
theorem SP.aS (z:SP k s) {p:Int}:SP k (aS s g p):=SP.w z
theorem SP.cq (z:SP k s) {r:Md.aj} {p:Int}:SP k (cq s g r p):=SP.w z
theorem SP.free (z:SP k s) {c:Int}:SP k (free s c):=z.dS
theorem SP.tryLock (z:SP k s) {c:Int}:SP k (tryLock s g c).1:=SP.ite z.dS z
theorem SP.au (z:SP k s):SP k (au s g):=SP.cB z.aS z.aS
theorem SP.gi (z:SP k s):SP k (gi s g):=SP.w z
theorem SP.ready (z:SP k s):SP k (ready s g):=SP.w z
theorem SP.dO (z:SP k s) {v:Int}:SP k (dO s g v):=SP.cB (z.of rfl) z
theorem SP.cz (z:SP k s) {v:Int}:SP k (cz s g v):=z.dO.gI
theorem SP.bn (z:SP k s):SP k (bn s g).1:=by
 unfold Sx.bn;refine SP.ite (SP.ite ?_ z) ?_
 ·exact z.of rfl
 ·exact z.of rfl
theorem SP.drop (z:SP k s) {v:Int}:SP k (aZ s v):=SP.cB z.dS z
theorem SP.pair (z:SP k s) {v:Int}:SP k (pair s g v):=SP.w (SP.w z)
theorem SP.serve (z:SP k s) {v:Int} {d:Bool}:SP k (serve s g v d):=by
 have z2:SP k (Sx.aV (Sx.ai s (su s v).g.toNat { aa s (su s v).g.toNat with param:=v }) v { su s v with done:=d }):=SP.gI (SP.w z);exact SP.w z2
theorem SP.common (z:SP k s):SP k (common s g).1:=by
 unfold Sx.common;simp only;refine SP.ite (SP.ite (SP.ite (SP.aS z.tryLock) (SP.aS z.tryLock)) z) ?_;refine SP.ite (SP.aS z.free) ?_;refine SP.ite (SP.gi (SP.aS z)) ?_;refine SP.ite (SP.aS (SP.w z.cz)) ?_;refine SP.ite (SP.au z.free) ?_;refine SP.ite (SP.au (SP.w z.ready)) z
theorem SP.taken (z:SP k s) {i a b:Int}:SP k (taken s g i a b) :=
 SP.cB (SP.aS (SP.w z)) (SP.aS (SP.pair (SP.drop (SP.w z))))
theorem SP.cT (z:SP k s) {a b:Int}:SP k (cT s g a b) :=
 SP.cB (SP.w z.drop) (SP.aS (SP.pair (SP.w (SP.w z) )))
theorem SP.bh (z:SP k s) {d:Su}:SP k (bh s g d) :=
 SP.cB (SP.w z.bn.gI) (SP.w z.bn)
theorem SP.mS (z:SP k s) {v:Int}:SP k (mS s g v):=SP.serve (SP.gI z.drop)
theorem SP.hand (z:SP k s) {c i:Int}:SP k (hand s c i).1:=by unfold Sx.hand;simp only;split;exact z;exact z.dS
theorem SP.cu (z:SP k s):SP k (cu s g).1:=by
 unfold Sx.cu;simp only;refine SP.ite z ?_;refine SP.ite z.common ?_;refine SP.ite z ?_;refine SP.ite (SP.ite z.aS z.cq) ?_;refine SP.ite (SP.ite (SP.w z) (SP.w z)) ?_;refine SP.ite (SP.ite z.cq z.aS) ?_;refine SP.ite (SP.ite z.aS z.taken) ?_;refine SP.ite z.cT ?_;refine SP.ite (SP.w z.mS) ?_;refine SP.ite (SP.ite (SP.cq z.dS) (SP.ite z.cq z.aS)) ?_;refine SP.ite z.bh ?_;refine SP.ite (SP.w z.dS) ?_;exact SP.ite (SP.w z) z
theorem SP.cj (z:SP k s):SP k (cj s g).1:=by
 unfold Sx.cj;simp only;refine SP.ite z ?_;refine SP.ite z.common ?_;refine SP.ite z ?_;refine SP.ite (SP.ite z.aS z.cq) ?_;refine SP.ite (SP.ite z.aS (SP.w z)) ?_;refine SP.ite (SP.ite (SP.w z) z.cq) ?_;refine SP.ite (SP.ite z.cq (SP.ite z.aS z.aS)) ?_;refine SP.ite (SP.ite z.aS z.taken) ?_;refine SP.ite z.cT ?_;refine SP.ite (SP.w (SP.serve (SP.hand z.drop)) ) ?_;refine SP.ite (SP.ite (SP.cq z.dS) (SP.ite z.cq z.aS)) ?_;refine SP.ite z.bh ?_;refine SP.ite (SP.w z.dS) ?_;exact SP.ite (SP.w z) z
theorem SP.jj (z:SP k s):SP k (jj s g):=by
 have z2:SP k (Sx.aZ (Sx.ai s g { aa s g with t:=s.step }) (aa s g).hold):=SP.drop (SP.w z);exact SP.serve (SP.w z2)
theorem SP.l9 (z:SP k s) {i:Int}:SP k (l9 s g i):=by
 have z2:SP k (Sx.ai s g { aa s g with hold:=i }):=SP.w z;exact SP.cB z2.aS z2.jj
theorem SP.nN (z:SP k s):SP k (nN s g) :=
 SP.cB (SP.w z.drop) (SP.aS (SP.jj (SP.w z)))
theorem SP.dY (z:SP k s):SP k (dY s g).1:=by
 unfold Sx.dY;simp only;refine SP.ite z ?_;refine SP.ite z.common ?_;refine SP.ite z ?_;refine SP.ite (SP.ite z.cq (SP.cq z.dS)) ?_;refine SP.ite (SP.ite z.l9 (SP.ite z.l9 z.aS)) ?_;exact SP.ite z.nN z
theorem SP.unlock (z:SP k s) {p:Int}:SP k (unlock s g p):=SP.w z
theorem SP.cZ (z:SP k s) {r:Md.aj} {i:Int}:SP k (cZ s g r i):=by
 have z2:SP k (Sx.cq s g { r with cs:=i } 30):=z.cq;exact SP.unlock (SP.w z2)
theorem SP.lock (z:SP k s) {p:Int}:SP k (lock s g p) :=
 SP.cB (SP.cB (SP.w z.tryLock) (SP.w z.tryLock)) z
theorem SP.next (z:SP k s) {p:Int}:SP k (next s g p):=SP.cB (SP.w z) (SP.w z)
theorem SP.dG (z:SP k s):SP k (dG s g):=SP.cB (SP.w z) (SP.w z)
theorem SP.fX (z:SP k s) {i:Int} {q:Pn.Cs}:SP k (fX s g i q).1 :=
 SP.ite z.cZ (SP.ite (SP.dG z.taken) (SP.ite (SP.cZ z.dS) z))
theorem SP.gE (z:SP k s) {i:Int} {q:Pn.Cs}:SP k (gE s g i q).1 :=
 SP.ite (SP.dG z.taken) (SP.ite (SP.cZ z.dS) (SP.ite z.cZ z))
theorem SP.fq (z:SP k s):SP k (fq s g (ag s g)):=by
 have z2:SP k (Sx.ai s g { aa s g with aq:=List.replicate (ag s g).cases.length (-1) }):=SP.w z;unfold Sx.fq;simp only
 by_cases c1:(aH (ag s g) (ax (aa s g).order (aa s g).k)).send=true
 ·rw [if_pos c1];exact SP.cB z.fX (SP.cB z.next (SP.cB z.cZ z2.next))
 ·rw [if_neg c1];exact SP.cB z.gE (SP.cB z.next (SP.cB z.cZ z2.next))
theorem SP.gG (z:SP k s) {o:Pn.Op}:SP k (gG s g o):=by
 unfold Sx.gG;simp only;have z1:=z.drop (v:=(aa s g).hold)
 by_cases c:(aH o (ax (aa s g).order (aa s g).k)).send=true
 ·simp only [if_pos c];exact SP.unlock (SP.w (SP.serve z1.gI) )
 ·simp only [if_neg c];exact SP.unlock (SP.w (SP.serve z1.hand) )
theorem SP.aA (z:SP k s) {o:Pn.Op}:SP k (aA s g o):=by
 unfold Sx.aA;simp only;refine SP.cB (SP.next ?_) (SP.unlock ?_)
 ·exact SP.w z.bn.gI
 ·refine SP.w z.bn
theorem SP.iT (z:SP k s) {o:Pn.Op}:SP k (iT s g o) :=
 SP.cB (SP.next z.dS) (SP.unlock (SP.w z.dS))
theorem SP.ck (z:SP k s):SP k (ck s g).1:=SP.w z.free
theorem SP.kj (z:SP k s):SP k (kj s g):=SP.w z
theorem SP.iU (z:SP k s):SP k (iU s g):=SP.cB (SP.next z.drop) (SP.unlock z.drop)
theorem SP.iz (z:SP k s):SP k (iz s g):=by
 unfold Sx.iz;simp only;have z1:SP k (if 0≤ax (aa s g).aq (ax (aa s g).order (aa s g).k) then Sx.cz s g (ax (aa s g).aq (ax (aa s g).order (aa s g).k)) else s):=SP.cB z.cz z;generalize (if 0≤ax (aa s g).aq (ax (aa s g).order (aa s g).k) then Sx.cz s g (ax (aa s g).aq (ax (aa s g).order (aa s g).k)) else s)=t at *;refine SP.cB (SP.au (SP.next ?_)) (SP.next ?_)
 ·exact SP.w z1
 ·exact SP.w z1
theorem SP.aR (z:SP k s):SP k (aR s g).1:=by
 unfold Sx.aR;simp only;refine SP.ite z ?_;refine SP.ite z.lock ?_;refine SP.ite z.fq ?_;refine SP.ite (SP.dG z.cT) ?_;refine SP.ite z.gG ?_;refine SP.ite z.aA ?_;refine SP.ite z.iT ?_;refine SP.ite (SP.ite z.ck (SP.ite (SP.aS z.ck) (SP.ite (SP.aS z.ck) (SP.au z.ck)))) ?_;refine SP.ite z.kj ?_;refine SP.ite z.lock ?_;refine SP.ite z.iU ?_;refine SP.ite (SP.ite z.ck (SP.aS z.ck)) ?_;refine SP.ite z.iz ?_;exact SP.ite z.common z
theorem SP.never (z:SP k s):SP k (never s g):=SP.gi z.aS
theorem SP.clear (z:SP k s):SP k (clear s g):=by
 unfold Sx.clear;exact SP.w z
theorem SP.ko (z:SP k s) {o:Pn.Op}:SP k (ko s g o):=by
 unfold Sx.ko;simp only;have z1:SP k { s with drawn:=(drawn s o.cases.length).2 }:=z.of rfl;exact SP.cB (SP.w z1) (SP.cB (SP.cq (SP.w z1)) (SP.never (SP.w z1)))
theorem SP.kq (z:SP k s):SP k (kq s g):=by
 unfold Sx.kq;simp only;refine SP.cB (SP.w z) ?_;have z2:SP k (Sx.ai (Sx.clear s g) g { aa (Sx.clear s g) g with call:=(Sx.clear s g).step }):=SP.w z.clear;generalize Sx.ai (Sx.clear s g) g { aa (Sx.clear s g) g with call:=(Sx.clear s g).step }=s2 at *;refine SP.cB z2.aS ?_;refine SP.cB (SP.cB z2.aS z2.never) ?_;refine SP.cB (SP.cB z2.aS z2.cq) ?_;exact SP.cB (SP.cB z2.aS z2.cq) z2.ko
theorem SP.kr (z:SP k s):SP k (kr s g):=by
 unfold Sx.kr;simp only;exact SP.cB z.cq (SP.cB (SP.cq (s:={ s with av:=s.av ++ [⟨(ag s g).n,[],false,-1,[],[]⟩] }) (z.of rfl)) (SP.cB z.cq (SP.cB z.cq z.cq)))
theorem SP.answer (z:SP k s):SP k (answer s g):=by
 unfold Sx.answer;simp only;have z1:SP k { s with done:=s.done ++ [mark s g s.step] }:=z.of rfl;exact SP.clear (SP.w z1)
theorem SP.jm (z:SP k s):SP k (jm s g).1:=by
 unfold Sx.jm;simp only;exact SP.ite z.kq (SP.ite z.kr (SP.ite z.answer z))
theorem RP (s:ah) (p:Int):s.step≤(Sx.one s p).1.step∧(Sx.one s p).1.step≤s.step + 1:=by
 unfold Sx.one
 split
 ·exact ⟨Int.le_refl _,by simp only;omega⟩
 have z1:SP (s.step + 1) { s with step:=s.step + 1 }:=rfl;simp only
 split
 ·have:=z1.jm (g:=p.toNat);unfold SP at this;rw [this];omega
 split
 ·have:=z1.cu (g:=p.toNat);unfold SP at this;rw [this];omega
 split
 ·have:=z1.cj (g:=p.toNat);unfold SP at this;rw [this];omega
 split
 ·have:=z1.dY (g:=p.toNat);unfold SP at this;rw [this];omega
 split
 ·have:=z1.aR (g:=p.toNat);unfold SP at this;rw [this];omega
 ·exact ⟨Int.le_refl _,by simp only;omega⟩
theorem RQ (l:List Int):∀ s:ah,s.step≤(Sx.runs s l).1.step∧(Sx.runs s l).1.step≤s.step + l.length:=by
 induction l with
 | nil=>intro s;simp [Sx.runs]
 | cons p r ih =>
  intro s;unfold Sx.runs
  split
  ·simp only [List.length_cons];omega
  ·have h1:=RP s (pick s p);have h2:=ih (Sx.one s (pick s p)).1;simp only [List.length_cons];omega
theorem Good.runs {s:ah} (h:Good s) (l:List Int):Good (Sx.runs s l).1:=by
 induction l generalizing s with
 | nil=>exact h
 | cons p r ih =>
  unfold Sx.runs
  split
  ·exact h
  ·exact ih (h.one _)
end
end Sx
namespace Po
theorem JM (f:Int):∀ (L:List Int) (H:List Bool),f≤H.length→L.Nodup→(∀ x∈L,0≤x∧x < f∧H.getD x.toNat false=false) →
  (settle f H L).2=true∧∀ j:Nat,(settle f H L).1.getD j false=(H.getD j false || decide ((j:Int)∈L))
 | [],H,hf,nd,hx=>⟨rfl,fun j=>by simp [settle]⟩
 | x :: r,H,hf,nd,hx=>by
  obtain ⟨h0,h1,h2⟩:=hx x (List.mem_cons_self ..);have JN:=List.nodup_cons.1 nd;have hl:live f H x=true:=by simp only [live,Bool.and_eq_true,decide_eq_true_eq,Bool.not_eq_true'];exact ⟨⟨h0,h1⟩,h2⟩
  have:=JM f r (H.set x.toNat true) (by rw [List.length_set];exact hf) JN.2 (fun y hy=>by
   obtain ⟨a,b,c⟩:=hx y (List.mem_cons_of_mem _ hy);refine ⟨a,b,?_⟩;rw [lZ _ _ _ _ _ (by omega),if_neg];exact c;intro e;have:x=y:=by omega
   exact JN.1 (this ▸ hy))
  unfold settle;rw [if_pos hl];refine ⟨this.1,fun j=>?_⟩;rw [this.2 j,lZ _ _ _ _ _ (by omega)]
  by_cases e:x.toNat=j
  ·rw [if_pos e];have:(j:Int)=x:=by omega
   simp [this]
  ·rw [if_neg e];have:(j:Int)≠x:=by omega
   simp [this]
theorem RS {size most:Nat} {C:List (List Int)} {M:List Int} {f:Nat} {H0:List Bool} (v:Inv size most ⟨C,M,f,H0⟩) (hC:C.length≤8) :
  of size most f C M=true∧∀ H,settle f (List.replicate size false) (C.flatten ++ M)=(H,true)→Inv size most ⟨C,M,f,H⟩:=by
 have hc:∀ a,(C.flatten ++ M).count a=ei ⟨C,M,f,H0⟩ a:=fun a=>by rw [List.count_append];unfold ei;simp only;omega
 have fl:=v.fl;simp only at fl;have hk:=JM f (C.flatten ++ M) (List.replicate size false) (by simpa using fl) (List.nodup_iff_count.2 fun a=>by rw [hc];exact v.one a) (fun x hx=>by
  have h1:=v.bound x (by rw [← hc];exact List.count_pos_iff.2 hx);simp only at h1;exact ⟨h1.1,h1.2,by rw [List.getD_eq_getElem?_getD,List.getElem?_replicate];split <;> rfl⟩)
 have ca:=v.pZ;simp only at ca;have m1:=v.m1;have m2:=v.m2;have s1:=v.s1;refine ⟨?_,fun H hH=>⟨m1,m2,s1,?_,v.fl,v.one,v.bound,fun x hx=>?_,v.pZ⟩⟩
 ·unfold of fits;have a1:decide (0≤(size:Int)∧(size:Int)≤64∧0≤(C.length:Int)∧(C.length:Int)≤8∧1≤(most:Int)∧(most:Int)≤16)=true:=decide_eq_true (by omega);have a2:decide (0≤(f:Int))=true:=decide_eq_true (by omega);have a3:decide ((f:Int)≤(size:Int))=true:=decide_eq_true (by omega);have a4:decide (∀ l∈C,(l.length:Int)≤(most:Int))=true:=decide_eq_true (fun l hl=>by have:=ca l hl;omega);rw [a1,a2,a3,a4,Int.toNat_natCast];exact hk.1
 ·have:=Aq f (List.replicate size false) (C.flatten ++ M);rw [hH] at this;simpa using this
 ·have:=hk.2 x;rw [hH] at this;simp only at this ⊢;rw [this,List.getD_eq_getElem?_getD,List.getElem?_replicate,if_pos hx];simp only [Option.getD_some,Bool.false_or];rw [decide_eq_decide]
  show _↔1≤ei ⟨C,M,f,H0⟩ (x:Int);rw [← hc];exact List.count_pos_iff.symm
end Po
namespace Sx
variable {s:ah}
theorem yt {α:Type} {l:List α} {k:Nat} {a z:α} (h:l[k]?=some a) (n:Nat) (hn:n=l.length):(l.take k ++ List.replicate (n - k) z).set k a=l.take (k + 1) ++ List.replicate (n - (k + 1)) z:=by
 have hk:=(List.getElem?_eq_some_iff.1 h).1;have e1:(l.take k).length=k:=by rw [List.length_take];omega
 obtain ⟨d,hd⟩:∃ d,n - k=d + 1:=⟨n - k - 1,by omega⟩
 have RT:n - (k + 1)=d:=by omega
 rw [List.set_append_right _ _ (by omega),e1,Nat.sub_self,hd,RT,List.replicate_succ,List.set_cons_zero,List.take_add_one,h,List.append_assoc];rfl
def bK (s:ah) (k:Nat):List (Int × Bool):=(s.gs.map fun x=>(x.status,x.token)).take k ++ List.replicate (s.gs.length - k) (0,false)
theorem RU (k:Nat) (hk:k≤s.gs.length):(bK s k).length=s.gs.length:=by simp [bK];omega
theorem RV {k:Nat} (hk:k < s.gs.length) (h:0≤(aa s k).status∧(aa s k).status≤2):Bc.AF (bK s k) (k:Int) (aa s k).status (aa s k).token=bK s (k + 1):=by
 have hx:s.gs[k]?=some (aa s k):=by unfold aa;rw [List.getD_eq_getElem?_getD,List.getElem?_eq_getElem hk];rfl
 have:Bc.vL (bK s k) (k:Int) (aa s k).status=true:=by
  unfold Bc.vL Bc.has;rw [RU k (by omega)];simp only [Bool.and_eq_true,decide_eq_true_eq];omega
 unfold Bc.AF;rw [if_pos this,Int.toNat_natCast];unfold bK;exact yt (by rw [List.getElem?_map,hx];rfl) _ (by simp)
theorem RW (h:s.gs.length≤8):Bc.oL (s.gs.length:Int)=bK s 0:=by
 unfold Bc.oL bK;rw [show (max 0 (min (s.gs.length:Int) 4096)).toNat=s.gs.length by omega];simp
theorem RY:bK s s.gs.length=s.gs.map fun x=>(x.status,x.token):=by
 unfold bK;rw [List.take_of_length_le (by simp),Nat.sub_self];simp
def lK (s:ah) (k:Nat):List Int:=(s.av.map (·.lock)).take k ++ List.replicate (s.av.length - k) (-1)
theorem IE {k:Nat} (hk:k < s.av.length):s.av[k]?=some (cn s ((k:Int) + 1)):=by
 unfold cn;rw [show ((k:Int) + 1 - 1).toNat=k by omega,List.getD_eq_getElem?_getD,List.getElem?_eq_getElem hk];rfl
theorem RZ {k:Nat} (hk:k < s.av.length) (h:(cn s ((k:Int) + 1)).lock=-1∨0≤(cn s ((k:Int) + 1)).lock):Lt.ru (lK s k) ((k:Int) + 1 - 1) (cn s ((k:Int) + 1)).lock=lK s (k + 1):=by
 have hx:=IE hk;have hl:(lK s k).length=s.av.length:=by simp [lK];omega
 have hm:(s.av.map (·.lock))[k]?=some (cn s ((k:Int) + 1)).lock:=by rw [List.getElem?_map,hx];rfl
 have hf:=yt (z:=(-1:Int)) hm s.av.length (by simp);rw [show (k:Int) + 1 - 1=k by omega];have he:(lK s k)[k]?=some (-1):=by
  have e1:((s.av.map (·.lock)).take k).length=k:=by simp;omega
  unfold lK;rw [List.getElem?_append_right (by omega),e1,Nat.sub_self,List.getElem?_replicate,if_pos (by omega)]
 unfold Lt.ru
 split
 ·rw [Int.toNat_natCast];exact hf
 ·rename_i c;have:¬ 0≤(cn s ((k:Int) + 1)).lock:=by
   intro c2;apply c;unfold Lt.rm Lt.has;rw [hl,Int.toNat_natCast,List.getD_eq_getElem?_getD,he];simp only [Bool.and_eq_true,decide_eq_true_eq];exact ⟨⟨⟨by omega,by omega⟩,c2⟩,by simp⟩
  have e:(cn s ((k:Int) + 1)).lock=-1:=by omega
  rw [e] at hf;have:(lK s k).set k (-1)=lK s k:=by
   apply List.ext_getElem?;intro j;rw [List.getElem?_set]
   split
   ·rename_i c3;subst c3;rw [he];simp [hl,hk]
   ·rfl
  unfold lK at this;rw [hf] at this;exact this.symm
theorem R2 (h:s.av.length≤8):Lt.oL (s.av.length:Int)=lK s 0:=by
 unfold Lt.oL lK;rw [show (max 0 (min (s.av.length:Int) 4096)).toNat=s.av.length by omega];simp
theorem R3:lK s s.av.length=s.av.map (·.lock):=by
 unfold lK;rw [List.take_of_length_le (by simp),Nat.sub_self];simp
def qK (s:ah) (k a b:Nat):List (List Int):=(List.range 16).map fun j =>
 if j / 2 < k then (if j % 2=0 then (cn s ((j / 2:Nat) + 1)).recv else (cn s ((j / 2:Nat) + 1)).send)
 else if j / 2=k then (if j % 2=0 then (cn s ((k:Nat) + 1)).recv.take a else (cn s ((k:Nat) + 1)).send.take b) else []
theorem rU (k a b:Nat):(qK s k a b).length=16:=by simp [qK]
theorem sV (k a b:Nat) {j:Nat} (hj:j < 16):(qK s k a b)[j]?=some (if j / 2 < k then (if j % 2=0 then (cn s ((j / 2:Nat) + 1)).recv else (cn s ((j / 2:Nat) + 1)).send)
 else if j / 2=k then (if j % 2=0 then (cn s ((k:Nat) + 1)).recv.take a else (cn s ((k:Nat) + 1)).send.take b) else []):=by
 unfold qK;rw [List.getElem?_map,List.getElem?_range hj];rfl
theorem JP {k a b:Nat} {x:Int} (h:x∈(qK s k a b).flatten):∃ j:Nat,j≤k∧(j < k∧(x∈(cn s ((j:Int) + 1)).recv∨x∈(cn s ((j:Int) + 1)).send)∨j=k∧(x∈(cn s ((k:Int) + 1)).recv.take a∨x∈(cn s ((k:Int) + 1)).send.take b)):=by
 obtain ⟨l,hl,hx⟩:=List.mem_flatten.1 h;unfold qK at hl;obtain ⟨j,hj,rfl⟩:=List.mem_map.1 hl;have hj:j < 16:=by simpa using hj
 by_cases c:j / 2 < k
 ·rw [if_pos c] at hx;refine ⟨j / 2,by omega,.inl ⟨c,?_⟩⟩
  split at hx
  ·exact .inl hx
  ·exact .inr hx
 ·rw [if_neg c] at hx
  split at hx
  ·rename_i c2;refine ⟨k,Nat.le_refl _,.inr ⟨rfl,?_⟩⟩
   split at hx
   ·exact .inl hx
   ·exact .inr hx
  ·simp at hx
theorem JQ {l:List Int} (nd:l.Nodup) {a:Nat} {x:Int} (h:l[a]?=some x):x∉l.take a:=by
 intro hx;obtain ⟨j,hj⟩:=List.getElem?_of_mem hx;have hl:=(List.getElem?_eq_some_iff.1 hj).1;rw [List.length_take] at hl;rw [List.getElem?_take_of_lt (by omega)] at hj;obtain ⟨h1,h2⟩:=List.getElem?_eq_some_iff.1 h;obtain ⟨h3,h4⟩:=List.getElem?_eq_some_iff.1 hj;exact List.pairwise_iff_getElem.1 nd j a h3 h1 (by omega) (h4.trans h2.symm)
structure Qs (s:ah):Prop where
 c8:s.av.length≤8
 q:∀ k:Nat,k < s.av.length→∀ i,i∈(cn s ((k:Int) + 1)).recv∨i∈(cn s ((k:Int) + 1)).send→0≤i∧i < s.aA.length∧(su s i).ch=(k:Int) + 1∧((su s i).send=false→i∉(cn s ((k:Int) + 1)).send)∧((su s i).send=true→i∉(cn s ((k:Int) + 1)).recv)
 nd:∀ k:Nat,k < s.av.length→(cn s ((k:Int) + 1)).recv.Nodup∧(cn s ((k:Int) + 1)).send.Nodup
theorem R4 (Q:Qs s) {k a:Nat} (hk:k < s.av.length) {x:Int} (hx:(cn s ((k:Int) + 1)).recv[a]?=some x):Qu.push s.aA.length (qK s k a 0) (2 * ((k:Int) + 1) - 2) x=(qK s k (a + 1) 0,true):=by
 have m:=List.mem_of_getElem? hx;have c8:=Q.c8;obtain ⟨i0,i1,i2,i3,i4⟩:=Q.q k hk x (.inl m);have hn:Qu.loc (qK s k a 0) x=none:=by
  rw [Qu.p5];intro hm;obtain ⟨j,j1,⟨j2,j3⟩ | ⟨rfl,j3⟩⟩:=JP hm
  ·have:=(Q.q j (by omega) x j3).2.2.1;omega
  ·rcases j3 with j3 | j3
   ·exact JQ (Q.nd j hk).1 hx j3
   ·simp at j3
 have e:2 * ((k:Int) + 1) - 2=((2 * k:Nat):Int):=by omega
 have hl:Qu.line (qK s k a 0) ((2 * k:Nat):Int)=true:=by unfold Qu.line;rw [rU];simp only [Bool.and_eq_true,decide_eq_true_eq];omega
 unfold Qu.push;rw [e,hl,hn,if_pos (by simp only [Option.isNone_none,Bool.true_and,Bool.and_true,Bool.and_eq_true,decide_eq_true_eq];exact ⟨i0,i1⟩)];unfold Qu.row;rw [hl,if_pos rfl,Int.toNat_natCast,List.getD_eq_getElem?_getD,sV k a 0 (j:=2 * k) (by omega)]
 congr 1
 apply List.ext_getElem?;intro j;rw [List.getElem?_set]
 by_cases c:2 * k=j
 ·subst c;rw [if_pos rfl,if_pos (by rw [rU];omega),sV k (a + 1) 0 (j:=2 * k) (by omega)];have d1:2 * k / 2=k:=by omega
  have d2:2 * k % 2=0:=by omega
  simp only [d1,d2,Nat.lt_irrefl,if_false,if_true,Option.getD_some];rw [List.take_add_one,hx];rfl
 ·rw [if_neg c]
  by_cases c2:j < 16
  ·rw [sV k a 0 c2,sV k (a + 1) 0 c2]
   by_cases c3:j / 2=k
   ·have:j % 2≠0:=by omega
    simp only [this,if_false]
   ·rw [if_neg c3,if_neg c3]
  ·rw [List.getElem?_eq_none (by rw [rU];omega),List.getElem?_eq_none (by rw [rU];omega)]
theorem R5 (Q:Qs s) {k b:Nat} (hk:k < s.av.length) {x:Int} (hx:(cn s ((k:Int) + 1)).send[b]?=some x) :
  Qu.push s.aA.length (qK s k (cn s ((k:Int) + 1)).recv.length b) (2 * ((k:Int) + 1) - 1) x=(qK s k (cn s ((k:Int) + 1)).recv.length (b + 1),true):=by
 have m:=List.mem_of_getElem? hx;have c8:=Q.c8;obtain ⟨i0,i1,i2,i3,i4⟩:=Q.q k hk x (.inr m);generalize X8:(cn s ((k:Int) + 1)).recv.length=a;have hn:Qu.loc (qK s k a b) x=none:=by
  rw [Qu.p5];intro hm;obtain ⟨j,j1,⟨j2,j3⟩ | ⟨rfl,j3⟩⟩:=JP hm
  ·have:=(Q.q j (by omega) x j3).2.2.1;omega
  ·rcases j3 with j3 | j3
   ·have j3:=List.mem_of_mem_take j3
    cases c:(su s x).send with
    | false=>exact i3 c m
    | true=>exact i4 c j3
   ·exact JQ (Q.nd j hk).2 hx j3
 have e:2 * ((k:Int) + 1) - 1=((2 * k + 1:Nat):Int):=by omega
 have hl:Qu.line (qK s k a b) ((2 * k + 1:Nat):Int)=true:=by unfold Qu.line;rw [rU];simp only [Bool.and_eq_true,decide_eq_true_eq];omega
 unfold Qu.push;rw [e,hl,hn,if_pos (by simp only [Option.isNone_none,Bool.true_and,Bool.and_true,Bool.and_eq_true,decide_eq_true_eq];exact ⟨i0,i1⟩)];unfold Qu.row;rw [hl,if_pos rfl,Int.toNat_natCast,List.getD_eq_getElem?_getD,sV k a b (j:=2 * k + 1) (by omega)]
 congr 1
 apply List.ext_getElem?;intro j;rw [List.getElem?_set]
 by_cases c:2 * k + 1=j
 ·subst c;rw [if_pos rfl,if_pos (by rw [rU];omega),sV k a (b + 1) (j:=2 * k + 1) (by omega)];have d1:(2 * k + 1) / 2=k:=by omega
  have d2:(2 * k + 1) % 2=1:=by omega
  simp only [d1,d2,Nat.lt_irrefl,if_false,if_true,Option.getD_some,Nat.one_ne_zero];rw [List.take_add_one,hx];rfl
 ·rw [if_neg c]
  by_cases c2:j < 16
  ·rw [sV k a b c2,sV k a (b + 1) c2]
   by_cases c3:j / 2=k
   ·have:j % 2=0:=by omega
    simp only [this,if_true]
   ·rw [if_neg c3,if_neg c3]
  ·rw [List.getElem?_eq_none (by rw [rU];omega),List.getElem?_eq_none (by rw [rU];omega)]
theorem R6:List.replicate 16 []=qK s 0 0 0:=by
 refine (List.eq_replicate_iff.2 ⟨rU 0 0 0,fun l hl=>?_⟩).symm;unfold qK at hl;obtain ⟨j,_,rfl⟩:=List.mem_map.1 hl
 split
 ·omega
 ·split
  ·split <;> simp
  ·rfl
theorem R7 {k:Nat}:qK s k (cn s ((k:Int) + 1)).recv.length (cn s ((k:Int) + 1)).send.length=qK s (k + 1) 0 0:=by
 unfold qK;refine List.map_congr_left fun j hj=>?_
 by_cases c:j / 2 < k
 ·rw [if_pos c,if_pos (show j / 2 < k + 1 by omega)]
 ·rw [if_neg c]
  by_cases c2:j / 2=k
  ·rw [if_pos c2,if_pos (show j / 2 < k + 1 by omega),List.take_of_length_le (Nat.le_refl _),List.take_of_length_le (Nat.le_refl _),c2]
  ·rw [if_neg c2,if_neg (show ¬ j / 2 < k + 1 by omega)]
   split
   ·split <;> simp
   ·rfl
theorem R8:qK s s.av.length 0 0=(List.range 16).map fun j=>if j % 2=0 then (cn s ((j / 2:Nat) + 1)).recv else (cn s ((j / 2:Nat) + 1)).send:=by
 unfold qK;refine List.map_congr_left fun j hj=>?_
 by_cases c:j / 2 < s.av.length
 ·rw [if_pos c]
 ·rw [if_neg c];have e:cn s ((j / 2:Nat) + 1)=oF:=by
   unfold cn;rw [List.getD_eq_getElem?_getD,List.getElem?_eq_none (by omega)];rfl
  rw [e]
  split
  ·split <;> simp [oF]
  ·split <;> rfl
theorem Good.qs (h:Good s):Qs s:=by
 have h':=h.toMInv;refine ⟨h.c8,fun k hk i hi=>?_,fun k hk=>?_⟩
 ·have:=Inv.q h'.v ((k:Int) + 1) (by omega) (by omega) i hi;obtain ⟨a1,a2,a3,a4,a5,_⟩:=this;exact ⟨a1,a2,a3,fun e=>(a4 e).2,fun e=>(a5 e).2⟩
 ·exact Inv.nd h'.v ((k:Int) + 1) (by omega) (by omega)
end Sx
namespace Sx
structure Bg (n:Nat) (x:Gr):Prop where
 op:x.ops.length≤n
 oc:∀ o∈x.ops,o.cases.length≤n
 od:x.order.length≤n
 lk:x.aB.length≤n
 sg:x.aq.length≤n
 wk:x.au.length≤n
structure Bh (n:Nat) (c:Cn):Prop where
 cp:0≤c.cap
 bf:c.buf.length≤n
 rv:c.recv.length≤n
 sd:c.send.length≤n
structure Bd (n:Nat) (s:ah):Prop where
 g8:s.gs.length≤8
 c8:s.av.length≤8
 mA:s.aA.length≤64
 dn:s.done.length≤n
 dr:s.di.length≤1000
 cl:s.cache.length=s.gs.length
 cb:∀ l∈s.cache,l.length≤n
 mb:s.middle.length≤n
 fr:0≤s.fresh
 gs:∀ x∈s.gs,Bg n x
 cs:∀ c∈s.av,Bh n c
section
variable {n m:Nat} {s:ah} {g:Nat}
theorem Bd.gr (h:Bd n s) (g:Nat):Bg n (aa s g):=by
 unfold Sx.aa;rw [List.getD_eq_getElem?_getD]
 cases e:s.gs[g]? with
 | none=>exact ⟨by simp [clean],by simp [clean],by simp [clean],by simp [clean],by simp [clean],by simp [clean]⟩
 | some x=>exact h.gs x (List.mem_of_getElem? e)
end
theorem Ai {C:List (List Int)} {l:List Int} (h:l∈C):l.length≤C.flatten.length:=by
 induction C with
 | nil=>simp at h
 | cons a C ih =>
  rcases List.mem_cons.1 h with rfl | h
  ·simp
  ·have:=ih h;rw [List.flatten_cons,List.length_append];omega
end Sx
end Go.Proofs.YtdjhhbpedllnhaaGreat
