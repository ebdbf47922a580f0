/-
  What the laws need, part S5.
  Conditions: none.
-/
import Derived.Test.YtgjpdogjekmemaaGreatS3
import Derived.Test.YtgjpdogjekmemaaGreatS4
set_option linter.unusedVariables false
set_option linter.unusedSimpArgs false
set_option linter.unnecessarySimpa false
set_option maxHeartbeats 2000000
set_option maxHeartbeats 2000000
namespace Go.Proofs.YtgjpdogjekmemaaGreat
namespace Sx
variable {s t:ah} {g:Nat} {nc ns n:Int}
theorem sB {l:List Int} (h:l.length≠0):l.headD 0∈l:=by
 cases l with
 | nil=>simp at h
 | cons a l=>simp
theorem DE {l:List Int} {r v:Int} (h:(gH l r v).2=true):((gH l r v).1.length:Int)≤r:=by
 unfold gH at h ⊢
 split at h
 ·cases h
 ·grind
theorem DF {l:List Int}:(fE l).1.length≤l.length:=by
 unfold fE;split <;> simp
theorem MInv.bJ (h:MInv s) (hg:g < s.gs.length) (st:(aa s g).status=0):MInv (bJ s g).1:=by
 unfold Sx.bJ;simp only
 by_cases k:(ag s g).kind≠2∧(ag s g).kind≠4
 ·grind
 rw [if_neg k];have k2:2≤(ag s g).kind∧(ag s g).kind≤5:=by omega
 by_cases hc:(Sx.common s g).2=true
 ·rw [if_pos hc];exact h.common hg st (.inl (by omega))
 rw [if_neg hc]
 by_cases hm:Sx.aM s (ag s g).ch=false
 ·grind
 rw [if_neg hm];have lA:=nt.1 (show Sx.aM s (ag s g).ch=true by simpa using hm)
 by_cases e1:(aa s g).place=1
 ·rw [if_pos e1]
  split
  ·exact h.fY hg st (by omega) (by omega) (x:={ aa s g with place:=4 }) rfl rfl rfl rfl rfl rfl (by show bn _ 4;unfold bn;omega) (by simp) (by rw [e1];unfold hP;simp)
  ·have pl:=((h.loc hg).pl.resolve_left (by omega)).2;have hk:(aG (aa s g)).kind=(ag s g).kind:=rfl;rw [hk,e1] at pl;exact h.fY hg st (by omega) (by omega) (x:={ aa s g with cz:=s.step,res:=(aa s g).res,place:=2 }) rfl rfl rfl rfl rfl rfl (by show bn _ 2;unfold bn at pl ⊢;omega) (by simp) (by rw [e1];unfold hP;simp)
 rw [if_neg e1]
 by_cases e2:(aa s g).place=2
 ·rw [if_pos e2]
  split
  ·exact h.fY hg st (by omega) (by omega) (x:={ aa s g with cz:=0,place:=4 }) rfl rfl rfl rfl rfl rfl (by show bn _ 4;unfold bn;omega) (by simp) (by rw [e2];unfold hP;simp)
  ·exact h.fY hg st (by omega) (by omega) (x:={ aa s g with res:={ (aa s g).res with code:=2 },place:=18 }) rfl rfl rfl rfl rfl rfl (.inl rfl) (by simp) (by rw [e2];unfold hP;simp)
 rw [if_neg e2]
 by_cases e5:(aa s g).place=5
 ·rw [if_pos e5]
  split
  ·exact h.fY hg st (by omega) (by omega) (x:={ aa s g with cz:=s.step,res:=res 3,place:=16 }) rfl rfl rfl rfl rfl rfl (by show bn _ 16;unfold bn;omega) (by simp) (by rw [e5];unfold hP;simp)
  ·exact h.fY hg st (by omega) (by omega) (x:={ aa s g with place:=6 }) rfl rfl rfl rfl rfl rfl (by show bn _ 6;unfold bn;omega) (by simp) (by rw [e5];unfold hP;simp)
 rw [if_neg e5]
 by_cases e6:(aa s g).place=6
 ·rw [if_pos e6]
  split
  ·exact h.fY hg st (by omega) (by omega) (x:={ aa s g with place:=9 }) rfl rfl rfl rfl rfl rfl (by show bn _ 9;unfold bn;omega) (by simp) (by rw [e6];unfold hP;simp)
  ·rename_i hl;exact h.s6 hg st k2 e6 (.inl (sB hl))
 rw [if_neg e6]
 by_cases e7:(aa s g).place=7
 ·rw [if_pos e7];exact h.s7 hg st k2 e7
 rw [if_neg e7]
 by_cases e8:(aa s g).place=8
 ·rw [if_pos e8];exact h.JM hg st k2 e8 _
 rw [if_neg e8]
 by_cases e9:(aa s g).place=9
 ·rw [if_pos e9]
  split
  ·rename_i hp;exact h.s9 hg st k2 e9 (DE hp) _
  split
  ·exact h.fY hg st (by omega) (by omega) (x:={ aa s g with cz:=s.step,res:=res 2,place:=16 }) rfl rfl rfl rfl rfl rfl (by show bn _ 16;unfold bn;omega) (by simp) (by rw [e9];unfold hP;simp)
  ·exact h.fY hg st (by omega) (by omega) (x:={ aa s g with place:=10 }) rfl rfl rfl rfl rfl rfl (by show bn _ 10;unfold bn;omega) (by simp) (by rw [e9];unfold hP;simp)
 rw [if_neg e9];have hk:(aG (aa s g)).kind=(ag s g).kind:=rfl
 by_cases kS:(aa s g).place=10
 ·rw [if_pos kS];have pl:=((h.loc hg).pl.resolve_left (by omega)).2;rw [hk,kS] at pl;have k3:(ag s g).kind=2:=by unfold bn at pl;omega
  exact h.mq hg st (.inl k3) kS ⟨rfl,rfl,rfl,by simp [k3]⟩
 rw [if_neg kS]
 by_cases jU:(aa s g).place=11
 ·rw [if_pos jU];have pl:=((h.loc hg).pl.resolve_left (by omega)).2;rw [hk,jU] at pl;have k3:(ag s g).kind=2:=by unfold bn at pl;omega
  exact h.pG hg st (.inl k3) jU rfl rfl rfl (by rw [if_pos k3]) (by rw [if_pos k3])
 rw [if_neg jU]
 by_cases iC:(aa s g).place=14
 ·rw [if_pos iC];have pl:=((h.loc hg).pl.resolve_left (by omega)).2;rw [hk,iC] at pl;have k3:(ag s g).kind=2:=by unfold bn at pl;omega
  exact h.DD hg st (.inl k3) iC _
 rw [if_neg iC];exact h
theorem MInv.bF (h:MInv s) (hg:g < s.gs.length) (st:(aa s g).status=0):MInv (bF s g).1:=by
 unfold Sx.bF;simp only
 by_cases k:(ag s g).kind≠3∧(ag s g).kind≠5
 ·grind
 rw [if_neg k];have k2:2≤(ag s g).kind∧(ag s g).kind≤5:=by omega
 by_cases hc:(Sx.common s g).2=true
 ·rw [if_pos hc];exact h.common hg st (.inl (by omega))
 rw [if_neg hc]
 by_cases hm:Sx.aM s (ag s g).ch=false
 ·grind
 rw [if_neg hm];have lA:=nt.1 (show Sx.aM s (ag s g).ch=true by simpa using hm);have hk:(aG (aa s g)).kind=(ag s g).kind:=rfl
 by_cases e1:(aa s g).place=1
 ·rw [if_pos e1]
  split
  ·exact h.fY hg st (by omega) (by omega) (x:={ aa s g with place:=4 }) rfl rfl rfl rfl rfl rfl (by show bn _ 4;unfold bn;omega) (by simp) (by rw [e1];unfold hP;simp)
  ·have pl:=((h.loc hg).pl.resolve_left (by omega)).2;rw [hk,e1] at pl;exact h.fY hg st (by omega) (by omega) (x:={ aa s g with cz:=s.step,res:=(aa s g).res,place:=2 }) rfl rfl rfl rfl rfl rfl (by show bn _ 2;unfold bn at pl ⊢;omega) (by simp) (by rw [e1];unfold hP;simp)
 rw [if_neg e1]
 by_cases e2:(aa s g).place=2
 ·rw [if_pos e2];have pl:=((h.loc hg).pl.resolve_left (by omega)).2;rw [hk,e2] at pl
  split
  ·exact h.fY hg st (by omega) (by omega) (x:={ aa s g with place:=3 }) rfl rfl rfl rfl rfl rfl (by show bn _ 3;unfold bn at pl ⊢;omega) (by simp) (by rw [e2];unfold hP;simp)
  ·exact h.fY hg st (by omega) (by omega) (x:={ aa s g with res:={ (aa s g).res with code:=2 },place:=18 }) rfl rfl rfl rfl rfl rfl (.inl rfl) (by simp) (by rw [e2];unfold hP;simp)
 rw [if_neg e2]
 by_cases e3:(aa s g).place=3
 ·rw [if_pos e3]
  split
  ·exact h.fY hg st (by omega) (by omega) (x:={ aa s g with cz:=0,place:=4 }) rfl rfl rfl rfl rfl rfl (by show bn _ 4;unfold bn;omega) (by simp) (by rw [e3];unfold hP;simp)
  ·exact h.fY hg st (by omega) (by omega) (x:={ aa s g with cz:=s.step,res:=dI 0 false,place:=18 }) rfl rfl rfl rfl rfl rfl (.inl rfl) (by simp) (by rw [e3];unfold hP;simp)
 rw [if_neg e3]
 by_cases e5:(aa s g).place=5
 ·rw [if_pos e5]
  split
  ·exact h.fY hg st (by omega) (by omega) (x:={ aa s g with cz:=s.step,res:=dI 0 false,place:=16 }) rfl rfl rfl rfl rfl rfl (by show bn _ 16;unfold bn;omega) (by simp) (by rw [e5];unfold hP;simp)
  split
  ·exact h.fY hg st (by omega) (by omega) (x:={ aa s g with place:=9 }) rfl rfl rfl rfl rfl rfl (by show bn _ 9;unfold bn;omega) (by simp) (by rw [e5];unfold hP;simp)
  ·exact h.fY hg st (by omega) (by omega) (x:={ aa s g with place:=6 }) rfl rfl rfl rfl rfl rfl (by show bn _ 6;unfold bn;omega) (by simp) (by rw [e5];unfold hP;simp)
 rw [if_neg e5]
 by_cases e6:(aa s g).place=6
 ·rw [if_pos e6]
  split
  ·exact h.fY hg st (by omega) (by omega) (x:={ aa s g with place:=9 }) rfl rfl rfl rfl rfl rfl (by show bn _ 9;unfold bn;omega) (by simp) (by rw [e6];unfold hP;simp)
  ·rename_i hl;exact h.s6 hg st k2 e6 (.inr (sB hl))
 rw [if_neg e6]
 by_cases e7:(aa s g).place=7
 ·rw [if_pos e7];exact h.s7 hg st k2 e7
 rw [if_neg e7]
 by_cases e8:(aa s g).place=8
 ·rw [if_pos e8];exact h.JN hg st k2 e8
 rw [if_neg e8]
 by_cases e9:(aa s g).place=9
 ·rw [if_pos e9]
  split
  ·have hc:=h.fH lA.1 lA.2;exact h.s9 hg st k2 e9 (by have:=DF (l:=(cn s (ag s g).ch).buf);omega) _
  split
  ·exact h.fY hg st (by omega) (by omega) (x:={ aa s g with cz:=s.step,res:=res 2,place:=16 }) rfl rfl rfl rfl rfl rfl (by show bn _ 16;unfold bn;omega) (by simp) (by rw [e9];unfold hP;simp)
  ·exact h.fY hg st (by omega) (by omega) (x:={ aa s g with place:=10 }) rfl rfl rfl rfl rfl rfl (by show bn _ 10;unfold bn;omega) (by simp) (by rw [e9];unfold hP;simp)
 rw [if_neg e9]
 by_cases kS:(aa s g).place=10
 ·rw [if_pos kS];have pl:=((h.loc hg).pl.resolve_left (by omega)).2;rw [hk,kS] at pl;have k3:(ag s g).kind=3:=by unfold bn at pl;omega
  exact h.mq hg st (.inr k3) kS ⟨rfl,rfl,rfl,by simp [k3]⟩
 rw [if_neg kS]
 by_cases jU:(aa s g).place=11
 ·rw [if_pos jU];have pl:=((h.loc hg).pl.resolve_left (by omega)).2;rw [hk,jU] at pl;have k3:(ag s g).kind=3:=by unfold bn at pl;omega
  exact h.pG hg st (.inr k3) jU rfl rfl rfl (by rw [if_neg (by omega)]) (by rw [if_neg (by omega)])
 rw [if_neg jU]
 by_cases iC:(aa s g).place=14
 ·rw [if_pos iC];have pl:=((h.loc hg).pl.resolve_left (by omega)).2;rw [hk,iC] at pl;have k3:(ag s g).kind=3:=by unfold bn at pl;omega
  exact h.DD hg st (.inr k3) iC _
 rw [if_neg iC];exact h
end Sx
namespace Sx
variable {s t:ah} {g:Nat} {nc ns n:Int}
theorem DH {s:ah} {g o:Nat} {i c:Int} (hg:g < s.gs.length) (ho:o < s.gs.length) (hi:(aa s g).hold=i) (so:(su s i).g=o) (sc:(su s i).ch=c) (c0:1≤c) (c1:c≤s.ax.length) (cq:o≠g) :
  gO s g=ai (bg (ai (aF s c (bT (cn s c) i)) o { aa s o with cz:=s.step,dc:=(su s i).cs,param:=i }) i { su s i with done:=false }) g { aa s g with t:=s.step,an:=(aa s g).an ++ [(o:Int)],hold:=-1 }:=by
 subst hi;have e1:bE (ai s g { aa s g with t:=s.step }) (aa s g).hold=aF (ai s g { aa s g with t:=s.step }) c (bT (cn s c) (aa s g).hold):=drop_eq (s:=ai s g { aa s g with t:=s.step }) sc c0 c1;have e0:∀ s1,bE (ai s g { aa s g with t:=s.step }) (aa s g).hold=s1→gO s g=serve (ai s1 (su s1 (aa s g).hold).g.toNat { aa s1 (su s1 (aa s g).hold).g.toNat with cz:=(aa s1 g).t,dc:=(su s1 (aa s g).hold).cs }) g (aa s g).hold false:=fun s1 h=>by subst h;rfl
 rw [e0 _ e1];generalize (aa s g).hold=i at *;have l1:∀ x,(aF (ai s g x) c (bT (cn s c) i)).gs.length=s.gs.length:=fun x=>by show (ai s g x).gs.length=_;rw [fQ]
 have es:∀ x,su (aF (ai s g x) c (bT (cn s c) i)) i=su s i:=fun _=>rfl
 have g1:∀ x,aa (aF (ai s g x) c (bT (cn s c) i)) g=x:=fun x=>by rw [wJ,gD hg,if_pos rfl]
 have g2:∀ x,aa (aF (ai s g x) c (bT (cn s c) i)) o=aa s o:=fun x=>by rw [wJ,gD hg,if_neg cq]
 rw [es,so,Int.toNat_natCast,g1,g2];rw [uE (o:=o) (by rw [fQ,l1];exact hg) (by rw [fQ,l1];exact ho) (by show (su s i).g=o;exact so) cq];have g3:∀ x y,aa (ai (aF (ai s g x) c (bT (cn s c) i)) o y) o=y:=fun x y=>by rw [gD (by rw [l1];exact ho),if_pos rfl]
 have g4:∀ x y,aa (ai (aF (ai s g x) c (bT (cn s c) i)) o y) g=x:=fun x y=>by rw [gD (by rw [l1];exact ho),if_neg (by omega),g1]
 rw [g3,g4];unfold ai bg aF;simp only [List.set_set];rw [wO cq];rfl
theorem MInv.DI (h:MInv s) (hg:g < s.gs.length) (st:(aa s g).status=0) (k:(ag s g).kind=6) (e:(aa s g).place=22∨(aa s g).place=23) {o:Nat} {i c:Int} {x y:Gr} (q:sq s g c i o) (c0:1≤c) (c1:c≤s.ax.length) (hq:i∈(cn s c).recv∨i∈(cn s c).send) (cq:o≠g) (hh:bh (aa s g) c)
  (hp:(su s i).cs < 0∨0≤(su s i).cs∧(aa s o).bp=false∧y.bp=true) (py:Part (aa s o) y) (e1:y.param=i) (e2:y.token=(aa s o).token) (e3:y.status=(aa s o).status) (e4:(aa s o).bp=true→y.bp=true)
  (h1:x.ops=(aa s g).ops) (h2:x.at_=(aa s g).at_) (h3:x.status=(aa s g).status) (h4:x.token=(aa s g).token) (h5:x.param=(aa s g).param) (h6:x.an=(aa s g).an ++ [(o:Int)]) (h7:x.place=22) {d:Su}
  (hd:d.g=(su s i).g∧d.ch=(su s i).ch∧d.cs=(su s i).cs∧d.send=(su s i).send∧d.live=(su s i).live) :
  MInv (ai (bg (ai (aF s c (bT (cn s c) i)) o y) i d) g x):=by
 have hk:(aG (aa s g)).kind=(ag s g).kind:=rfl;have L:=h.loc hg;have G:fG (aa s g) { x with an:=(aa s g).an }:=by
  refine ⟨h1,h2,h3,h4,h5,rfl,by unfold SE;omega,st,by omega,by omega,by simp only;omega,?_,?_,?_,?_⟩
  ·show bn _ x.place;rw [h7];unfold bn;omega
  ·grind
  ·simp only;omega
  ·grind
 have DJ:Wt (aa s o)∧(aa s o).param=-1:=by
  have Lo:=h.loc q.o1;rcases hp with hp | hp
  ·rcases q.q with w | w
   ·exact ⟨.inl ⟨w.1,w.2.1,w.2.2.1⟩,w.2.2.2.2⟩
   ·omega
  ·have iK:SE (aa s o):=by
    rcases q.mt with m | m
    ·omega
    ·exact m.1
   refine ⟨?_,?_⟩
   ·have:=Inv.Dg h.v c0 c1 hq (g:=g) (by omega) (by omega) (by rw [dY];exact hh) (by rw [q.g_];omega);rw [q.g_,dY] at this;rcases this with w | w
    ·exact w
    ·grind
   ·by_cases z:0≤(aa s o).param
    ·have:=Lo.p3 z iK;rw [hp.2.1] at this;cases this
    ·have:=Lo.p0;omega
 have DK:(o:Int)∉(aa s g).an:=by
  intro w;have:=Inv.wk h.v g (by omega) (by omega) o (by rw [dY];exact w);rw [dY] at this;omega
 have G1:=G.loc L (by simp only;omega);have kR:=L.w3;have lx:Loc s.ax.length s.aD.length s.gs.length x:=by
  have:=G1.zM (l:=(aa s g).an ++ [(o:Int)]) (.inr (.inr (.inl h7))) (fun p hp=>by
   rcases List.mem_append.1 hp with w | w
   ·exact kR p w
   ·have:=List.mem_singleton.1 w;have:=q.o1;omega) (List.nodup_append.2 ⟨L.w4,by simp,fun a ha b hb=>by rw [List.mem_singleton.1 hb];exact fun z=>DK (z ▸ ha)⟩) (by simp)
  rw [← h6] at this;exact this
 have uF:∀ i,¬ Own x i:=by
  have ho:aG x=aG (aa s g):=by unfold aG;rw [h1,h2]
  rintro i ⟨_,w | w⟩
  ·have:=w.2.2.1;omega
  ·have:=w.1;unfold SE at this;rw [ho] at this;omega
 have nF:∀ ch,bh x ch↔bh (aa s g) ch:=by
  intro ch;have:=G.hh (by show hP _↔hP x.place;rw [h7];unfold hP;omega) ch;exact this
 refine h.zI hg c0 c1 lx ⟨.inl ⟨rfl,nF⟩,h.fH c0 c1,⟨gU,gU⟩,.inr hh⟩ (fun i=>⟨fun w=>absurd w (uF i),fun w=>absurd w (G.own i).1⟩) (fun i d w=>absurd w (uF i)) G.nq (by unfold cj;omega) (by unfold cG;omega) (fun z hz=>?_) G.nw q.ch q.g_ q.o1 cq DJ.1 DJ.2 q.own (fun w=>?_) ⟨lI,lI⟩ ?_ py e1 e2 e3 h2 hd
 ·grind
 ·rcases hp with hp | hp
  ·rcases q.mt with m | m
   ·exact absurd w m.1.ne
   ·omega
  ·exact hp.2.2
 ·intro k a b cl ek;have:=Inv.cl h.v k (by omega) (by omega);rw [dY] at this;obtain ⟨s1,s2,s3,s4,s5,s6,s7,s8,s9,mq,pG⟩:=this cl;rw [ek,dY] at s7 s8 s9 mq pG;rcases hp with hp | hp
  ·rcases q.mt with m | m
   ·have k1:=pG m.1;have e5:(aa s k).hold=i:=by
     have m1:=s9.2;have m2:=q.own.2;rcases m1 with m1 | m1
     ·rcases m2 with m2 | m2
      ·omega
      ·exact absurd m2.1 m.1.ne
     ·exact absurd m1.1 m.1.ne
    rw [e5,q.ch] at k1;rcases hq with hq | hq
    ·exact k1.1 hq
    ·exact k1.2 hq
   ·omega
  ·have iK:SE (aa s o):=by
    rcases q.mt with m | m
    ·omega
    ·exact m.1
   have:=mq iK;rw [hp.2.1] at this;cases this
theorem MInv.drain (h:MInv s) (hg:g < s.gs.length) (st:(aa s g).status=0) (k:(ag s g).kind=6) (e:(aa s g).place=22) {i:Int} (hq:i∈(cn s (ag s g).ch).recv∨i∈(cn s (ag s g).ch).send):MInv (j9 s g i):=by
 have hk:(aG (aa s g)).kind=(ag s g).kind:=rfl;obtain ⟨c0,c1⟩:=h.oE hg (by omega) (by omega);have L:=h.loc hg;obtain ⟨o,q⟩:=h.sv (g:=g) c0 c1 hq;have hh:bh (aa s g) (ag s g).ch:=.inl ⟨by omega,by omega,rfl,by omega⟩;have G:fG (aa s g) { aa s g with hold:=i,place:=23 }:=by
  refine ⟨rfl,rfl,rfl,rfl,rfl,rfl,by unfold SE;omega,st,by omega,by omega,by simp,?_,?_,?_,?_⟩
  ·show bn _ 23;unfold bn;omega
  ·grind
  ·simp only;omega
  ·simp
 have cq:=q.ne h G.nq;unfold j9;simp only;have es:su (ai s g { aa s g with hold:=i }) i=su s i:=rfl;rw [es]
 by_cases hn:0≤(su s i).cs
 ·rw [if_pos hn,lH _ _ _ _ hg];refine h.self hg (G.sf L (fun _=>⟨q.i0,q.i1⟩) ?_ (by simp)) rfl (fun _=>?_)
  ·rw [e];unfold hP;simp
  ·simp only;rw [q.ch];exact ⟨c0,c1,.inl ⟨by show 2≤(aG (aa s g)).kind;omega,by show (aG (aa s g)).kind≤6;omega,rfl,by simp⟩,hq,hn⟩
 ·rw [if_neg hn];have l1:(ai s g { aa s g with hold:=i }).gs.length=s.gs.length:=fQ;have gg:aa (ai s g { aa s g with hold:=i }) g={ aa s g with hold:=i }:=by rw [gD hg,if_pos rfl]
  have go:aa (ai s g { aa s g with hold:=i }) o=aa s o:=by rw [gD hg,if_neg cq]
  rw [DH (s:=ai s g { aa s g with hold:=i }) (i:=i) (by rw [l1];exact hg) (by rw [l1];exact q.o1) (by rw [gg]) q.g_ q.ch c0 c1 cq,gg,go,es];have ef:∀ y d x,ai (bg (ai (aF (ai s g { aa s g with hold:=i }) (ag s g).ch (bT (cn (ai s g { aa s g with hold:=i }) (ag s g).ch) i)) o y) i d) g x=ai (bg (ai (aF s (ag s g).ch (bT (cn s (ag s g).ch) i)) o y) i d) g x:=by
   intro y d x;unfold ai bg aF;simp only;rw [wO cq];rfl
  rw [ef];exact h.DI hg st k (.inl e) (x:={ aa s g with t:=s.step,an:=(aa s g).an ++ [(o:Int)],hold:=-1 }) (y:={ aa s o with cz:=s.step,dc:=(su s i).cs,param:=i }) q c0 c1 hq cq hh (.inl (by omega)) ⟨rfl,rfl,rfl,rfl,rfl,rfl,rfl,rfl,rfl,rfl,rfl⟩ rfl rfl rfl id rfl rfl rfl rfl rfl rfl e ⟨rfl,rfl,rfl,rfl,rfl⟩
theorem MInv.kZ (h:MInv s) (hg:g < s.gs.length) (st:(aa s g).status=0) (k:(ag s g).kind=6) (e:(aa s g).place=23):MInv (kZ s g):=by
 have hk:(aG (aa s g)).kind=(ag s g).kind:=rfl;have L:=h.loc hg;have G:fG (aa s g) { aa s g with hold:=-1,place:=22 }:=by
  refine ⟨rfl,rfl,rfl,rfl,rfl,rfl,by unfold SE;omega,st,by omega,by omega,by simp,?_,?_,?_,?_⟩
  ·show bn _ 22;unfold bn;omega
  ·grind
  ·simp only;omega
  ·simp
 obtain ⟨o,q,c0,c1,hh,hq,kz⟩:=h.zJ hg (.inr (.inl e));have cq:o≠g:=q.ne h G.nq;unfold Sx.kZ;simp only [q.g_,Int.toNat_natCast]
 cases hp:(aa s o).bp with
 | true =>
  rw [if_pos rfl,drop_eq rfl c0 c1];exact h.r8 hg G c0 c1 ⟨.inl ⟨rfl,G.hh (by rw [e];unfold hP;simp)⟩,h.fH c0 c1,⟨gU,gU⟩,.inr hh⟩ (by unfold cj;simp) (by simp)
 | false =>
  rw [if_neg (by simp)];have l1:(ai s o { aa s o with bp:=true }).gs.length=s.gs.length:=fQ;have gg:aa (ai s o { aa s o with bp:=true }) g=aa s g:=by rw [gD q.o1,if_neg (by omega)]
  have go:aa (ai s o { aa s o with bp:=true }) o={ aa s o with bp:=true }:=by rw [gD q.o1,if_pos rfl]
  have es:su (ai s o { aa s o with bp:=true }) (aa s g).hold=su s (aa s g).hold:=rfl;rw [DH (s:=ai s o { aa s o with bp:=true }) (i:=(aa s g).hold) (by rw [l1];exact hg) (by rw [l1];exact q.o1) (by rw [gg]) q.g_ q.ch c0 c1 cq,gg,go,es];rw [lH _ _ _ _ (by simp only [bg,ai,aF,List.length_set];exact hg)];have ef:∀ y d x c,ai (bg (ai (aF (ai s o { aa s o with bp:=true }) c (bT (cn (ai s o { aa s o with bp:=true }) c) (aa s g).hold)) o y) (aa s g).hold d) g x=ai (bg (ai (aF s c (bT (cn s c) (aa s g).hold)) o y) (aa s g).hold d) g x:=by
   intro y d x c;unfold ai bg aF;simp only [List.set_set];rfl
  rw [ef];exact h.DI hg st k (.inr e) (x:={ aa s g with t:=s.step,an:=(aa s g).an ++ [(o:Int)],hold:=-1,place:=22 }) (y:={ aa s o with bp:=true,cz:=s.step,dc:=(su s (aa s g).hold).cs,param:=(aa s g).hold }) q c0 c1 hq cq hh (.inr ⟨kz,hp,rfl⟩) ⟨rfl,rfl,rfl,rfl,rfl,rfl,rfl,rfl,rfl,rfl,rfl⟩ rfl rfl rfl (fun _=>rfl) rfl rfl rfl rfl rfl rfl rfl ⟨rfl,rfl,rfl,rfl,rfl⟩
theorem MInv.dh (h:MInv s) (hg:g < s.gs.length) (st:(aa s g).status=0):MInv (dh s g).1:=by
 unfold Sx.dh;simp only
 by_cases k:(ag s g).kind≠6
 ·grind
 rw [if_neg k];have k6:(ag s g).kind=6:=by omega
 have hk:(aG (aa s g)).kind=(ag s g).kind:=rfl
 by_cases hc:(Sx.common s g).2=true
 ·rw [if_pos hc];exact h.common hg st (.inl (by omega))
 rw [if_neg hc]
 by_cases hm:Sx.aM s (ag s g).ch=false
 ·grind
 rw [if_neg hm];have lA:=nt.1 (show Sx.aM s (ag s g).ch=true by simpa using hm)
 by_cases e1:(aa s g).place=21
 ·rw [if_pos e1]
  split
  ·exact h.fY hg st (by omega) (by omega) (x:={ aa s g with cz:=s.step,res:=res 4,place:=16 }) rfl rfl rfl rfl rfl rfl (by show bn _ 16;unfold bn;omega) (by simp) (by rw [e1];unfold hP;simp)
  ·have hc:=h.fH lA.1 lA.2;have G:=h.zO hg st (by omega) (by omega) (x:={ aa s g with cz:=s.step,res:=me,place:=22 }) rfl rfl rfl rfl rfl rfl (by show bn _ 22;unfold bn;omega) (by simp);exact h.r8 hg G lA.1 lA.2 (c':={ cn s (ag s g).ch with closed:=true }) ⟨.inl ⟨rfl,G.hh (by rw [e1];unfold hP;simp)⟩,hc,⟨List.Sublist.refl _,List.Sublist.refl _⟩,.inl ⟨rfl,rfl⟩⟩ (by unfold cj;simp) (by simp)
 rw [if_neg e1]
 by_cases e2:(aa s g).place=22
 ·rw [if_pos e2]
  by_cases q1:0 < (cn s (ag s g).ch).recv.length
  ·rw [if_pos q1];exact h.drain hg st k6 e2 (.inl (sB (by omega)))
  rw [if_neg q1]
  by_cases q2:0 < (cn s (ag s g).ch).send.length
  ·rw [if_pos q2];exact h.drain hg st k6 e2 (.inr (sB (by omega)))
  rw [if_neg q2];have G:fG (aa s g) { aa s g with place:=16 }:=by
   refine ⟨rfl,rfl,rfl,rfl,rfl,rfl,by unfold SE;omega,st,by omega,by omega,by simp,?_,?_,?_,?_⟩
   ·show bn _ 16;unfold bn;omega
   ·grind
   ·simp only;omega
   ·simp
  exact h.Di hg G (by rw [e2];unfold hP;simp) (by unfold cj;simp) (by simp)
 rw [if_neg e2]
 by_cases e3:(aa s g).place=23
 ·rw [if_pos e3];exact h.kZ hg st k6 e3
 rw [if_neg e3];exact h
end Sx
namespace Sx
variable {s t:ah} {g:Nat} {nc ns n:Int}
theorem Sf.out {x y:Gr} (lx:Loc nc ns n y) (ox:∀ i,¬ Own x i) (oy:∀ i,¬ Own y i) (qx:∀ i j,¬ dB x i j) (hx:∀ ch,¬ bh x ch) (hy:∀ ch,¬ bh y ch) (wx:¬ Wt x) (fh:¬ cG y) (wk:y.an=[]):Sf nc ns n x y :=
 ⟨lx,fun ch=>⟨fun w=>absurd w (hy ch),fun w=>absurd w (hx ch)⟩,fun i=>⟨fun w=>absurd w (oy i),fun w=>absurd w (ox i)⟩,fun i d w=>absurd w (oy i),fun i j w=>absurd w (qx i j),fh,fun q=>by rw [wk];simp,fun w=>absurd w.1 wx,fun w=>absurd w.1 wx⟩
def di (p:Int):Prop:=p=0∨p=1∨p=2∨p=3∨p=4∨p=17∨p=18∨p=19∨p=20
theorem di.own {x:Gr} (h:di x.place) (i:Int):¬ Own x i:=by
 rintro ⟨_,w | w⟩
 ·have:=w.2.1;have:=w.2.2.1;unfold di at h;omega
 ·have:=w.2.1;unfold di at h;omega
theorem di.q {x:Gr} (h:di x.place) (i j:Int):¬ dB x i j:=by
 rintro (w | w)
 ·have:=w.2.1;have:=w.2.2.1;unfold di at h;omega
 ·have:=w.2.2.2.2;unfold di at h;omega
theorem di.holds {x:Gr} (h:di x.place) (c:Int):¬ bh x c:=by
 rintro (w | w)
 ·have:=w.2.2.2;unfold di at h;omega
 ·have:=w.2;unfold di at h;omega
theorem di.wt {x:Gr} (h:di x.place):¬ Wt x:=by
 rintro (w | w)
 ·have:=w.2;unfold di at h;omega
 ·have:=w.2;unfold di at h;omega
theorem di.fh {x:Gr} (h:di x.place):¬ cG x:=by unfold cG;unfold di at h;omega
theorem di.nw {x:Gr} (h:di x.place):¬ cj x:=by unfold cj;unfold di at h;omega
theorem di.pm {x:Gr} (h:di x.place) (L:Loc nc ns n x):x.param=-1∧x.token=false:=by
 constructor
 ·have:=L.p0
  by_cases c:0≤x.param
  ·exact absurd (L.p2 c).1 h.wt
  ·omega
 ·cases c:x.token
  ·rfl
  ·exact absurd (L.tk c).1 h.wt
theorem Sf.outs {x y:Gr} (lx:Loc nc ns n y) (hx:di x.place) (hy:di y.place) (wk:y.an=[]):Sf nc ns n x y :=
 .out lx hx.own hy.own hx.q hx.holds hy.holds hx.wt hy.fh wk
theorem Loc.fresh {x y:Gr} (L:Loc nc ns n x) (h1:y.ops=x.ops) (h2:y.at_=x.at_) (lt:x.at_ < x.ops.length) (ok:bn (aG x).kind y.place) (hp:y.place=1∨y.place=4∨y.place=18∨y.place=20∨y.place=19) (hs:y.place=19∧y.status=1∨y.place≠19∧y.status=0) (ht:y.token=false) (pm:y.param=-1) (wk:y.an=[])
  (mk:y.place=1∨y.place=4→1≤(aG x).ch∧(aG x).ch≤nc) (Qq:y.place=20→(aG x).kind=1∨7≤(aG x).kind) (pM:0≤ns):Loc nc ns n y:=by
 have ho:aG y=aG x:=by unfold aG;rw [h1,h2]
 have Qr:di y.place:=by unfold di;omega
 have fO:=L.fO
 constructor
 ·rw [h1];exact L.lB
 ·rw [h1];exact fO
 ·rw [h2];exact L.a0
 ·grind
 ·grind
 ·grind
 ·omega
 ·omega
 ·omega
 ·omega
 ·rw [ht];simp
 ·rw [wk];simp
 ·omega
 ·rw [wk];simp
 ·rw [wk];simp
 ·omega
 ·omega
 ·rw [pm];omega
 ·omega
 ·rw [pm];omega
 ·rw [pm];omega
 ·intro _ c;unfold cZ at c;omega
theorem MInv.gX (h:MInv s):(0:Int)≤s.aD.length:=by omega
theorem swap_perm (l:List Int) (i j:Nat) (hi:i < l.length) (hj:j < l.length):(swap l i j).Perm l:=by
 unfold swap;rw [List.getD_eq_getElem?_getD,List.getD_eq_getElem?_getD,List.getElem?_eq_getElem hi,List.getElem?_eq_getElem hj];simp only [Option.getD_some];exact List.set_set_perm hi hj
theorem wP (ds:List Int):∀ n:Nat,(dA ds n).Perm ((List.range n).map Int.ofNat)
 | 0=>by simp [dA]
 | n + 1=>by
  have ih:=wP ds n;have hl:(dA ds n).length=n:=by have:=ih.length_eq;simpa using this
  unfold dA;have hm:(ds.getD n 0 % ((n:Int) + 1)).toNat < n + 1:=by
   have h1:=Int.emod_nonneg (ds.getD n 0) (show ((n:Int) + 1)≠0 by omega);have h2:=Int.emod_lt_of_pos (ds.getD n 0) (show (0:Int) < (n:Int) + 1 by omega);omega
  refine (swap_perm _ _ _ (by rw [List.length_append,hl];exact hm) (by rw [List.length_append,hl];exact Nat.lt_succ_self n)).trans ?_;rw [List.range_succ,List.map_append];exact ih.append_right _
theorem JP (ds:List Int) (n:Nat) (i:Int):i∈dA ds n↔0≤i∧i < n:=by
 rw [(wP ds n).mem_iff];simp only [List.mem_map,List.mem_range]
 constructor
 ·grind
 ·rintro ⟨h1,h2⟩;exact ⟨i.toNat,by omega,by simp;omega⟩
theorem JQ (ds:List Int) (n:Nat):(dA ds n).Nodup:=by
 rw [(wP ds n).nodup_iff];exact List.pairwise_map.2 (List.nodup_range.imp (fun h e=>h (Int.ofNat.inj e)))
theorem insert_perm (x:Int):∀ l,(insert x l).Perm (x :: l)
 | []=>List.Perm.refl _
 | y :: l=>by
  unfold insert
  split
  ·exact ((insert_perm x l).cons y).trans (List.Perm.swap x y l)
  ·exact List.Perm.refl _
theorem insert_sorted (x:Int):∀ l:List Int,l.Pairwise (·≤·)→(insert x l).Pairwise (·≤·)
 | [],_=>by simp [insert]
 | y :: l,h=>by
  unfold insert;have h2:=List.pairwise_cons.1 h
  split
  ·rename_i c;refine List.pairwise_cons.2 ⟨fun z hz=>?_,insert_sorted x l h2.2⟩;rcases List.mem_cons.1 ((insert_perm x l).mem_iff.1 hz) with w | w
   ·omega
   ·exact h2.1 z w
  ·rename_i c;refine List.pairwise_cons.2 ⟨fun z hz=>?_,h⟩;rcases List.mem_cons.1 hz with w | w
   ·omega
   ·have:=h2.1 z w;omega
theorem JR (l:List Int):∀ acc:List Int,acc.Pairwise (·≤·)→(l.foldl (fun acc x=>insert x acc) acc).Pairwise (·≤·)∧∀ x,x∈l.foldl (fun acc x=>insert x acc) acc↔x∈acc∨x∈l:=by
 induction l with
 | nil=>intro acc h;simp [h]
 | cons y l ih =>
  intro acc h;have:=ih (insert y acc) (insert_sorted y acc h);simp only [List.foldl_cons];refine ⟨this.1,fun x=>?_⟩;rw [this.2,(insert_perm y acc).mem_iff];simp only [List.mem_cons]
  grind
theorem JU (l:List Int):∀ acc:List Int,acc.Pairwise (· < ·)→(∀ x∈acc,0 < x)→l.Pairwise (·≤·)→(∀ x∈acc,∀ y∈l,x≤y)→(l.foldl fV acc).Pairwise (· < ·)∧∀ x,x∈l.foldl fV acc↔x∈acc∨x∈l∧0 < x:=by
 induction l with
 | nil=>intro acc h h0 _ _;simp [h]
 | cons y l ih =>
  intro acc h h0 hl hle;have lZ:=List.pairwise_cons.1 hl;simp only [List.foldl_cons];have DL:0 < acc.length→acc.getLastD 0∈acc:=fun hp=>by
   cases acc with
   | nil=>simp at hp
   | cons a b=>simp [List.getLastD]
  unfold fV
  split
  ·rename_i c;have:=ih acc h h0 lZ.2 (fun x hx z hz=>hle x hx z (List.mem_cons_of_mem _ hz));unfold fV at this;refine ⟨this.1,fun x=>?_⟩;rw [this.2];simp only [List.mem_cons]
   constructor
   ·rintro (w | w)
    ·exact .inl w
    ·exact .inr ⟨.inr w.1,w.2⟩
   ·rintro (w | ⟨w | w,w2⟩)
    ·exact .inl w
    ·subst w;rcases c with c | c
     ·omega
     ·exact .inl (c.2 ▸ DL c.1)
    ·exact .inr ⟨w,w2⟩
  ·rename_i c;have hy:0 < y:=by omega
   have fo:∀ x∈acc,x < y:=by
    intro x hx;have h1:=hle x hx y (by simp);have h2:acc.getLastD 0≠y:=fun e=>c (.inr ⟨List.length_pos_iff.2 (List.ne_nil_of_mem hx),e⟩)
    by_cases q:x=y
    ·exfalso
     subst q;have hp:0 < acc.length:=List.length_pos_iff.2 (List.ne_nil_of_mem hx);have h3:=hle _ (DL hp) x (by simp);have ha:=Po.yI (List.ne_nil_of_mem hx);generalize acc.getLastD 0=z at *;rw [ha] at h hx;rcases List.mem_append.1 hx with w | w
     ·grind
     ·grind
    ·omega
   have:=ih (acc ++ [y]) (List.pairwise_append.2 ⟨h,by simp,fun a ha b hb=>by rw [List.mem_singleton.1 hb];exact fo a ha⟩) (fun x hx=>by
    rcases List.mem_append.1 hx with w | w
    ·exact h0 x w
    ·rw [List.mem_singleton.1 w];exact hy) lZ.2 (fun x hx z hz=>by
    rcases List.mem_append.1 hx with w | w
    ·exact hle x w z (List.mem_cons_of_mem _ hz)
    ·rw [List.mem_singleton.1 w];exact lZ.1 z hz)
   unfold fV at this;refine ⟨this.1,fun x=>?_⟩;rw [this.2];simp only [List.mem_append,List.mem_singleton,List.mem_cons,List.not_mem_nil,or_false]
   constructor
   ·rintro ((w | w) | w)
    ·exact .inl w
    ·subst w;exact .inr ⟨.inl rfl,hy⟩
    ·exact .inr ⟨.inr w.1,w.2⟩
   ·rintro (w | ⟨w | w,w2⟩)
    ·exact .inl (.inl w)
    ·exact .inl (.inr w)
    ·exact .inr ⟨w,w2⟩
theorem zP (l:List Int):(aC l).Pairwise (· < ·)∧∀ x,x∈aC l↔x∈l∧0 < x:=by
 have h1:=JR l [] List.Pairwise.nil;have h2:=JU (sort l) [] List.Pairwise.nil (by simp) h1.1 (by simp);refine ⟨h2.1,fun x=>?_⟩;have:=h2.2 x;unfold aC;rw [this];have h3:=h1.2 x;unfold sort;rw [h3];simp
theorem DM (s:ah) (h0:0≤s.drawn) (h1:s.drawn≤s.cD.length):∀ n,s.drawn≤(drawn s n).2∧(drawn s n).2≤s.cD.length
 | 0=>⟨Int.le_refl _,h1⟩
 | n + 1=>by
  have ih:=DM s h0 h1 n;unfold drawn draw
  split
  ·exact ih
  ·simp only;omega
end Sx
namespace Sx
variable {s t:ah} {g:Nat} {nc ns n:Int}
theorem MInv.JV (h:MInv s) {d:Int} (d0:0≤d) (d1:d≤s.cD.length):MInv { s with drawn:=d } :=
 ⟨h.v,h.n1,h.n8,h.c8,h.sn,h.jT,h.c1,h.pH,h.ca,h.f0,h.po,d0,d1,h.du,h.d5,h.dn⟩
theorem MInv.outs (h:MInv s) (hg:g < s.gs.length) {y:Gr} (lx:Loc s.ax.length s.aD.length s.gs.length y) (hx:di (aa s g).place) (hy:di y.place) (wk:y.an=[]) (ha:y.at_=(aa s g).at_):MInv (ai s g y) :=
 h.self hg (.outs lx hx hy wk) ha (fun w=>absurd w hy.nw)
theorem lJ {x y:Gr}:ai (ai s g x) g y=ai s g y:=by unfold ai;simp only [List.set_set]
theorem JX (hg:g < s.gs.length) (st:(aa s g).status=0) (ht:(aa s g).token=false):never s g=ai s g { aa s g with place:=19,status:=1 }:=by
 unfold never fT aO;simp only [gK s g g _ hg,if_true,st,ht];rw [if_neg (by simp),lJ]
theorem zQ (s:ah) (g:Nat) (x:Gr) (r:Md.ak) (p:Int) (hg:g < s.gs.length):bG (ai s g x) g r p=ai s g { x with cz:=s.step,res:=r,place:=p }:=by
 unfold bG;rw [gK s g g x hg,if_pos rfl,lJ];rfl
theorem DN (s:ah) (g:Nat) (x:Gr) (hg:g < s.gs.length) (st:x.status=0) (ht:x.token=false):never (ai s g x) g=ai s g { x with place:=19,status:=1 }:=by
 have e:aa (ai s g x) g=x:=by rw [gK s g g x hg,if_pos rfl]
 rw [JX (by rw [fQ];exact hg) (by rw [e];exact st) (by rw [e];exact ht),e,lJ]
theorem Loc.JY {x y:Gr} (L:Loc nc ns n x) (h1:y.ops=x.ops) (h2:y.at_=x.at_) (lt:x.at_ < x.ops.length) (k:(aG x).kind=9) (e:y.place=24) (st:y.status=0) (ht:y.token=false) (pm:y.param=-1) (wk:y.an=[]) (ek:y.k=0) (es:y.au=[]) (er:y.res.code=0) (pM:0≤ns)
  (o1:∀ i∈y.order,0≤i∧i < (aG x).cases.length∧bL x i∈y.aC) (o2:y.order.Nodup) (o3:1≤y.order.length) (l1:∀ c∈y.aC,1≤c∧c≤nc) (l2:y.aC.Pairwise (· < ·)) (l3:1≤y.aC.length):Loc nc ns n y:=by
 have ho:aG y=aG x:=by unfold aG;rw [h1,h2]
 have hc:∀ j,bL y j=bL x j:=fun j=>by unfold bL;rw [ho]
 have fO:=L.fO
 constructor
 ·rw [h1];exact L.lB
 ·rw [h1];exact fO
 ·rw [h2];exact L.a0
 ·grind
 ·rw [h1,h2,ho,e];exact .inr ⟨lt,by unfold bn;omega⟩
 ·grind
 ·omega
 ·omega
 ·omega
 ·omega
 ·rw [ht];simp
 ·rw [wk];simp
 ·omega
 ·rw [wk];simp
 ·rw [wk];simp
 ·omega
 ·omega
 ·rw [pm];omega
 ·omega
 ·rw [pm];omega
 ·rw [pm];omega
 ·intro _ _
  constructor
  ·grind
  ·exact o2
  ·exact o3
  ·exact l1
  ·exact l2
  ·exact l3
  ·omega
  ·omega
  ·omega
  ·omega
  ·intro _;exact es
  ·omega
  ·omega
  ·grind
  ·omega
  ·intro c;omega
  ·omega
  ·intro _;exact er
  ·omega
  ·intro c;omega
theorem DO {x:Gr} (L:Loc nc ns n x) (lt:x.at_ < x.ops.length):Pn.cO (aG x)=true:=by
 have:=L.a0;unfold aG;rw [List.getD_eq_getElem?_getD,List.getElem?_eq_getElem (by omega)];exact L.fO _ (List.getElem_mem _)
theorem zR {o:Pn.Op} (h:Pn.cO o=true):1≤o.kind∧o.kind≤9∧0≤o.ch∧o.ch≤8∧0≤o.n∧o.n≤4∧0≤o.v∧o.v≤255∧o.cases.length≤6∧∀ c∈o.cases,Pn.jz c=true:=by
 unfold Pn.cO at h;simp only [decide_eq_true_eq] at h;exact ⟨h.1,h.2.1,h.2.2.1,h.2.2.2.1,h.2.2.2.2.1,h.2.2.2.2.2.1,h.2.2.2.2.2.2.1,h.2.2.2.2.2.2.2.1,h.2.2.2.2.2.2.2.2.1,h.2.2.2.2.2.2.2.2.2.2.2.2.2⟩
theorem MInv.jf (h:MInv s) (hg:g < s.gs.length) {x:Gr} (hx:di (aa s g).place) (h1:x.ops=(aa s g).ops) (h2:x.at_=(aa s g).at_) (lt:x.at_ < x.ops.length) (k:(aG (aa s g)).kind=9) (st:x.status=0) (ht:x.token=false) (pm:x.param=-1) (wk:x.an=[]) (ek:x.k=0) (es:x.au=[]) (er:x.res.code=0) (eo:x.order=[]):MInv (Sx.jf (ai s g x) g (aG (aa s g))):=by
 have L:=h.loc hg;obtain ⟨o,ho⟩:∃ o,aG (aa s g)=o:=⟨_,rfl⟩
 have Qv:aG x=o:=by rw [← ho];unfold aG;rw [h1,h2]
 rw [ho] at k ⊢;unfold Sx.jf;simp only;have jB:=DM (ai s g x) h.oD h.pI o.cases.length;obtain ⟨d,hd⟩:∃ d,(drawn (ai s g x) o.cases.length).2=d:=⟨_,rfl⟩
 rw [hd] at jB ⊢;have h':MInv { s with drawn:=d }:=h.JV (by have:=h.oD;have:(ai s g x).drawn=s.drawn:=rfl;omega) jB.2;have JZ:=JP (drawn (ai s g x) o.cases.length).1 o.cases.length;have Qw:=JQ (drawn (ai s g x) o.cases.length).1 o.cases.length;generalize dA (drawn (ai s g x) o.cases.length).1 o.cases.length=ord at *;have em:∀ c,aM (ai s g x) c=aM s c:=fun _=>rfl
 simp only [em];have gx:aa (ai s g x) g=x:=by rw [gK s g g x hg,if_pos rfl]
 rw [gx,eo,List.nil_append];have eZ:g < ({ s with drawn:=d }:ah).gs.length:=hg;obtain ⟨ij,uH⟩:∃ ij,ord.filter (fun i=>aM s (bY o i).ch)=ij:=⟨_,rfl⟩
 rw [uH];have gm:∀ i∈ij,0≤i∧i < o.cases.length∧1≤(bY o i).ch∧(bY o i).ch≤s.ax.length:=by
  intro i hi;rw [← uH,List.mem_filter] at hi;have a:=(JZ i).1 hi.1;have b:=nt.1 hi.2;omega
 have gn:ij.Nodup:=by grind
 have ls:=zP (ij.map (fun i=>(bY o i).ch));obtain ⟨y,hy⟩:∃ y,({ x with order:=ij,aC:=aC (ij.map (fun i=>(bY o i).ch)),place:=24 }:Gr)=y:=⟨_,rfl⟩
 rw [hy];have e1:ai { ai s g x with drawn:=d } g y=ai { s with drawn:=d } g y:=by unfold ai;simp only [List.set_set]
 rw [e1];have y1:y.ops=(aa s g).ops∧y.at_=(aa s g).at_∧y.place=24∧y.status=0∧y.token=false∧y.param=-1∧y.an=[]∧y.k=0∧y.au=[]∧y.res.code=0∧y.order=ij∧y.aC=aC (ij.map (fun i=>(bY o i).ch)):=by grind
 have lU:∀ p:Int,bn 9 p→(p=18∨p=19)→∀ z:Gr,z.ops=y.ops→z.at_=y.at_→z.place=p→(p=19∧z.status=1∨p≠19∧z.status=0)→z.token=false→z.param=-1→z.an=[]→MInv (ai { s with drawn:=d } g z):=by
  intro p ok hp z z1 z2 z3 z4 z5 z6 z7;refine h'.outs eZ (Loc.fresh L (z1.trans y1.1) (z2.trans y1.2.1) (by rw [← h1,← h2];exact lt) (by rw [ho,k,z3];exact ok) (by rw [z3];omega) (by rw [z3];exact z4) z5 z6 z7 (by rw [z3];omega) (by rw [z3];omega) h.gX) hx (by unfold di;omega) z7 (z2.trans y1.2.1)
 split
 ·rename_i hp;have yH:∀ ch,¬ bh y ch:=by
   rintro ch (w | w)
   ·omega
   ·simp_all
  have yO:∀ i,¬ Own y i:=by
   rintro i ⟨_,w | w⟩
   ·omega
   ·have:=w.2.1;omega
  have cq:ij≠[]:=by grind
  refine h'.self eZ (Sf.out (Loc.JY L y1.1 y1.2.1 (by rw [← h1,← h2];exact lt) (by rw [ho];exact k) y1.2.2.1 y1.2.2.2.1 y1.2.2.2.2.1 y1.2.2.2.2.2.1 y1.2.2.2.2.2.2.1 y1.2.2.2.2.2.2.2.1 y1.2.2.2.2.2.2.2.2.1 y1.2.2.2.2.2.2.2.2.2.1 h.gX ?_ ?_ ?_ ?_ ?_ ?_) hx.own yO hx.q hx.holds yH hx.wt (by unfold cG;omega) y1.2.2.2.2.2.2.1) y1.2.1 (fun w=>by unfold cj at w;omega)
  ·intro i hi;rw [y1.2.2.2.2.2.2.2.2.2.2.1] at hi;have:=gm i hi;rw [ho,y1.2.2.2.2.2.2.2.2.2.2.2];refine ⟨this.1,this.2.1,?_⟩;unfold bL;rw [ho];exact (ls.2 _).2 ⟨List.mem_map.2 ⟨i,hi,rfl⟩,by omega⟩
  ·grind
  ·grind
  ·grind
  ·grind
  ·rw [y1.2.2.2.2.2.2.2.2.2.2.2];obtain ⟨i,hi⟩:=List.exists_mem_of_ne_nil _ cq;have:=gm i hi;exact List.length_pos_iff.2 (List.ne_nil_of_mem ((ls.2 _).2 ⟨List.mem_map.2 ⟨i,hi,rfl⟩,by omega⟩))
 ·split
  ·rw [zQ _ _ _ _ _ eZ];exact lU 18 (.inl rfl) (.inl rfl) _ rfl rfl rfl (.inr ⟨by decide,y1.2.2.2.1⟩) y1.2.2.2.2.1 y1.2.2.2.2.2.1 y1.2.2.2.2.2.2.1
  ·rw [DN _ _ _ eZ y1.2.2.2.1 y1.2.2.2.2.1];exact lU 19 (by unfold bn;omega) (.inr rfl) _ rfl rfl rfl (.inl ⟨rfl,rfl⟩) y1.2.2.2.2.1 y1.2.2.2.2.2.1 y1.2.2.2.2.2.2.1
end Sx
namespace Sx
variable {s t:ah} {g:Nat} {nc ns n:Int}
theorem MInv.jg (h:MInv s) (hg:g < s.gs.length) (st:(aa s g).status=0) (e:(aa s g).place=0):MInv (jg s g):=by
 have L:=h.loc hg;have hx:di (aa s g).place:=.inl e;obtain ⟨pm,tk⟩:=hx.pm L;have wk:=h.sy hg (by omega);unfold Sx.jg;simp only
 by_cases ha:((aa s g).ops.length:Int)≤(aa s g).at_
 ·rw [if_pos ha];refine h.outs hg (y:={ aa s g with status:=2,token:=false }) ?_ hx hx wk rfl;have fO:=L.fO;have a1:=L.a1
  constructor
  ·exact L.lB
  ·exact fO
  ·exact L.a0
  ·exact a1
  ·exact .inl e
  ·grind
  ·exact .inr (.inr rfl)
  ·simp
  ·simp only;omega
  ·grind
  ·simp
  ·grind
  ·simp only;omega
  ·grind
  ·grind
  ·simp only;omega
  ·simp only;omega
  ·exact L.p0
  ·simp only;omega
  ·simp only;omega
  ·simp only;omega
  ·intro _ c;unfold cZ at c;simp only at c;omega
 rw [if_neg ha];have lt:(aa s g).at_ < (aa s g).ops.length:=by omega
 obtain ⟨x,uc⟩:∃ x,({ ja (aa s g) with call:=s.step }:Gr)=x:=⟨_,rfl⟩
 have e2:ai (clear s g) g { aa (clear s g) g with call:=(clear s g).step }=ai s g x:=by
  unfold clear;rw [gK s g g _ hg,if_pos rfl,lJ,← uc];rfl
 have x1:x.ops=(aa s g).ops∧x.at_=(aa s g).at_∧x.place=0∧x.status=0∧x.token=false∧x.param=-1∧x.an=[]∧x.k=0∧x.au=[]∧x.res.code=0∧x.order=[]:=by
  subst uc;exact ⟨rfl,rfl,e,st,tk,rfl,rfl,rfl,rfl,rfl,rfl⟩
 have gx:aa (ai s g x) g=x:=by rw [gK s g g x hg,if_pos rfl]
 have eo:ag (ai s g x) g=aG (aa s g):=by unfold ag;rw [gx,x1.1,x1.2.1];rfl
 have em:∀ c,Sx.aM (ai s g x) c=Sx.aM s c:=fun _=>rfl
 rw [e2,eo];simp only [em];have rf:=zR (DO L lt);generalize hk:(aG (aa s g)).kind=kd at *;have fin:∀ (p:Int),bn kd p→(p=1∨p=4∨p=18∨p=20∨p=19)→(p=1∨p=4→Sx.aM s (aG (aa s g)).ch=true)→(p=20→kd=1∨7≤kd)→∀ z:Gr,z.ops=x.ops→z.at_=x.at_→z.place=p→(p=19∧z.status=1∨p≠19∧z.status=0)→z.token=false→z.param=-1→z.an=[]→MInv (ai s g z):=by
  intro p ok hp hm hq z z1 z2 z3 z4 z5 z6 z7;refine h.outs hg (Loc.fresh L (z1.trans x1.1) (z2.trans x1.2.1) lt (by rw [hk,z3];exact ok) (by rw [z3];exact hp) (by rw [z3];exact z4) z5 z6 z7 (by rw [z3];exact fun w=>nt.1 (hm w)) (by rw [z3,hk];exact hq) h.gX) hx (by unfold di;rw [z3];omega) z7 (z2.trans x1.2.1)
 have gT:∀ p:Int,aO (ai s g x) g p=ai s g { x with place:=p }:=fun p=>lH _ _ _ _ hg
 have pT:∀ r,bG (ai s g x) g r 18=ai s g { x with cz:=s.step,res:=r,place:=18 }:=fun r=>zQ _ _ _ _ _ hg
 have nT:never (ai s g x) g=ai s g { x with place:=19,status:=1 }:=DN _ _ _ hg x1.2.2.2.1 x1.2.2.2.2.1;have wQ:∀ p:Int,bn kd p→(p=1∨p=4∨p=20)→(p=1∨p=4→Sx.aM s (aG (aa s g)).ch=true)→(p=20→kd=1∨7≤kd)→MInv (aO (ai s g x) g p):=by grind
 have Qx:∀ r,MInv (bG (ai s g x) g r 18):=by
  intro r;rw [pT];exact fin 18 (.inl rfl) (by simp) (by simp) (by simp) _ rfl rfl rfl (.inr ⟨by decide,x1.2.2.2.1⟩) x1.2.2.2.2.1 x1.2.2.2.2.2.1 x1.2.2.2.2.2.2.1
 have goN:bn kd 19→MInv (never (ai s g x) g):=by grind
 by_cases k1:kd=1∨kd=7∨kd=8
 ·rw [if_pos k1];exact wQ 20 (.inr (.inl ⟨k1,rfl⟩)) (by simp) (by simp) (by omega)
 rw [if_neg k1]
 by_cases k2:kd=2∨kd=3
 ·rw [if_pos k2]
  by_cases hm:Sx.aM s (aG (aa s g)).ch=true
  ·rw [if_pos hm];exact wQ 4 (.inr (.inr (.inl ⟨k2,by simp⟩))) (by simp) (fun _=>hm) (by simp)
  ·rw [if_neg hm];exact goN (.inr (.inr (.inl ⟨k2,by simp⟩)))
 rw [if_neg k2]
 by_cases k3:kd=4∨kd=5
 ·rw [if_pos k3]
  by_cases hm:Sx.aM s (aG (aa s g)).ch=true
  ·rw [if_pos hm];exact wQ 1 (by unfold bn;omega) (by simp) (fun _=>hm) (by simp)
  ·grind
 rw [if_neg k3]
 by_cases k4:kd=6
 ·rw [if_pos k4]
  by_cases hm:Sx.aM s (aG (aa s g)).ch=true
  ·rw [if_pos hm];exact wQ 4 (by unfold bn;omega) (by simp) (fun _=>hm) (by simp)
  ·grind
 rw [if_neg k4];exact h.jf hg hx x1.1 x1.2.1 (by rw [x1.1,x1.2.1];exact lt) (by rw [hk];omega) x1.2.2.2.1 x1.2.2.2.2.1 x1.2.2.2.2.2.1 x1.2.2.2.2.2.2.1 x1.2.2.2.2.2.2.2.1 x1.2.2.2.2.2.2.2.2.1 x1.2.2.2.2.2.2.2.2.2.1 x1.2.2.2.2.2.2.2.2.2.2
theorem MInv.makes (h:MInv s) (hl:s.ax.length < 8) {m:Int} (m0:0≤m) (m4:m≤4):MInv { s with ax:=s.ax ++ [⟨m,[],false,-1,[],[]⟩] }:=by
 have ec:∀ c:Int,1≤c→c≤s.ax.length→cn { s with ax:=s.ax ++ [⟨m,[],false,-1,[],[]⟩] } c=cn s c:=by
  intro c a b;unfold cn;simp only;rw [List.getD_eq_getElem?_getD,List.getD_eq_getElem?_getD,List.getElem?_append_left (by omega)]
 have en:∀ c:Int,c=s.ax.length + 1→cn { s with ax:=s.ax ++ [⟨m,[],false,-1,[],[]⟩] } c=⟨m,[],false,-1,[],[]⟩:=by
  intro c a;unfold cn;simp only;rw [List.getD_eq_getElem?_getD,List.getElem?_append_right (by omega)];have:(c - 1).toNat - s.ax.length=0:=by omega
  rw [this];rfl
 have I:=h.v;have hh:∀ g,0≤g→g < (s.gs.length:Int)→∀ c,bh (gA s g) c→c≤s.ax.length:=by
  intro g a b c hc;have L:=I.loc g a b;rcases hc with w | w
  ·rw [w.2.2.1];exact (L.wC (by omega) (by omega) (by omega) w.1 w.2.1).2
  ·have sp:cZ (gA s g).place:=by unfold cZ;omega
   rcases w.2 with q | q
   ·exact ((L.se w.1 sp).l1 c q.2).2
   ·exact ((L.se w.1 sp).l1 c (List.mem_of_mem_take q.2)).2
 refine ⟨?_,h.n1,h.n8,by simp;omega,h.sn,h.jT,h.c1,h.pH,h.ca,h.f0,h.po,h.oD,h.pI,h.du,h.d5,h.dn⟩;unfold V;have el:(({ s with ax:=s.ax ++ [⟨m,[],false,-1,[],[]⟩] }:ah).ax.length:Int)=s.ax.length + 1:=by simp
 rw [el];generalize hs:({ s with ax:=s.ax ++ [⟨m,[],false,-1,[],[]⟩] }:ah)=s2 at *;have kj:s2.gs=s.gs:=by subst hs;rfl
 have eg:gA s2=gA s:=by funext g;unfold gA aa;rw [kj]
 have mF:su s2=su s:=by funext g;unfold su;subst hs;rfl
 have J0:s2.aD=s.aD:=by subst hs;rfl
 have DP:∀ i,fS s2 i=fS s i:=fun i=>by subst hs;rfl
 rw [eg,mF,kj,J0];have sp:∀ c:Int,1≤c→c≤s.ax.length + 1→c≤s.ax.length∨c=s.ax.length + 1:=fun c _ _=>by omega
 constructor
 ·intro g a b;exact (I.loc g a b).mono (by omega)
 ·intro c a b;rcases sp c a b with w | w
  ·rw [ec c a w];exact I.iJ c a w
  ·grind
 ·intro g a b c d e;rcases sp c d e with w | w
  ·rw [ec c d w];exact I.iy g a b c d w
  ·grind
 ·intro c a b;rcases sp c a b with w | w
  ·rw [ec c a w];exact I.cap c a w
  ·grind
 ·intro g a b i hi;have:=I.own g a b i hi;rw [DP];exact this
 ·intro c a b i;rcases sp c a b with w | w
  ·rw [ec c a w];exact I.q c a w i
  ·rw [en c w];simp
 ·intro c a b;rcases sp c a b with w | w
  ·rw [ec c a w];exact I.nd c a w
  ·rw [en c w];simp
 ·intro k a b w;have:=I.cX k a b w;rw [ec _ this.1 this.2.1];exact ⟨this.1,by omega,this.2.2⟩
 ·intro k a b w;have:=I.cl k a b w;rw [ec _ this.1 this.2.1];exact ⟨this.1,by omega,this.2.2⟩
 ·exact I.ou
 ·exact I.wk
 ·exact I.nk
 ·exact I.su
 ·intro i hi;rw [DP] at hi;exact I.lv i hi
theorem MInv.jh (h:MInv s) (hg:g < s.gs.length) (st:(aa s g).status=0) (e:(aa s g).place=20):MInv (jh s g):=by
 have L:=h.loc hg;have hx:di (aa s g).place:=by unfold di;omega
 obtain ⟨pm,tk⟩:=hx.pm L;have wk:=h.sy hg (by omega);have lt:=(L.pl.resolve_left (by omega)).1;have rf:=zR (DO L lt);have ho:ag s g=aG (aa s g):=rfl;have key:∀ (t:ah) (r:Md.ak),MInv t→t.gs=s.gs→MInv (bG t g r 18):=by
  intro t r ht zS;have eg:aa t g=aa s g:=by unfold aa;rw [zS]
  have eZ:g < t.gs.length:=by rw [zS];exact hg
  refine ht.outs eZ (y:={ aa t g with cz:=t.step,res:=r,place:=18 }) ?_ (by rw [eg];exact hx) (by unfold di;simp) (by rw [eg];exact wk) rfl;have Lt:=ht.loc eZ;exact Loc.fresh Lt rfl rfl (by rw [eg];exact lt) (.inl rfl) (by simp) (.inr ⟨by simp,by rw [eg];exact st⟩) (by rw [eg];exact tk) (by rw [eg];exact pm) (by rw [eg];exact wk) (by simp) (by simp) ht.gX
 unfold Sx.jh;simp only
 split
 ·exact key s _ h rfl
 split
 ·rename_i c1 c2;exact key _ _ (h.makes (by omega) (by rw [ho];exact rf.2.2.2.2.1) (by rw [ho];exact rf.2.2.2.2.2.1)) rfl
 split
 ·exact key s _ h rfl
 split
 ·exact key s _ h rfl
 ·exact key s _ h rfl
theorem J3 {l:List Nat} (f f':Nat→Int) {g:Nat} (hn:l.Nodup) (hg:g∈l) (he:∀ h∈l,h≠g→f' h=f h):(l.map f').sum=(l.map f).sum + (f' g - f g):=by
 induction l with
 | nil=>simp at hg
 | cons a l ih =>
  have oS:=List.nodup_cons.1 hn;simp only [List.map_cons,List.sum_cons];rcases List.mem_cons.1 hg with w | w
  ·subst w;have:l.map f'=l.map f:=List.map_congr_left fun h hh=>he h (List.mem_cons_of_mem _ hh) (fun c=>oS.1 (c ▸ hh))
   rw [this];omega
  ·grind
theorem MInv.answer (h:MInv s) (hg:g < s.gs.length) (st:(aa s g).status=0) (e:(aa s g).place=18):MInv (answer s g):=by
 have L:=h.loc hg;have hx:di (aa s g).place:=by unfold di;omega
 obtain ⟨pm,tk⟩:=hx.pm L;have lt:=(L.pl.resolve_left (by omega)).1;have fO:=L.fO;obtain ⟨y,hy⟩:∃ y,ja { aa s g with at_:=(aa s g).at_ + 1,place:=0 }=y:=⟨_,rfl⟩
 have y1:y.ops=(aa s g).ops∧y.at_=(aa s g).at_ + 1∧y.place=0∧y.status=0∧y.token=false∧y.param=-1∧y.an=[]:=by
  subst hy;exact ⟨rfl,rfl,rfl,st,tk,rfl,rfl⟩
 have ea:Sx.answer s g={ ai s g y with done:=s.done ++ [mark s g s.step] }:=by
  unfold Sx.answer clear;simp only;have e1:aa { s with done:=s.done ++ [mark s g s.step] } g=aa s g:=rfl;rw [e1,gK { s with done:=s.done ++ [mark s g s.step] } g g _ hg,if_pos rfl,lJ,hy];rfl
 rw [ea];have ly:Loc s.ax.length s.aD.length s.gs.length y:=by
  have a0:=L.a0;have pM:=h.gX
  constructor
  ·rw [y1.1];exact L.lB
  ·rw [y1.1];exact fO
  ·omega
  ·rw [y1.1];omega
  ·exact .inl y1.2.2.1
  ·omega
  ·exact .inl y1.2.2.2.1
  ·omega
  ·omega
  ·omega
  ·grind
  ·grind
  ·omega
  ·grind
  ·grind
  ·omega
  ·omega
  ·omega
  ·omega
  ·omega
  ·omega
  ·intro _ c;unfold cZ at c;omega
 have f:Sf s.ax.length s.aD.length s.gs.length (aa s g) y:=.outs ly hx (.inl y1.2.2.1) y1.2.2.2.2.2.2;have v:V (ai s g y):=by
  have eA:=dY s g;have I:=Inv.self h.v (g:=g) (x:=y) (by omega) (by omega) f.lx (by rw [eA];exact f.hh) (by rw [eA];exact f.ow) (by rw [eA];exact f.mt) (by rw [eA];exact f.qx) (fun w=>by unfold cj at w;omega) f.fh (by rw [eA];exact f.wx) (by rw [eA];exact f.wg) (by rw [eA];exact f.cg);unfold V;rw [fQ];exact I.pz (fun k k0 _=>oC hg rfl k k0) (fun _ _ _=>rfl) (fun _ _ _=>rfl) (fun _ _ _=>Iff.rfl)
 refine ⟨v,by rw [show ({ ai s g y with done:=s.done ++ [mark s g s.step] }:ah).gs.length=s.gs.length from fQ];exact h.n1,by rw [show ({ ai s g y with done:=s.done ++ [mark s g s.step] }:ah).gs.length=s.gs.length from fQ];exact h.n8,h.c8,h.sn,h.jT,h.c1,h.pH,by rw [show ({ ai s g y with done:=s.done ++ [mark s g s.step] }:ah).gs.length=s.gs.length from fQ];exact h.ca,h.f0,h.po,h.oD,h.pI,h.du,h.d5,?_⟩;have hs:lE { ai s g y with done:=s.done ++ [mark s g s.step] }=lE s + 1:=by
  have hl:(ai s g y).gs.length=s.gs.length:=fQ;unfold lE
  show ((List.range (ai s g y).gs.length).map (fun k=>(aa (ai s g y) k).at_)).sum=_;rw [hl,J3 (fun k=>(aa s k).at_) (fun k=>(aa (ai s g y) k).at_) (g:=g) List.nodup_range (by simpa using hg) (fun k _ cq=>by rw [gK s g k y hg,if_neg cq])];rw [gK s g g y hg,if_pos rfl,y1.2.1];omega
 rw [hs];have:=h.dn;simp only [List.length_append,List.length_cons,List.length_nil];omega
theorem MInv.gQ (h:MInv s) (hg:g < s.gs.length) (st:(aa s g).status=0):MInv (gQ s g).1:=by
 unfold Sx.gQ;simp only
 by_cases e0:(aa s g).place=0
 ·rw [if_pos e0];exact h.jg hg st e0
 rw [if_neg e0]
 by_cases e1:(aa s g).place=20
 ·rw [if_pos e1];exact h.jh hg st e1
 rw [if_neg e1]
 by_cases e2:(aa s g).place=18
 ·rw [if_pos e2];exact h.answer hg st e2
 rw [if_neg e2];exact h
end Sx
namespace Sx
variable {s t:ah} {g:Nat} {nc ns n:Int} {x y:Gr}
theorem Loc.kf (L:Loc nc ns n x) (hs:SE x) (xp:x.place≠0) (h1:y.ops=x.ops) (h2:y.at_=x.at_) (st:y.status=0) (tk:y.token=false) (pm:y.param=-1) (yp:24≤y.place∧y.place≤34) (w1:y.an≠[]→y.place=34∨y.place=30∧y.res.code≠0) (w3:∀ p∈y.an,0≤p∧p < n) (w4:y.an.Nodup)
  (hd:y.place=26∨y.place=27→0≤y.hold∧y.hold < ns) (pM:0≤ns) (ys:ff nc ns y):Loc nc ns n y:=by
 have ho:aG y=aG x:=by unfold aG;rw [h1,h2]
 have fO:=L.fO;have pl:=L.pl.resolve_left xp;have hk:(aG x).kind=9:=hs
 constructor
 ·rw [h1];exact L.lB
 ·rw [h1];exact fO
 ·rw [h2];exact L.a0
 ·grind
 ·rw [h1,h2,ho];exact .inr ⟨pl.1,by unfold bn;omega⟩
 ·grind
 ·exact .inl st
 ·intro c;omega
 ·intro c;omega
 ·intro c;omega
 ·rw [tk];simp
 ·grind
 ·intro c;omega
 ·exact w3
 ·exact w4
 ·omega
 ·intro _ _ c;omega
 ·rw [pm];omega
 ·intro c;omega
 ·omega
 ·omega
 ·intro _ _;exact ys
theorem lM (h:24≤x.place∧x.place≤29∨31≤x.place∧x.place≤34∨x.place=30∧x.res.code≠0):¬ Wt x:=by
 rintro (w | w)
 ·have:=w.2;omega
 ·have:=w.2;omega
theorem Loc.qJ (L:Loc nc ns n x) (h:¬ Wt x):x.param=-1∧x.token=false:=by
 constructor
 ·have:=L.p0
  by_cases c:0≤x.param
  ·exact absurd (L.p2 c).1 h
  ·omega
 ·cases c:x.token
  ·rfl
  ·exact absurd (L.tk c).1 h
theorem uI {l:List Int} {k:Int} (k0:0≤k) (k1:k < l.length):l.take (k + 1).toNat=l.take k.toNat ++ [aB l k]:=by
 have e:(k + 1).toNat=k.toNat + 1:=by omega
 have:k.toNat < l.length:=by omega
 rw [e,List.take_add_one,List.getElem?_eq_getElem this];unfold aB;rw [List.getD_eq_getElem?_getD,List.getElem?_eq_getElem this];rfl
theorem wR {l:List Int} {k:Int} (k0:0≤k) (k1:k < l.length):l.drop k.toNat=aB l k :: l.drop (k + 1).toNat:=by
 have e:(k + 1).toNat=k.toNat + 1:=by omega
 have:k.toNat < l.length:=by omega
 rw [e,List.drop_eq_getElem_cons this];unfold aB;rw [List.getD_eq_getElem?_getD,List.getElem?_eq_getElem this];rfl
theorem pe {l:List Int} {k:Int} (k0:0≤k) (k1:k < l.length):aB l k∈l:=by
 have:k.toNat < l.length:=by omega
 unfold aB;rw [List.getD_eq_getElem?_getD,List.getElem?_eq_getElem this];exact List.getElem_mem this
theorem J4 {l:List Int} {k:Int} (h:k=l.length):l.take k.toNat=l:=by simp_all
structure gY (x y:Gr):Prop where
 ops:y.ops=x.ops
 at_:y.at_=x.at_
 status:y.status=x.status
 token:y.token=x.token
 bp:y.bp=x.bp
 param:y.param=x.param
 bq:y.bq=x.bq
 order:y.order=x.order
 aC:y.aC=x.aC
theorem gY.aG (h:gY x y):aG y=aG x:=by unfold Sx.aG;rw [h.ops,h.at_]
theorem gY.se (h:gY x y):SE y↔SE x:=by unfold SE;rw [h.aG]
theorem gY.ch (h:gY x y) (j:Int):bL y j=bL x j:=by unfold bL;rw [h.aG]
theorem ff.lock (b:ff nc ns x) (h:gY x y) (e:x.place=24∨x.place=31) (es:y.au=x.au) (ec:y.res.code=x.res.code)
  (hp:y.place=x.place∧y.k=x.k + 1∧x.k + 1 < x.aC.length∨y.place=x.place + 1∧y.k=0∧x.k + 1=x.aC.length):ff nc ns y:=by
 have ho:=h.aG;have hc:=h.ch;have o1:=b.o1;have ab:24≤y.place∧y.place≤27→24≤x.place∧x.place≤27:=by omega
 have kk:0≤y.k∧(y.place=24∨y.place=31→y.k < x.aC.length):=by have:=b.k0;omega
 have zT:∀ {P:Prop},y.place=28∨y.place=29∨y.place=30∨y.place=33∨y.place=34∨y.place=13∨y.place=14→P:=fun c=>by omega
 have zU:31≤y.place∧y.place≤33→31≤x.place∧x.place≤33:=by omega
 have k2:25≤y.place∧y.place≤29∨y.place=32∨y.place=34→y.k=0:=by omega
 constructor
 ·rw [h.order,h.aC,ho];simp only [hc];exact o1
 ·rw [h.order];exact b.o2
 ·rw [h.order];exact b.o3
 ·rw [h.aC];exact b.l1
 ·rw [h.aC];exact b.l2
 ·rw [h.aC];exact b.l3
 ·exact kk.1
 ·rw [h.aC];exact kk.2
 ·rw [h.order];intro c;rw [k2 c];have:=b.o3;omega
 ·omega
 ·rw [es];intro c;exact b.s1 (ab c)
 ·rw [es,ho];intro c
  by_cases d:31≤y.place∧y.place≤33
  ·have:=zU d;exact b.s2 (.inr (.inl ⟨this.1,by omega⟩))
  ·exact zT (by omega)
 ·omega
 ·rw [es,h.order];exact b.s4
 ·omega
 ·rw [es,h.order];intro c
  by_cases d:31≤y.place∧y.place≤33
  ·exact b.s6 (.inl (zU d))
  ·exact zT (by omega)
 ·omega
 ·rw [ec];intro c
  by_cases d:24≤y.place∧y.place≤27
  ·have:=ab d;exact b.c1 (.inl ⟨this.1,by omega⟩)
  ·exact zT (by omega)
 ·rw [h.bp];intro c;exact b.c2 (zU c)
 ·omega
theorem MInv.iN (h:MInv s) (hg:g < s.gs.length) (k:(ag s g).kind=9) (e:cZ (aa s g).place):ff s.ax.length s.aD.length (aa s g):=(h.loc hg).se k e
theorem MInv.DQ (h:MInv s) (hg:g < s.gs.length) (st:(aa s g).status=0) (k:(ag s g).kind=9) (p:Int) (e:(aa s g).place=24∧p=25∨(aa s g).place=31∧p=32):MInv (lock s g p):=by
 have L:=h.loc hg;have b:=h.iN hg k (by unfold cZ;omega);have kx:SE (aa s g):=k;unfold lock;simp only;have k1:=b.k1 (by omega);have oH:=b.l1 _ (pe b.k0 k1);have nw:¬ Wt (aa s g):=lM (by omega);obtain ⟨pm,tk⟩:=L.qJ nw;have wk:(aa s g).an=[]:=by
  by_cases w:(aa s g).an=[]
  ·exact w
  ·have:=L.w1 w;omega
 unfold tryLock
 by_cases hl:(cn s (aB (aa s g).aC (aa s g).k)).lock=-1
 ·rw [if_pos hl];simp only [if_true];have key:∀ y,gY (aa s g) y→y.an=(aa s g).an→y.au=(aa s g).au→y.res.code=(aa s g).res.code→(y.place=(aa s g).place∧y.k=(aa s g).k + 1∧(aa s g).k + 1 < (aa s g).aC.length∨y.place=(aa s g).place + 1∧y.k=0∧(aa s g).k + 1=(aa s g).aC.length) →
    MInv (ai (aF s (aB (aa s g).aC (aa s g).k) { cn s (aB (aa s g).aC (aa s g).k) with lock:=g }) g y):=by
   intro y hk hw hs hc hp;have ys:=b.lock hk (by omega) hs hc hp;have dD:SE y:=hk.se.2 kx;refine h.chan hg oH.1 oH.2 (L.kf kx (by omega) hk.ops hk.at_ (by rw [hk.status];exact st) (by rw [hk.token];exact tk) (by rw [hk.param];exact pm) (by omega) (by rw [hw,wk];simp) (by rw [hw,wk];simp) (by rw [hw,wk];simp) (by omega) h.gX ys) ⟨.inr (.inl ⟨hl,rfl,fun ch=>?_⟩),h.fH oH.1 oH.2,⟨List.Sublist.refl _,List.Sublist.refl _⟩,.inl ⟨rfl,rfl⟩⟩ ?_ ?_ ?_ ?_ ?_ ?_ (fun w=>absurd w.1 nw) (fun w=>absurd w.1 nw) hk.at_
   ·-- it has one lock more
    have DR:∀ z:Gr,SE z→(bh z ch↔(25≤z.place∧z.place≤29∨z.place=32)∧ch∈z.aC∨(z.place=24∨z.place=31∨z.place=30∨z.place=33)∧ch∈z.aC.take z.k.toNat):=by
     intro z hz;unfold bh;have:(aG z).kind=9:=hz
     constructor
     ·grind
     ·grind
    rw [DR y dD,DR _ kx,hk.aC];have tk:=uI b.k0 k1;rcases hp with hp | hp
    ·grind
    ·have Qy:(aa s g).aC=(aa s g).aC.take (aa s g).k.toNat ++ [aB (aa s g).aC (aa s g).k]:=by rw [← tk,J4 hp.2.2]
     constructor
     ·grind
     ·grind
   ·intro i;unfold Own;rw [hk.se,hs];have n1:¬ SR y:=fun c=>c.ne dD
    have n2:¬ SR (aa s g):=fun c=>c.ne kx
    simp only [n1,n2,false_and,false_or]
    constructor
    ·grind
    ·grind
   ·intro i d _ m;rcases m with m | m
    ·exact absurd kx m.1.ne
    ·exact .inr ⟨dD,by rw [hs,hk.aG,hk.order,hk.ch];exact m.2⟩
   ·intro i j q ch a0 b0 hi;have eP:0≤i:=by
     have:i∈(cn s ch).recv∨i∈(cn s ch).send:=by
      unfold up at hi
      split at hi
      ·grind
      ·exact hi
     obtain ⟨o,z⟩:=h.sv (g:=g) a0 b0 this;exact z.i0
    rcases q with q | q
    ·omega
    ·obtain ⟨q1,q2,q3,q4,q5⟩:=q;have sC:(aa s g).place=31:=by omega
     have hj:=(b.s4 j q2 q3).2.2 (by omega);refine .inr ⟨dD,q2,by rw [hs];exact q3,by rw [hs];exact q4,?_⟩;rcases hp with hp | hp
     ·omega
     ·refine .inr (.inr (.inr (.inr (.inr ⟨by omega,?_⟩))));rw [hk.order,hp.2.1];simpa using hj
   ·unfold cj;omega
   ·unfold cG;omega
   ·grind
  split
  ·rename_i c;exact key _ ⟨rfl,rfl,rfl,rfl,rfl,rfl,rfl,rfl,rfl⟩ rfl rfl rfl (.inr ⟨by simp only;omega,rfl,c⟩)
  ·rename_i c;exact key _ ⟨rfl,rfl,rfl,rfl,rfl,rfl,rfl,rfl,rfl⟩ rfl rfl rfl (.inl ⟨rfl,rfl,by omega⟩)
 ·grind
end Sx
namespace Sx
variable {s t:ah} {g:Nat} {nc ns n:Int} {x y:Gr}
theorem qL (hz:SE x) (ch:Int):bh x ch↔(25≤x.place∧x.place≤29∨x.place=32)∧ch∈x.aC∨(x.place=24∨x.place=31∨x.place=30∨x.place=33)∧ch∈x.aC.take x.k.toNat:=by
 unfold bh;have:(aG x).kind=9:=hz
 constructor
 ·grind
 ·grind
def iO (x:Gr):Prop:=25≤x.place∧x.place≤29∨x.place=32∨(x.place=30∨x.place=33)∧x.k=x.aC.length
theorem ko (hz:SE x) (h:iO x) (ch:Int):bh x ch↔ch∈x.aC:=by
 rw [qL hz];rcases h with h | h | h
 ·grind
 ·grind
 ·simp_all
theorem MInv.nu (h:MInv s) (hg:g < s.gs.length) (e:24≤(aa s g).place∧(aa s g).place≤29∨31≤(aa s g).place∧(aa s g).place≤33∨(aa s g).place=14∨(aa s g).place=13∨(aa s g).place=30∧(aa s g).res.code=0):(aa s g).an=[]:=by
 by_cases w:(aa s g).an=[]
 ·exact w
 ·have:=(h.loc hg).w1 w;omega
theorem ff.polls (pM:0≤ns) (b:ff nc ns x) (h:gY x y) (e:25≤x.place∧x.place≤27)
  (hp:(25≤y.place∧y.place≤27)∧0≤y.k∧y.k < x.order.length∧y.au=[]∧y.res.code=0∨y.place=30∧y.k=x.aC.length∧y.au=[]∧y.res.code≠0 ∨
   y.place=28∧y.k=0∧y.au=List.replicate (aG x).cases.length (-1)∧y.res.code=0):ff nc ns y:=by
 have ho:=h.aG;have hc:=h.ch;have o1:=b.o1;have l3:=b.l3;have o3:=b.o3;have hk:0≤y.k∧(25≤y.place∧y.place≤29∨y.place=32∨y.place=34→y.k < x.order.length)∧(y.place=30∨y.place=33→1≤y.k∧y.k≤x.aC.length):=by omega
 have no:y.place≠24∧y.place≠29∧y.place≠31∧y.place≠32∧y.place≠33∧y.place≠34∧y.place≠13∧y.place≠14:=by omega
 have hs:y.au=[]∨y.au=List.replicate (aG x).cases.length (-1):=by grind
 have rep:∀ j:Int,0≤j→j < y.au.length→aB y.au j=-1:=by
  intro j a c;rcases hs with w | w
  ·grind
  ·rw [w] at c ⊢;simp only [List.length_replicate] at c;unfold aB;rw [List.getD_eq_getElem?_getD,List.getElem?_replicate];rw [if_pos (by omega)];rfl
 constructor
 ·rw [h.order,h.aC,ho];simp only [hc];exact o1
 ·rw [h.order];exact b.o2
 ·rw [h.order];exact b.o3
 ·rw [h.aC];exact b.l1
 ·rw [h.aC];exact b.l2
 ·rw [h.aC];exact b.l3
 ·exact hk.1
 ·intro c;omega
 ·rw [h.order];exact hk.2.1
 ·rw [h.aC];exact hk.2.2
 ·grind
 ·grind
 ·grind
 ·grind
 ·intro c j hj;rw [h.order] at hj;have:=o1 j (List.mem_of_mem_drop hj);rcases hp with w | w | w
  ·omega
  ·omega
  ·grind
 ·omega
 ·intro c;omega
 ·omega
 ·intro c;omega
 ·intro c j hj;rcases hp with w | w | w
  ·omega
  ·omega
  ·simp_all
theorem sD {x:Gr} (hs:SE x) (h:24≤x.place∧x.place≤27∨x.au=[]∨∀ i∈x.au,i=-1) (i:Int):¬ Own x i:=by
 rintro ⟨w0,w | w⟩
 ·exact w.1.ne hs
 ·grind
theorem oG {x:Gr} (hs:SE x) (h:24≤x.place∧x.place≤28∨x.place=33∨x.place=34∨x.place=30∧x.res.code≠0) (i j:Int):¬ dB x i j:=by
 rintro (w | w)
 ·exact w.1.ne hs
 ·omega
structure Poll (ns:Int) (x y:Gr):Prop where
 kp:gY x y
 hp:(25≤y.place∧y.place≤27)∧0≤y.k∧y.k < x.order.length∧y.au=[]∧y.res.code=0∨y.place=30∧y.k=x.aC.length∧y.au=[]∧y.res.code≠0 ∨
   y.place=28∧y.k=0∧y.au=List.replicate (aG x).cases.length (-1)∧y.res.code=0
 hd:y.place=26∨y.place=27→0≤y.hold∧y.hold < ns
theorem Poll.loc {x y:Gr} (f:Poll ns x y) (L:Loc nc ns n x) (b:ff nc ns x) (hs:SE x) (st:x.status=0) (e:25≤x.place∧x.place≤27) (wk:y.an=[]) (pM:0≤ns):Loc nc ns n y:=by
 have hp:=f.hp;obtain ⟨pm,tk⟩:=L.qJ (lM (x:=x) (by omega));refine L.kf hs (by omega) f.kp.ops f.kp.at_ (by rw [f.kp.status];exact st) (by rw [f.kp.token];exact tk) (by rw [f.kp.param];exact pm) (by omega) (by rw [wk];simp) (by rw [wk];simp) (by rw [wk];simp) f.hd pM (b.polls pM f.kp e hp)
theorem Poll.iO {x y:Gr} (f:Poll ns x y):iO y:=by
 have hp:=f.hp;have:=f.kp.aC;unfold Sx.iO;rw [this];omega
theorem Poll.oI {x y:Gr} (f:Poll ns x y) (hs:SE x) (i:Int):¬ Own y i:=by
 refine sD (f.kp.se.2 hs) ?_ i;rcases f.hp with w | w | w
 ·omega
 ·grind
 ·grind
theorem Poll.holds {x y:Gr} (f:Poll ns x y) (hs:SE x) (e:25≤x.place∧x.place≤27) (ch:Int):bh y ch↔bh x ch:=by
 rw [ko (f.kp.se.2 hs) f.iO,ko hs (by unfold Sx.iO;omega),f.kp.aC]
theorem MInv.DS (h:MInv s) (hg:g < s.gs.length) (st:(aa s g).status=0) (k:(ag s g).kind=9) (e:25≤(aa s g).place∧(aa s g).place≤27) {y:Gr} (f:Poll s.aD.length (aa s g) y) (wk:y.an=(aa s g).an) (n2:y.place≠26∧y.place≠27) {c:Int} {c':Cn} (c0:1≤c) (c1:c≤s.ax.length)
  (e1:c'.lock=(cn s c).lock) (e2:0≤c'.cap∧c'.cap≤4∧(c'.buf.length:Int)≤c'.cap) (e3:c'.recv.Sublist (cn s c).recv∧c'.send.Sublist (cn s c).send) (e4:c'.recv=(cn s c).recv∧c'.send=(cn s c).send∨bh (aa s g) c):MInv (ai (aF s c c') g y):=by
 have L:=h.loc hg;have kx:SE (aa s g):=k;have b:=h.iN hg k (by unfold cZ;omega);have dm:=h.nu hg (by omega);have nw:¬ Wt (aa s g):=lM (by omega);exact h.chan hg c0 c1 (f.loc L b kx st e (wk.trans dm) h.gX) ⟨.inl ⟨e1,f.holds kx e⟩,e2,e3,e4⟩ (fun i=>⟨fun w=>absurd w (f.oI kx i),fun w=>absurd w (sD kx (.inl ⟨by omega,by omega⟩) i)⟩) (fun i d w=>absurd w (f.oI kx i)) (fun i j w=>absurd w (oG kx (by omega) i j)) (by have:=f.hp;unfold cj;omega) (by have:=f.hp;unfold cG;omega) (fun q=>by rw [wk];exact id) (fun w=>absurd w.1 nw) (fun w=>absurd w.1 nw) f.kp.at_
theorem MInv.wS (h:MInv s) (hg:g < s.gs.length) (st:(aa s g).status=0) (k:(ag s g).kind=9) (e:25≤(aa s g).place∧(aa s g).place≤27) {y:Gr} (f:Poll s.aD.length (aa s g) y) (wk:y.an=(aa s g).an) (n2:y.place≠27)
  (wn:cj y→1≤(su s y.hold).ch∧(su s y.hold).ch≤s.ax.length∧bh y (su s y.hold).ch∧(y.hold∈(cn s (su s y.hold).ch).recv∨y.hold∈(cn s (su s y.hold).ch).send)∧0≤(su s y.hold).cs):MInv (ai s g y):=by
 have L:=h.loc hg;have kx:SE (aa s g):=k;have b:=h.iN hg k (by unfold cZ;omega);have dm:=h.nu hg (by omega);have nw:¬ Wt (aa s g):=lM (by omega);exact h.self hg ⟨f.loc L b kx st e (wk.trans dm) h.gX,f.holds kx e,fun i=>⟨fun w=>absurd w (f.oI kx i),fun w=>absurd w (sD kx (.inl ⟨by omega,by omega⟩) i)⟩,fun i d w=>absurd w (f.oI kx i),fun i j w=>absurd w (oG kx (by omega) i j),by have:=f.hp;unfold cG;omega,fun q=>by rw [wk];exact id,fun w=>absurd w.1 nw,fun w=>absurd w.1 nw⟩ f.kp.at_ wn
theorem ff.hand (b:ff nc ns x) (k:25≤x.place∧x.place≤29∨x.place=32∨x.place=34):aB x.order x.k∈x.order∧0≤aB x.order x.k∧aB x.order x.k < (aG x).cases.length∧bL x (aB x.order x.k)∈x.aC∧1≤bL x (aB x.order x.k)∧bL x (aB x.order x.k)≤nc:=by
 have hm:=pe b.k0 (b.k2 k);have o:=b.o1 _ hm;have l:=b.l1 _ o.2.2;exact ⟨hm,o.1,o.2.1,o.2.2,l.1,l.2⟩
theorem J5 {s:ah} {g:Nat} {x:Gr} {r:Md.ak} {i:Int} (hg:g < s.gs.length):dR (ai s g x) g r i=ai s g { x with cz:=s.step,res:={ r with cs:=i },dc:=i,k:=x.aC.length,place:=30 }:=by
 unfold dR;simp only;rw [zQ _ _ _ _ _ hg,gK s g g _ hg,if_pos rfl,lJ];unfold unlock;rw [gK s g g _ hg,if_pos rfl,lJ]
theorem DT {s:ah} {g:Nat} (hg:g < s.gs.length):ai s g (aa s g)=s:=by
 unfold ai aa;rw [List.getD_eq_getElem?_getD,List.getElem?_eq_getElem hg];simp
theorem DU {s:ah} {g:Nat} {r:Md.ak} {i:Int} (hg:g < s.gs.length):dR s g r i=ai s g { aa s g with cz:=s.step,res:={ r with cs:=i },dc:=i,k:=(aa s g).aC.length,place:=30 }:=by
 have:=J5 (s:=s) (g:=g) (x:=aa s g) (r:=r) (i:=i) hg;rw [DT hg] at this;exact this
theorem J6 {s:ah} {g:Nat} {c:Int} {c':Cn} {r:Md.ak} {i:Int} (hg:g < s.gs.length):dR (aF s c c') g r i=ai (aF s c c') g { aa s g with cz:=s.step,res:={ r with cs:=i },dc:=i,k:=(aa s g).aC.length,place:=30 }:=by
 rw [DU (by exact hg)];rfl
theorem uJ {s:ah} {g:Nat} {x:Gr} {p:Int} (hg:g < s.gs.length):next (ai s g x) g p=ai s g (if x.k + 1=x.order.length then { x with k:=0,place:=p } else { x with k:=x.k + 1 }):=by
 unfold next;simp only;rw [gK s g g _ hg,if_pos rfl]
 split <;> rw [lJ]
theorem zV {s:ah} {g:Nat} {p:Int} (hg:g < s.gs.length):next s g p=ai s g (if (aa s g).k + 1=(aa s g).order.length then { aa s g with k:=0,place:=p } else { aa s g with k:=(aa s g).k + 1 }):=by
 have:=uJ (s:=s) (g:=g) (x:=aa s g) (p:=p) hg;rw [DT hg] at this;exact this
theorem wT {s:ah} {g:Nat} {x:Gr} (hg:g < s.gs.length):fz (ai s g x) g=ai s g (if x.place=27 then { x with dc:=aB x.order x.k } else x):=by
 unfold fz;simp only;rw [gK s g g _ hg,if_pos rfl]
 split <;> rw [lJ]
theorem MInv.DV (h:MInv s) (hg:g < s.gs.length) (st:(aa s g).status=0) (k:(ag s g).kind=9) (e:(aa s g).place=25) {i c:Int} (hc:c∈(aa s g).aC) (hq:i∈(cn s c).recv∨i∈(cn s c).send):MInv (fz (taken s g i 26 27) g):=by
 have L:=h.loc hg;have kx:SE (aa s g):=k;have b:=h.iN hg k (by unfold cZ;omega);have dm:=h.nu hg (by omega);have nw:¬ Wt (aa s g):=lM (by omega);obtain ⟨c0,c1⟩:=b.l1 c hc;obtain ⟨o,q⟩:=h.sv (g:=g) c0 c1 hq;have nq:=oG kx (x:=aa s g) (by omega);have cq:=q.ne h nq;have k2:=b.k2 (by omega);have s1:=b.s1 (by omega);have cc:=b.c1 (by omega)
 by_cases hn:0≤(su s i).cs
 ·rw [Dw hg hn,wT hg,if_neg (by simp)];have f:Poll s.aD.length (aa s g) { aa s g with hold:=i,place:=26 }:=⟨⟨rfl,rfl,rfl,rfl,rfl,rfl,rfl,rfl,rfl⟩,.inl ⟨by simp,b.k0,k2,s1,cc⟩,fun _=>⟨q.i0,q.i1⟩⟩
  refine h.wS hg st k (by omega) f rfl (by simp) (fun _=>?_);simp only;rw [q.ch];exact ⟨c0,c1,(f.holds kx (by omega) c).2 ((ko kx (by unfold iO;omega) c).2 hc),hq,hn⟩
 ·rw [Dv hg q.g_ cq q.ch c0 c1 hn];rw [wT (by rw [fQ];exact hg),if_pos rfl];have f:Poll s.aD.length (aa s g) { aa s g with hold:=i,t:=s.step,cz:=s.step,wi:=o,place:=27,dc:=aB (aa s g).order (aa s g).k }:=⟨⟨rfl,rfl,rfl,rfl,rfl,rfl,rfl,rfl,rfl⟩,.inl ⟨by simp,b.k0,k2,s1,cc⟩,fun _=>⟨q.i0,q.i1⟩⟩
  refine h.wN hg q (f.loc L b kx st (by omega) dm h.gX) ⟨.inl ⟨rfl,f.holds kx (by omega)⟩,h.fH c0 c1,⟨gU,gU⟩,.inr ?_⟩ (fun i=>⟨fun w=>absurd w (f.oI kx i),fun w=>absurd w (sD kx (.inl ⟨by omega,by omega⟩) i)⟩) (fun i d w=>absurd w (f.oI kx i)) nq (by unfold cj;simp) (fun q=>id) nw (.inr rfl) rfl c0 c1 ?_ hq ⟨rfl,rfl,rfl,rfl,rfl,rfl,rfl,rfl,rfl,rfl,rfl⟩ rfl rfl rfl (.inl ⟨by omega,lI,lI,rfl⟩) rfl
  ·exact (ko kx (by unfold iO;omega) c).2 hc
  ·exact (f.holds kx (by omega) c).2 ((ko kx (by unfold iO;omega) c).2 hc)
theorem MInv.J7 (h:MInv s) (hg:g < s.gs.length) (st:(aa s g).status=0) (k:(ag s g).kind=9) (e:(aa s g).place=26):MInv (fz (cX s g 25 27) g):=by
 have L:=h.loc hg;have kx:SE (aa s g):=k;have b:=h.iN hg k (by unfold cZ;omega);have dm:=h.nu hg (by omega);have nw:¬ Wt (aa s g):=lM (by omega);have hd:=L.hd (by omega);have nq:=oG kx (x:=aa s g) (by omega);have k2:=b.k2 (by omega);have s1:=b.s1 (by omega);have cc:=b.c1 (by omega);obtain ⟨o,q,c0,c1,hh,hq,kz⟩:=h.zJ hg (.inr (.inr e));have cq:o≠g:=q.ne h nq
 cases hp:(aa s o).bp with
 | true =>
  rw [Dx (by rw [q.g_];exact hp),drop_eq rfl c0 c1,wT (by exact hg),if_neg (by simp)];have f:Poll s.aD.length (aa s g) { aa s g with hold:=-1,place:=25 }:=⟨⟨rfl,rfl,rfl,rfl,rfl,rfl,rfl,rfl,rfl⟩,.inl ⟨by simp,b.k0,k2,s1,cc⟩,by simp⟩
  exact h.DS hg st k (by omega) f rfl (by simp) c0 c1 rfl (h.fH c0 c1) ⟨gU,gU⟩ (.inr hh)
 | false =>
  rw [Dy hg q.o1 q.g_ cq hp,wT (by rw [fQ];exact hg),if_pos rfl];have f:Poll s.aD.length (aa s g) { aa s g with t:=s.step,cz:=s.step,wi:=o,place:=27,dc:=aB (aa s g).order (aa s g).k }:=⟨⟨rfl,rfl,rfl,rfl,rfl,rfl,rfl,rfl,rfl⟩,.inl ⟨by simp,b.k0,k2,s1,cc⟩,fun _=>hd⟩
  have:=h.wN hg q (c':=cn s (su s (aa s g).hold).ch) (f.loc L b kx st (by omega) dm h.gX) ⟨.inl ⟨rfl,f.holds kx (by omega)⟩,h.fH c0 c1,⟨List.Sublist.refl _,List.Sublist.refl _⟩,.inr hh⟩ (fun i=>⟨fun w=>absurd w (f.oI kx i),fun w=>absurd w (sD kx (.inl ⟨by omega,by omega⟩) i)⟩) (fun i d w=>absurd w (f.oI kx i)) nq (by unfold cj;simp) (fun q=>id) nw (.inr rfl) rfl c0 c1 ((f.holds kx (by omega) _).2 hh) hq (y:={ aa s o with bp:=true,cz:=s.step,wi:=g,dc:=(su s (aa s g).hold).cs }) ⟨rfl,rfl,rfl,rfl,rfl,rfl,rfl,rfl,rfl,rfl,rfl⟩ rfl rfl rfl (.inr ⟨kz,hp,rfl,hh⟩) rfl;rw [Dt c0 c1] at this;exact this
theorem MInv.jb (h:MInv s) (hg:g < s.gs.length) (st:(aa s g).status=0) (k:(ag s g).kind=9) (e:(aa s g).place=25):MInv (jb s g (ag s g)):=by
 have L:=h.loc hg;have kx:SE (aa s g):=k;have b:=h.iN hg k (by unfold cZ;omega);have k2:=b.k2 (by omega);have s1:=b.s1 (by omega);have cc:=b.c1 (by omega);have k0:=b.k0;have l3:=b.l3;have hd:=b.hand (by omega);have ho:aG (aa s g)=ag s g:=rfl;have nL:(bY (ag s g) (aB (aa s g).order (aa s g).k)).ch=bL (aa s g) (aB (aa s g).order (aa s g).k):=rfl;have DW:∀ (r:Md.ak) (i:Int),r.code≠0→Poll s.aD.length (aa s g) { aa s g with cz:=s.step,res:={ r with cs:=i },dc:=i,k:=(aa s g).aC.length,place:=30 }:=fun r i hr =>
  ⟨⟨rfl,rfl,rfl,rfl,rfl,rfl,rfl,rfl,rfl⟩,.inr (.inl ⟨rfl,rfl,s1,hr⟩),by simp⟩
 have DX:∀ (r:Md.ak) (i:Int),r.code≠0→MInv (dR s g r i):=fun r i hr=>by
  rw [DU hg];exact h.wS hg st k (by omega) (DW r i hr) rfl (by simp) (fun w=>by unfold cj at w;simp at w)
 have DY:∀ (c:Int) (l:List Int) (r:Md.ak) (i:Int),1≤c→c≤s.ax.length→(l.length:Int)≤(cn s c).cap→r.code≠0→MInv (dR (aF s c { cn s c with buf:=l }) g r i):=fun c l r i c0 c1 hl hr=>by
  rw [J6 hg];have uk:=h.fH c0 c1;exact h.DS hg st k (by omega) (DW r i hr) rfl (by simp) c0 c1 rfl ⟨uk.1,uk.2.1,hl⟩ ⟨List.Sublist.refl _,List.Sublist.refl _⟩ (.inl ⟨rfl,rfl⟩)
 unfold Sx.jb;simp only;generalize hi:aB (aa s g).order (aa s g).k=i at *;rw [← ho];have tg:(bY (aG (aa s g)) i).ch=bL (aa s g) i:=rfl;have Qz:(gP s g i (bY (aG (aa s g)) i)).2=true→MInv (gP s g i (bY (aG (aa s g)) i)).1:=by
  unfold gP;simp only [tg]
  split
  ·grind
  split
  ·rename_i c;intro _;exact h.DV hg st k e hd.2.2.2.1 (.inl (sB (by omega)))
  split
  ·rename_i c;intro _;exact DY _ _ _ _ hd.2.2.2.2.1 hd.2.2.2.2.2 (DE c) (by decide)
  ·intro c;cases c
 have QA:(iG s g i (bY (aG (aa s g)) i)).2=true→MInv (iG s g i (bY (aG (aa s g)) i)).1:=by
  unfold iG;simp only [tg]
  split
  ·rename_i c;intro _;exact h.DV hg st k e hd.2.2.2.1 (.inr (sB (by omega)))
  split
  ·intro _;have uk:=h.fH hd.2.2.2.2.1 hd.2.2.2.2.2;exact DY _ _ _ _ hd.2.2.2.2.1 hd.2.2.2.2.2 (by have:=DF (l:=(cn s (bL (aa s g) i)).buf);omega) (by unfold dI;simp)
  split
  ·intro _;exact DX _ _ (by unfold dI;simp)
  ·intro c;cases c
 have QB:(aa s g).k + 1 < (aa s g).order.length→MInv (next s g 25):=by
  intro c;rw [zV hg,ay];exact h.wS hg st k (by omega) ⟨⟨rfl,rfl,rfl,rfl,rfl,rfl,rfl,rfl,rfl⟩,.inl ⟨by simp only;omega,by simp only;omega,c,s1,cc⟩,by simp only;omega⟩ rfl (by simp only;omega) (fun w=>by unfold cj at w;simp only at w;omega)
 have QC:¬ (aa s g).k + 1 < (aa s g).order.length→MInv (next (ai s g { aa s g with au:=List.replicate (aG (aa s g)).cases.length (-1) }) g 28):=by
  intro c;rw [uJ hg,if_pos (by simp only;omega)];exact h.wS hg st k (by omega) ⟨⟨rfl,rfl,rfl,rfl,rfl,rfl,rfl,rfl,rfl⟩,.inr (.inr ⟨rfl,rfl,rfl,cc⟩),by simp⟩ rfl (by simp) (fun w=>by unfold cj at w;simp at w)
 have QD:MInv (dR s g ⟨2,0,0,false,0⟩ (-1)):=DX _ _ (by decide)
 by_cases zW:(bY (aG (aa s g)) i).send=true
 ·grind
 ·grind
end Sx
namespace Sx
variable {s t:ah} {g:Nat} {nc ns n:Int} {x y:Gr}
theorem MInv.zX (h:MInv s) (hg:g < s.gs.length) (st:(aa s g).status=0) (k:(ag s g).kind=9) (e:(aa s g).place=27) {o:Nat} {c i:Int} (hi:(aa s g).hold=i) (q:zK s g i c o) (other:∀ k:Nat,k < s.gs.length→k≠g→cG (aa s k)→(su s (aa s k).hold).g=o→False) (r:Md.ak) (hr:r.code≠0) (d:Su)
  (hd:d.g=(su s i).g∧d.ch=(su s i).ch∧d.cs=(su s i).cs∧d.send=(su s i).send∧d.live=(su s i).live) :
  MInv (ai (bg (ai (aF s c (bT (cn s c) i)) o { aa s o with param:=i }) i d) g { aa s g with an:=(aa s g).an ++ [(o:Int)],hold:=-1,res:=r,k:=(aa s g).aC.length,place:=30 }):=by
 have L:=h.loc hg;have kx:SE (aa s g):=k;have b:=h.iN hg k (by unfold cZ;omega);have dm:=h.nu hg (by omega);have nw:¬ Wt (aa s g):=lM (by omega);have nq:=oG kx (x:=aa s g) (by omega);have s1:=b.s1 (by omega);have f:Poll s.aD.length (aa s g) { aa s g with hold:=-1,res:=r,k:=(aa s g).aC.length,place:=30 }:=⟨⟨rfl,rfl,rfl,rfl,rfl,rfl,rfl,rfl,rfl⟩,.inr (.inl ⟨rfl,rfl,s1,hr⟩),by simp⟩
 have lz:=f.loc L b kx st (by omega) dm h.gX;have lx:Loc s.ax.length s.aD.length s.gs.length { aa s g with an:=(aa s g).an ++ [(o:Int)],hold:=-1,res:=r,k:=(aa s g).aC.length,place:=30 } :=
  lz.zM (.inr (.inr (.inr (.inr (.inr ⟨rfl,hr⟩))))) (by rw [dm];have:=q.o1;simp;omega) (by rw [dm];simp) (by simp)
 have DZ:∀ i,¬ Own { aa s g with an:=(aa s g).an ++ [(o:Int)],hold:=-1,res:=r,k:=(aa s g).aC.length,place:=30 } i:=fun i w=>f.oI kx i w
 refine h.zI hg q.c0 q.c1 lx ⟨.inl ⟨rfl,fun ch=>f.holds kx (by omega) ch⟩,h.fH q.c0 q.c1,⟨gU,gU⟩,.inr q.hh⟩ (fun i=>⟨fun w=>absurd w (DZ i),fun w=>absurd w (sD kx (.inl ⟨by omega,by omega⟩) i)⟩) (fun i d w=>absurd w (DZ i)) nq (by unfold cj;simp) (by unfold cG;simp) (fun q hq=>?_) nw q.sc q.so q.o1 q.ne q.wt q.pm q.own (fun w=>q.se w) ⟨lI,lI⟩ other ⟨rfl,rfl,rfl,rfl,rfl,rfl,rfl,rfl,rfl,rfl,rfl⟩ rfl rfl rfl rfl hd;rcases List.mem_append.1 hq with w | w
 ·exact .inl w
 ·grind
theorem wU {s:ah} {g:Nat} {x:Gr} {p:Int} (hg:g < s.gs.length):unlock (ai s g x) g p=ai s g { x with k:=x.aC.length,place:=p }:=by
 unfold unlock;rw [gK s g g _ hg,if_pos rfl,lJ]
theorem J8 {s:ah} {g:Nat} {p:Int} (hg:g < s.gs.length):unlock s g p=ai s g { aa s g with k:=(aa s g).aC.length,place:=p }:=rfl
theorem J9 {s:ah} {g o:Nat} {i c:Int} {d:Su} {r:Md.ak} {kk p:Int} (hg:g < s.gs.length) (ho:o < s.gs.length) (so:d.g=o) (cq:o≠g) (i0:0≤i) (i1:i < s.aD.length) (hk:kk=(aa s g).aC.length) :
  unlock (ai (serve (bg (aF s c (bT (cn s c) i)) i d) g i true) g { aa (serve (bg (aF s c (bT (cn s c) i)) i d) g i true) g with res:=r }) g p =
  ai (bg (ai (aF s c (bT (cn s c) i)) o { aa s o with param:=i }) i { d with done:=true }) g { aa s g with an:=(aa s g).an ++ [(o:Int)],hold:=-1,res:=r,k:=kk,place:=p }:=by
 have s1:su (bg (aF s c (bT (cn s c) i)) i d) i=d:=Dz i0 i1;have e:=uE (s:=bg (aF s c (bT (cn s c) i)) i d) (g:=g) (o:=o) (i:=i) (d:=true) hg ho (by rw [s1];exact so) cq;have g1:aa (bg (aF s c (bT (cn s c) i)) i d) g=aa s g:=rfl;have g2:aa (bg (aF s c (bT (cn s c) i)) i d) o=aa s o:=rfl;rw [s1,g1,g2] at e;rw [e];have hl:∀ y:Gr,g < (bg (ai (bg (aF s c (bT (cn s c) i)) i d) o y) i { d with done:=true }).gs.length:=fun y=>by show g < (ai _ _ _).gs.length;rw [fQ];exact hg
 have g3:∀ y z,aa (ai (bg (ai (bg (aF s c (bT (cn s c) i)) i d) o y) i { d with done:=true }) g z) g=z:=fun y z=>by
  rw [gD (hl y),if_pos rfl]
 rw [g3,lJ,wU (hl _),hk];unfold ai bg aF;simp only [List.set_set]
theorem D6 {s:ah} {g o:Nat} {i c:Int} {r:Md.ak} {kk p:Int} (hg:g < s.gs.length) (ho:o < s.gs.length) (so:(su s i).g=o) (cq:o≠g) (hk:kk=(aa s g).aC.length) :
  unlock (ai (serve (aF s c (bT (cn s c) i)) g i true) g { aa (serve (aF s c (bT (cn s c) i)) g i true) g with res:=r }) g p =
  ai (bg (ai (aF s c (bT (cn s c) i)) o { aa s o with param:=i }) i { su s i with done:=true }) g { aa s g with an:=(aa s g).an ++ [(o:Int)],hold:=-1,res:=r,k:=kk,place:=p }:=by
 have e:=uE (s:=aF s c (bT (cn s c) i)) (g:=g) (o:=o) (i:=i) (d:=true) hg ho so cq;have g1:aa (aF s c (bT (cn s c) i)) g=aa s g:=rfl;have g2:aa (aF s c (bT (cn s c) i)) o=aa s o:=rfl;have g4:su (aF s c (bT (cn s c) i)) i=su s i:=rfl;rw [g1,g2,g4] at e;rw [e];have hl:∀ y:Gr,g < (bg (ai (aF s c (bT (cn s c) i)) o y) i { su s i with done:=true }).gs.length:=fun y=>by show g < (ai _ _ _).gs.length;rw [fQ];exact hg
 have g3:∀ y z,aa (ai (bg (ai (aF s c (bT (cn s c) i)) o y) i { su s i with done:=true }) g z) g=z:=fun y z=>by
  rw [gD (hl y),if_pos rfl]
 rw [g3,lJ,wU (hl _),hk]
theorem MInv.jd (h:MInv s) (hg:g < s.gs.length) (st:(aa s g).status=0) (k:(ag s g).kind=9) (e:(aa s g).place=27):MInv (jd s g (ag s g)):=by
 obtain ⟨o,q,sw⟩:=h.zL hg (.inr e);have L:=h.loc hg;have kx:SE (aa s g):=k;have b:=h.iN hg k (by unfold cZ;omega);have dJ:=b.hand (by omega);have hd:=L.hd (by omega);unfold Sx.jd;simp only;generalize hi:aB (aa s g).order (aa s g).k=j at *;have d0:=dJ.2.2.2.2.1;have d1:=dJ.2.2.2.2.2;have nL:(bY (ag s g) j).ch=bL (aa s g) j:=rfl;rw [drop_eq q.sc q.c0 q.c1]
 by_cases zW:(bY (ag s g) j).send=true
 ·simp only [if_pos zW];have e1:su (aF s (su s (aa s g).hold).ch (bT (cn s (su s (aa s g).hold).ch) (aa s g).hold)) (aa s g).hold=su s (aa s g).hold:=rfl;rw [e1,J9 hg q.o1 (by exact q.so) q.ne hd.1 hd.2 rfl];exact h.zX hg st k e rfl q sw _ (by simp) _ ⟨rfl,rfl,rfl,rfl,rfl⟩
 ·simp only [if_neg zW];rw [nL];obtain ⟨r,hr,iP⟩:∃ r,({ dI (hand (aF s (su s (aa s g).hold).ch (bT (cn s (su s (aa s g).hold).ch) (aa s g).hold)) (bL (aa s g) j) (aa s g).hold).2 true with cs:=j }:Md.ak)=r∧r.code≠0:=⟨_,rfl,by simp [dI]⟩
  rw [hr];clear hr;unfold hand;simp only
  split
  ·rw [D6 hg q.o1 q.so q.ne rfl];exact h.zX hg st k e rfl q sw _ iP _ ⟨rfl,rfl,rfl,rfl,rfl⟩
  ·simp only;rw [DB q.c0 q.c1 d0 d1];obtain ⟨bf,hb,zN⟩:∃ b,(fM (cn (aF s (su s (aa s g).hold).ch (bT (cn s (su s (aa s g).hold).ch) (aa s g).hold)) (bL (aa s g) j)).buf (cn (aF s (su s (aa s g).hold).ch (bT (cn s (su s (aa s g).hold).ch) (aa s g).hold)) (bL (aa s g) j)).cap (su (aF s (su s (aa s g).hold).ch (bT (cn s (su s (aa s g).hold).ch) (aa s g).hold)) (aa s g).hold).v).1=b∧b.length=(cn s (bL (aa s g) j)).buf.length:=by
    refine ⟨_,rfl,?_⟩;rw [DC,kQ q.c0 q.c1 rfl _ d0];unfold up
    split
    ·rename_i c;rw [c];rfl
    ·rfl
   rw [hb];have qI:=h.fH d0 d1;have h2:MInv (aF s (bL (aa s g) j) { cn s (bL (aa s g) j) with buf:=bf }):=h.buf d0 d1 rfl rfl rfl ⟨qI.1,qI.2.1,by simp only;rw [zN];exact qI.2.2⟩;obtain ⟨s2,iB⟩:∃ s2,aF s (bL (aa s g) j) { cn s (bL (aa s g) j) with buf:=bf }=s2:=⟨_,rfl⟩
   have eg:∀ j,aa s2 j=aa s j:=fun j=>by rw [← iB];rfl
   have es:∀ j,su s2 j=su s j:=fun j=>by rw [← iB];rfl
   have el:s2.gs.length=s.gs.length:=by rw [← iB];rfl
   have ec:s2.ax.length=s.ax.length:=by rw [← iB];simp [aF]
   have eq:∀ ch,1≤ch→(cn s2 ch).recv=(cn s ch).recv∧(cn s2 ch).send=(cn s ch).send:=by
    intro ch a;rw [← iB,kQ d0 d1 rfl ch a];unfold up
    split
    ·grind
    ·exact ⟨rfl,rfl⟩
   rw [iB] at h2 ⊢;have eo:ag s2 g=ag s g:=by unfold ag;rw [eg]
   rw [← es,← eg];rw [D6 (by rw [el];exact hg) (by rw [el];exact q.o1) (by rw [es,eg];exact q.so) q.ne rfl];refine h2.zX (by rw [el];exact hg) (by rw [eg];exact st) (by rw [eo];exact k) (by rw [eg];exact e) rfl ⟨?_,?_,rfl,?_,?_,q.ne,?_,?_,?_,?_,?_,?_⟩ ?_ _ iP _ ⟨rfl,rfl,rfl,rfl,rfl⟩
   ·rw [es,eg];exact q.c0
   ·rw [es,eg,ec];exact q.c1
   ·rw [es,eg];exact q.so
   ·rw [el];exact q.o1
   ·rw [es,eg];exact q.hh
   ·rw [eg];exact q.wt
   ·rw [eg];exact q.pm
   ·rw [eg,eg];exact q.own
   ·rw [eg];exact q.se
   ·rw [es,eg,eg,(eq _ q.c0).1,(eq _ q.c0).2];exact q.sr
   ·grind
end Sx
namespace Sx
variable {s t:ah} {g:Nat} {nc ns n:Int} {x y:Gr}
theorem D7 {l:List Int} {i j v:Int} (i0:0≤i) (j0:0≤j) (j1:j < l.length):aB (l.set i.toNat v) j=if j=i then v else aB l j:=by
 unfold aB;simp only [List.getD_eq_getElem?_getD,List.getElem?_set]
 by_cases c:j=i
 ·grind
 ·grind
theorem lN {l:List Int} {v:Int}:v∈l↔∃ j:Int,0≤j∧j < l.length∧aB l j=v:=by
 constructor
 ·intro h;obtain ⟨k,hk,e⟩:=List.getElem_of_mem h;refine ⟨k,by omega,by omega,?_⟩;unfold aB;rw [List.getD_eq_getElem?_getD,Int.toNat_natCast,List.getElem?_eq_getElem hk,e];rfl
 ·rintro ⟨j,a,b,rfl⟩
  exact pe a b
theorem qM (hs:SE x) (hy:SE y) (px:28≤x.place∧x.place≤34∨x.place=13∨x.place=14) (py:28≤y.place∧y.place≤34∨y.place=13∨y.place=14) (e:y.au=x.au) (i:Int):Own y i↔Own x i:=by
 have nx:¬ SR x:=fun w=>w.ne hs
 have ny:¬ SR y:=fun w=>w.ne hy
 unfold Own;simp only [nx,ny,false_and,false_or,e]
 constructor
 ·grind
 ·grind
theorem gY.mt (h:gY x y) (hs:SE x) (e:y.au=x.au) {i:Int} {d:Su} (m:Match x i d):Match y i d:=by
 rcases m with m | m
 ·grind [Wt,SE,SR]
 ·exact .inr ⟨h.se.2 hs,by rw [e,h.aG,h.order,h.ch];exact m.2⟩
theorem MInv.aD (h:MInv s) (hg:g < s.gs.length) (st:(aa s g).status=0) (k:(ag s g).kind=9) (e:(aa s g).place=28):MInv (aD s g (ag s g)):=by
 have L:=h.loc hg;have kx:SE (aa s g):=k;have b:=h.iN hg k (by unfold cZ;omega);have dm:=h.nu hg (by omega);have nw:¬ Wt (aa s g):=lM (by omega);obtain ⟨pm,tk⟩:=L.qJ nw;have dJ:=b.hand (by omega);have k2:=b.k2 (by omega);have k0:=b.k0;have s2:=b.s2 (by omega);have s4:=b.s4;have s5:=b.s5 e;have cc:=b.c1 (by omega);have l3:=b.l3;have nq:=oG kx (x:=aa s g) (by omega);unfold Sx.aD;simp only;have nL:(bY (ag s g) (aB (aa s g).order (aa s g).k)).ch=bL (aa s g) (aB (aa s g).order (aa s g).k):=rfl;rw [nL];have jB:=wR k0 k2;have pJ:=uI k0 k2;have s8:=b.s8 e;generalize hi:aB (aa s g).order (aa s g).k=i at *
 by_cases ok:(bw s g).2.2=true
 ·rw [if_pos ok];have T:=wL h hg ok;generalize (bw s g).2.1=d at *;generalize (bw s g).1=t at *;have Ka:g < (bg t d ⟨true,g,bL (aa s g) i,i,(bY (ag s g) i).send,(bY (ag s g) i).v,false⟩).gs.length:=by show g < t.gs.length;rw [T.gs];exact hg
  rw [uJ Ka];obtain ⟨y,hy⟩:∃ y,(if ({ aa s g with au:=(aa s g).au.set i.toNat d }:Gr).k + 1=(({ aa s g with au:=(aa s g).au.set i.toNat d }:Gr).order.length:Int) then ({ ({ aa s g with au:=(aa s g).au.set i.toNat d }:Gr) with k:=0,place:=29 }:Gr) else { ({ aa s g with au:=(aa s g).au.set i.toNat d }:Gr) with k:=({ aa s g with au:=(aa s g).au.set i.toNat d }:Gr).k + 1 })=y:=⟨_,rfl⟩
  rw [hy];have hk:gY (aa s g) y:=by rw [← hy];split <;> exact ⟨rfl,rfl,rfl,rfl,rfl,rfl,rfl,rfl,rfl⟩
  have ys:y.au=(aa s g).au.set i.toNat d∧y.an=(aa s g).an∧y.res.code=0:=by grind
  have yp:(y.place=29∧y.k=0∧(aa s g).k + 1=(aa s g).order.length)∨(y.place=28∧y.k=(aa s g).k + 1∧(aa s g).k + 1 < (aa s g).order.length):=by grind
  clear hy;have dD:SE y:=hk.se.2 kx;have jy:i < ((aa s g).au.length:Int):=by omega
  have ji:∀ j:Int,0≤j→j < (aa s g).au.length→aB y.au j=if j=i then d else aB (aa s g).au j:=fun j a c=>by rw [ys.1,D7 dJ.2.1 a c]
  have lO:y.au.length=(aa s g).au.length:=by grind
  have Kb:aB (aa s g).au i=-1:=s5 i (by rw [jB];simp);have d0:=T.i0;have d1:=T.i1;have nodup:=b.o2;have mG:ff s.ax.length s.aD.length y:=by
   have ho:=hk.aG;have hc:=hk.ch;have o1:=b.o1;have o3:=b.o3;have kk:0≤y.k∧y.k < (aa s g).order.length:=by omega
   have QE:y.place=28∨y.place=29:=by omega
   constructor
   ·rw [hk.order,hk.aC,ho];simp only [hc];exact o1
   ·rw [hk.order];exact b.o2
   ·rw [hk.order];exact o3
   ·rw [hk.aC];exact b.l1
   ·rw [hk.aC];exact b.l2
   ·rw [hk.aC];exact b.l3
   ·exact kk.1
   ·intro c;omega
   ·rw [hk.order];intro _;exact kk.2
   ·intro c;omega
   ·intro c;omega
   ·grind
   ·intro c;omega
   ·intro j a c;rw [lO] at c;rw [ji j a c,hk.order]
    split
    ·grind
    ·exact s4 j a c
   ·intro c j hj;have nj:j∈(aa s g).order.drop ((aa s g).k + 1).toNat:=by
     rw [hk.order] at hj;rcases yp with w | w
     ·omega
     ·grind
    have mH:=o1 j (List.mem_of_mem_drop nj);have jL:j≠i:=by
     intro z;have:=nodup;rw [← List.take_append_drop (aa s g).k.toNat (aa s g).order,jB] at this;have:=(List.nodup_append.1 this).2.1;exact (List.nodup_cons.1 this).1 (z ▸ nj)
    rw [ji j mH.1 (by rw [s2];exact mH.2.1),if_neg jL];exact s5 j (by rw [jB];exact List.mem_cons_of_mem _ nj)
   ·intro c j hj;rw [hk.order] at hj;have mH:=o1 j hj;rw [ji j mH.1 (by rw [s2];exact mH.2.1)]
    split
    ·exact d0
    ·rename_i z;refine s8 j ?_;rw [← List.take_append_drop (aa s g).k.toNat (aa s g).order,jB] at hj;rcases List.mem_append.1 hj with w | w
     ·exact w
     ·rcases List.mem_cons.1 w with w | w
      ·exact absurd w z
      ·have:(aa s g).order.drop ((aa s g).k + 1).toNat=[]:=List.drop_eq_nil_of_le (by omega);rw [this] at w;simp at w
   ·intro c;omega
   ·intro _;exact ys.2.2
   ·intro c;omega
   ·intro c j hj;have c2:y.k=(aa s g).k + 1:=by omega
    rw [hk.order,c2,pJ] at hj;have mH:0≤j∧j < (aG (aa s g)).cases.length:=by grind
    rw [ji j mH.1 (by rw [s2];exact mH.2)]
    split
    ·exact d0
    ·grind
  have D8:∀ j,Own (aa s g) j→∃ c:Int,0≤c∧c < (aa s g).au.length∧aB (aa s g).au c=j∧c≠i:=by
   rintro j ⟨j0,w | w⟩
   ·omega
   ·obtain ⟨c,c0,c1,c2⟩:=lN.1 w.2.2;exact ⟨c,c0,c1,c2,fun z=>by rw [z,Kb] at c2;omega⟩
  refine h.take hg T (x:=y) (L.kf kx (by omega) hk.ops hk.at_ (by rw [hk.status];exact st) (by rw [hk.token];exact tk) (by rw [hk.param];exact pm) (by omega) (by rw [ys.2.1,dm];simp) (by rw [ys.2.1,dm];simp) (by rw [ys.2.1,dm];simp) (by omega) h.gX mG) ?_ ?_ ?_ ?_ rfl nq (by unfold cj;omega) (by unfold cG;omega) ys.2.1 nw hk.at_
  ·intro ch;rw [ko dD (by unfold iO;omega),ko kx (by unfold iO;omega),hk.aC]
  ·intro j
   constructor
   ·rintro ⟨j0,w | w⟩
    ·omega
    ·obtain ⟨c,c0,c1,c2⟩:=lN.1 w.2.2;rw [lO] at c1;rw [ji c c0 c1] at c2
     split at c2
     ·exact .inr c2.symm
     ·exact .inl ⟨j0,.inr ⟨kx,by omega,lN.2 ⟨c,c0,c1,c2⟩⟩⟩
   ·rintro (w | w)
    ·obtain ⟨c,c0,c1,c2,c3⟩:=D8 j w;refine ⟨w.1,.inr ⟨dD,by omega,lN.2 ⟨c,c0,by rw [lO];exact c1,?_⟩⟩⟩;rw [ji c c0 c1,if_neg c3];exact c2
    ·subst w;refine ⟨d0,.inr ⟨dD,by omega,lN.2 ⟨i,dJ.2.1,by rw [lO];exact jy,?_⟩⟩⟩;rw [ji i dJ.2.1 jy,if_pos rfl]
  ·intro j w;obtain ⟨c,c0,c1,c2,c3⟩:=D8 j w;have hO:=Inv.own h.v (g:Int) (by omega) (by omega) j (by rw [dY];exact w);rw [dY] at hO;rcases hO.2.1 with m | m
   ·exact absurd kx m.1.ne
   ·obtain ⟨_,m1,m2,m3,m4,m5,m6,m7⟩:=m;have ec:=m7 c c0 c1 c2;refine .inr ⟨dD,m1,by rw [lO];exact m2,?_,by rw [hk.ch];exact m4,by rw [hk.aG];exact m5,by rw [hk.order];exact m6,?_⟩
    ·grind
    ·intro q q0 q1 q2;rw [lO] at q1;rw [ji q q0 q1] at q2
     split at q2
     ·exfalso
      have:=hO.2.2.2;rw [← q2] at this;rw [T.nl] at this;cases this
     ·exact m7 q q0 q1 q2
  ·refine .inr ⟨dD,dJ.2.1,by rw [lO];exact jy,by rw [ji i dJ.2.1 jy,if_pos rfl],by rw [hk.ch],by rw [hk.aG];rfl,by rw [hk.order];exact dJ.1,?_⟩;intro q q0 q1 q2;rw [lO] at q1;rw [ji q q0 q1] at q2
   split at q2
   ·rename_i z;exact z
   ·exfalso
    have w:Own (aa s g) d:=⟨d0,.inr ⟨kx,by omega,lN.2 ⟨q,q0,q1,q2⟩⟩⟩
    have hO:=Inv.own h.v (g:Int) (by omega) (by omega) d (by rw [dY];exact w);have:=hO.2.2.2;rw [T.nl] at this;cases this
 ·rw [if_neg ok];have e1:(bw s g).1=s:=by
   unfold bw at ok ⊢
   split
   ·grind
   ·grind
  rw [e1,wU hg];obtain ⟨y,hy⟩:∃ y,({ ({ aa s g with res:={ (aa s g).res with code:=6 } }:Gr) with k:=(({ aa s g with res:={ (aa s g).res with code:=6 } }:Gr).aC.length:Int),place:=30 }:Gr)=y:=⟨_,rfl⟩
  rw [hy];have hk:gY (aa s g) y:=by rw [← hy];exact ⟨rfl,rfl,rfl,rfl,rfl,rfl,rfl,rfl,rfl⟩
  have ys:y.au=(aa s g).au∧y.an=(aa s g).an∧y.res.code=6∧y.place=30∧y.k=(aa s g).aC.length:=by grind
  clear hy;have dD:SE y:=hk.se.2 kx;have mG:ff s.ax.length s.aD.length y:=by
   have ho:=hk.aG;have hc:=hk.ch;have o1:=b.o1;have pl:=ys.2.2.2.1
   constructor
   ·rw [hk.order,hk.aC,ho];simp only [hc];exact o1
   ·rw [hk.order];exact b.o2
   ·rw [hk.order];exact b.o3
   ·rw [hk.aC];exact b.l1
   ·rw [hk.aC];exact b.l2
   ·rw [hk.aC];exact l3
   ·omega
   ·intro c;omega
   ·intro c;omega
   ·rw [hk.aC];intro c;omega
   ·intro c;omega
   ·intro c;omega
   ·grind
   ·rw [ys.1,hk.order];exact s4
   ·intro c;omega
   ·intro c;omega
   ·intro c;omega
   ·intro c;omega
   ·intro c;omega
   ·intro c;omega
  refine h.self hg ⟨L.kf kx (by omega) hk.ops hk.at_ (by rw [hk.status];exact st) (by rw [hk.token];exact tk) (by rw [hk.param];exact pm) (by omega) (by rw [ys.2.1,dm];simp) (by rw [ys.2.1,dm];simp) (by rw [ys.2.1,dm];simp) (by omega) h.gX mG,?_,qM kx dD (by omega) (by omega) ys.1,fun i d _ m=>hk.mt kx ys.1 m,fun i j w=>absurd w (nq i j),by unfold cG;omega,fun q=>by rw [ys.2.1];exact id,fun w=>absurd w.1 nw,fun w=>absurd w.1 nw⟩ hk.at_ (fun w=>by unfold cj at w;omega);intro ch;rw [ko dD (by unfold iO;rw [hk.aC];omega),ko kx (by unfold iO;omega),hk.aC]
end Sx
namespace Sx
variable {s t:ah} {g:Nat} {nc ns n:Int} {x y:Gr}
theorem MInv.uK (h:MInv s) (hg:g < s.gs.length) (k:(ag s g).kind=9) (px:28≤(aa s g).place∧(aa s g).place≤34∨(aa s g).place=13∨(aa s g).place=14) {i:Int} (i0:0≤i) (i1:i < (aa s g).au.length) (v0:0≤aB (aa s g).au i) :
  Own (aa s g) (aB (aa s g).au i)∧aB (aa s g).au i < s.aD.length∧(su s (aB (aa s g).au i)).g=g∧(su s (aB (aa s g).au i)).cs=i∧(su s (aB (aa s g).au i)).ch=bL (aa s g) i∧(su s (aB (aa s g).au i)).send=(bY (ag s g) i).send∧Match (aa s g) (aB (aa s g).au i) (su s (aB (aa s g).au i)):=by
 have kx:SE (aa s g):=k;have w:Own (aa s g) (aB (aa s g).au i):=⟨v0,.inr ⟨kx,px,lN.2 ⟨i,i0,i1,rfl⟩⟩⟩
 have hO:=Inv.own h.v (g:Int) (by omega) (by omega) _ (by rw [dY];exact w);rw [dY] at hO;rcases hO.2.1 with m | m
 ·exact absurd kx m.1.ne
 ·have m':=m;obtain ⟨_,m1,m2,m3,m4,m5,m6,m7⟩:=m;have e:=m7 i i0 i1 rfl;rw [← e] at m4 m5;exact ⟨w,hO.1,hO.2.2.1,e.symm,m4,m5,.inr m'⟩
theorem MInv.jP (h:MInv s) (hg:g < s.gs.length) (st:(aa s g).status=0) (k:(ag s g).kind=9) (e:(aa s g).place=29):MInv (jP s g (ag s g)):=by
 have L:=h.loc hg;have kx:SE (aa s g):=k;have b:=h.iN hg k (by unfold cZ;omega);have dm:=h.nu hg (by omega);have nw:¬ Wt (aa s g):=lM (by omega);obtain ⟨pm,tk⟩:=L.qJ nw;have dJ:=b.hand (by omega);have k2:=b.k2 (by omega);have k0:=b.k0;have s2:=b.s2 (by omega);have s4:=b.s4;have s6:=b.s6 (by omega);have cc:=b.c1 (by omega);have l3:=b.l3;have eA:=dY s g;have pJ:=uI k0 k2;unfold Sx.jP;simp only;have nL:(bY (ag s g) (aB (aa s g).order (aa s g).k)).ch=bL (aa s g) (aB (aa s g).order (aa s g).k):=rfl;rw [nL];generalize hi:aB (aa s g).order (aa s g).k=i at *;have jy:i < ((aa s g).au.length:Int):=by omega
 have v0:=s6 i dJ.1;obtain ⟨w,w1,w2,w3,w4,w5,w6⟩:=h.uK hg k (by omega) dJ.2.1 jy v0;generalize hv:aB (aa s g).au i=v at *;have fin:∀ (c':Cn) (y:Gr),gY (aa s g) y→y.au=(aa s g).au→y.an=(aa s g).an→y.res.code=(aa s g).res.code→(y.place=29∧y.k=(aa s g).k + 1∧(aa s g).k + 1 < (aa s g).order.length∨y.place=30∧y.k=(aa s g).aC.length∧(aa s g).k + 1=(aa s g).order.length) →
   c'.lock=(cn s (bL (aa s g) i)).lock→c'.cap=(cn s (bL (aa s g) i)).cap→c'.buf=(cn s (bL (aa s g) i)).buf→(c'.recv=if (su s v).send=true then (cn s (bL (aa s g) i)).recv else (cn s (bL (aa s g) i)).recv ++ [v])→(c'.send=if (su s v).send=true then (cn s (bL (aa s g) i)).send ++ [v] else (cn s (bL (aa s g) i)).send) →
   MInv (ai (aF s (bL (aa s g) i) c') g y):=by
  intro c' y hk jD oJ Kc hp e1 e2 e3 er es;have dD:SE y:=hk.se.2 kx;have mG:ff s.ax.length s.aD.length y:=by
   have ho:=hk.aG;have hc:=hk.ch;have o1:=b.o1
   constructor
   ·rw [hk.order,hk.aC,ho];simp only [hc];exact o1
   ·rw [hk.order];exact b.o2
   ·rw [hk.order];exact b.o3
   ·rw [hk.aC];exact b.l1
   ·rw [hk.aC];exact b.l2
   ·rw [hk.aC];exact l3
   ·omega
   ·intro c;omega
   ·rw [hk.order];intro c;omega
   ·rw [hk.aC];intro c;omega
   ·intro c;omega
   ·grind
   ·grind
   ·rw [jD,hk.order];exact s4
   ·intro c;omega
   ·rw [jD,hk.order];intro _;exact s6
   ·intro c;omega
   ·omega
   ·intro c;omega
   ·intro c;omega
  have hold:∀ ch,bh y ch↔bh (aa s g) ch:=by
   intro ch;rw [ko dD (by unfold iO;rw [hk.aC];omega),ko kx (by unfold iO;omega),hk.aC]
  have r:Rest s (ai (aF s (bL (aa s g) i) c') g y):=(Rest.dK s _ c').trans (Rest.fJ _ hg hk.at_);refine h.rest r (V.of r (Inv.push h.v (g:=g) (i:=v) (x:=y) (c:=bL (aa s g) i) (c':=c') (by omega) (by omega) (by rw [eA];exact w) dJ.2.2.2.2.1 dJ.2.2.2.2.2 w4 (L.kf kx (by omega) hk.ops hk.at_ (by rw [hk.status];exact st) (by rw [hk.token];exact tk) (by rw [hk.param];exact pm) (by omega) (by rw [oJ,dm];simp) (by rw [oJ,dm];simp) (by rw [oJ,dm];simp) (by omega) h.gX mG) ?_ ?_ ?_ ?_ ?_ ?_ ?_ ?_ ?_ ?_ e1 e2 e3 er es) (fun j j0=>oC hg rfl j j0) (fun ch q=>kQ dJ.2.2.2.2.1 dJ.2.2.2.2.2 rfl ch q) (fun _ _=>rfl))
  ·grind
  ·intro j;rw [eA];exact qM kx dD (by omega) (by omega) jD j
  ·intro j q;have q2:=(qM kx dD (by omega) (by omega) jD j).1 q;have hO:=Inv.own h.v (g:Int) (by omega) (by omega) j (by rw [eA];exact q2);rw [eA] at hO;exact hk.mt kx jD hO.2.1
  ·rw [eA,w3]
   rintro (q | q)
   ·exact q.1.ne kx
   ·have q5:=q.2.2.2.2;have:i∈(aa s g).order.take (aa s g).k.toNat:=by grind
    have nd:=b.o2;rw [← List.take_append_drop (aa s g).k.toNat (aa s g).order,wR k0 k2,hi] at nd;exact (List.nodup_append.1 nd).2.2 i this i (by simp) rfl
  ·rw [eA];intro j l q;rcases q with q | q
   ·omega
   ·obtain ⟨q1,q2,q3,q4,q5⟩:=q;refine .inr ⟨dD,q2,by rw [jD];exact q3,by rw [jD];exact q4,?_⟩;have q6:l∈(aa s g).order.take (aa s g).k.toNat:=by grind
    rcases hp with hp | hp
    ·refine .inl ⟨hp.1,?_⟩;rw [hk.order,hp.2.1,pJ];exact List.mem_append_left _ q6
    ·omega
  ·rw [w3];refine .inr ⟨dD,dJ.2.1,by rw [jD];exact jy,by rw [jD];exact hv,?_⟩;rcases hp with hp | hp
   ·refine .inl ⟨hp.1,?_⟩;rw [hk.order,hp.2.1,pJ];simp
   ·omega
  ·unfold cj;omega
  ·unfold cG;omega
  ·rw [eA];exact oJ
  ·rw [eA];exact nw
 obtain ⟨c',D9⟩:∃ c',(if (bY (ag s g) i).send=true then { cn s (bL (aa s g) i) with send:=(cn s (bL (aa s g) i)).send ++ [v] } else { cn s (bL (aa s g) i) with recv:=(cn s (bL (aa s g) i)).recv ++ [v] })=c':=⟨_,rfl⟩
 rw [D9];have c1:c'.lock=(cn s (bL (aa s g) i)).lock:=by grind
 have c2:c'.cap=(cn s (bL (aa s g) i)).cap:=by grind
 have c3:c'.buf=(cn s (bL (aa s g) i)).buf:=by grind
 have c4:c'.recv=if (su s v).send=true then (cn s (bL (aa s g) i)).recv else (cn s (bL (aa s g) i)).recv ++ [v]:=by grind
 have c5:c'.send=if (su s v).send=true then (cn s (bL (aa s g) i)).send ++ [v] else (cn s (bL (aa s g) i)).send:=by grind
 clear D9;have gC:g < (aF s (bL (aa s g) i) c').gs.length:=hg
 by_cases c:(aa s g).k + 1 < (aa s g).order.length
 ·rw [if_pos c,zV gC];have g0:aa (aF s (bL (aa s g) i) c') g=aa s g:=rfl;rw [g0,ay];exact fin c' _ ⟨rfl,rfl,rfl,rfl,rfl,rfl,rfl,rfl,rfl⟩ rfl rfl rfl (.inl ⟨e,rfl,c⟩) c1 c2 c3 c4 c5
 ·rw [if_neg c,wU gC];exact fin c' _ ⟨rfl,rfl,rfl,rfl,rfl,rfl,rfl,rfl,rfl⟩ rfl rfl rfl (.inr ⟨rfl,rfl,by omega⟩) c1 c2 c3 c4 c5
end Sx
namespace Sx
variable {s t:ah} {g:Nat} {nc ns n:Int} {x y:Gr}
theorem MInv.Ke (h:MInv s) (hg:g < s.gs.length) (st:(aa s g).status=0) (k:(ag s g).kind=9) (e:(aa s g).place=14):MInv (kJ s g):=by
 have L:=h.loc hg;have kx:SE (aa s g):=k;have b:=h.iN hg k (by unfold cZ;omega);have dm:=h.nu hg (by omega);have pm:=L.p1 e st;have pk:=L.p3 pm kx;have s2:=b.s2 (by omega);have s4:=b.s4;have s6:=b.s6 (by omega);have l3:=b.l3;have tk:(aa s g).token=false:=by
  cases c:(aa s g).token
  ·rfl
  ·exact absurd e (L.tk c).2.2
 unfold kJ;simp only;obtain ⟨r,hr⟩:∃ r,(if (su s (aa s g).param).send=true∧(su s (aa s g).param).done=true then ({ (if (su s (aa s g).param).done=true then ({ dI (su s (aa s g).param).v true with cs:=(su s (aa s g).param).cs }:Md.ak) else { dI 0 false with cs:=(su s (aa s g).param).cs }) with v:=0 }:Md.ak) else if (su s (aa s g).param).send=true then ⟨3,(su s (aa s g).param).cs,0,false,0⟩ else (if (su s (aa s g).param).done=true then ({ dI (su s (aa s g).param).v true with cs:=(su s (aa s g).param).cs }:Md.ak) else { dI 0 false with cs:=(su s (aa s g).param).cs }))=r:=⟨_,rfl⟩
 rw [hr];clear hr;obtain ⟨y,hy⟩:∃ y,({ aa s g with res:=r,param:=-1,k:=0,place:=31 }:Gr)=y:=⟨_,rfl⟩
 rw [hy];have y1:y.ops=(aa s g).ops∧y.at_=(aa s g).at_∧y.status=(aa s g).status∧y.token=(aa s g).token∧y.bp=(aa s g).bp∧y.param=-1∧y.order=(aa s g).order∧y.aC=(aa s g).aC∧y.au=(aa s g).au∧y.an=(aa s g).an∧y.k=0∧y.place=31:=by grind
 clear hy;obtain ⟨z1,z2,z3,z4,z5,z6,z7,z8,z9,wV,QF,Kf⟩:=y1;have ho:aG y=aG (aa s g):=by unfold aG;rw [z1,z2]
 have hc:∀ j,bL y j=bL (aa s g) j:=fun j=>by unfold bL;rw [ho]
 have dD:SE y:=by unfold SE;rw [ho];exact kx
 have o1:=b.o1;have mG:ff s.ax.length s.aD.length y:=by
  constructor
  ·grind
  ·rw [z7];exact b.o2
  ·rw [z7];exact b.o3
  ·rw [z8];exact b.l1
  ·rw [z8];exact b.l2
  ·rw [z8];exact l3
  ·omega
  ·grind
  ·intro c;omega
  ·intro c;omega
  ·intro c;omega
  ·grind
  ·intro c;omega
  ·rw [z9,z7];exact s4
  ·intro c;omega
  ·grind
  ·intro c;omega
  ·intro c;omega
  ·grind
  ·intro c;omega
 have wX:∀ ch,¬ bh (aa s g) ch:=by
  intro ch w;rw [qL kx] at w;omega
 have wY:∀ ch,¬ bh y ch:=by
  intro ch w;rw [qL dD] at w;rcases w with w | w
  ·omega
  ·simp_all
 refine h.self hg ⟨L.kf kx (by omega) z1 z2 (by rw [z3];exact st) (by rw [z4];exact tk) z6 (by omega) (by rw [wV,dm];simp) (by rw [wV,dm];simp) (by rw [wV,dm];simp) (by omega) h.gX mG,fun ch=>⟨fun w=>absurd w (wY ch),fun w=>absurd w (wX ch)⟩,qM kx dD (by omega) (by omega) z9,?_,?_,by unfold cG;omega,fun q=>by rw [wV];exact id,fun w=>absurd st (w.2.2.2 e),fun w=>by have:=w.2.1;omega⟩ z2 (fun w=>by unfold cj at w;omega)
 ·intro i d _ m;rcases m with m | m
  ·exact absurd kx m.1.ne
  ·exact .inr ⟨dD,by rw [z9,ho,z7,hc];exact m.2⟩
 ·intro i j q;rcases q with q | q
  ·omega
  ·exact .inr ⟨dD,q.2.1,by rw [z9];exact q.2.2.1,by rw [z9];exact q.2.2.2.1,.inr (.inr (.inr (.inl Kf)))⟩
theorem wZ {s:ah} {g:Nat} (hg:g < s.gs.length):(cK s g).1=ai (aF s (aB (aa s g).aC ((aa s g).k - 1)) { cn s (aB (aa s g).aC ((aa s g).k - 1)) with lock:=-1 }) g { aa s g with k:=(aa s g).k - 1 }:=rfl
structure zY (nc ns n:Int) (x y:Gr):Prop where
 kp:gY x y
 au:y.au=x.au
 an:y.an=x.an
 code:y.res.code=x.res.code
 k:y.k=x.k - 1
 hp:(x.place=30∨x.place=33)∧y.place=x.place∧1≤y.k∨x.place=30∧x.res.code=0∧y.place=13∧y.k=0∨(x.place=33∨x.place=30∧x.res.code≠0∧x.au≠[])∧y.place=34∧y.k=0 ∨
  x.place=30∧x.res.code≠0∧(∀ i∈x.au,i < 0)∧y.k=0∧(y.place=17∧x.an≠[]∨y.place=18∧x.an=[])
theorem zY.kf (f:zY nc ns n x y) (b:ff nc ns x) (e:cZ y.place):ff nc ns y:=by
 have h:=f.kp;have hp:=f.hp;have fk:=f.k;have ho:=h.aG;have hc:=h.ch;have o1:=b.o1;have l3:=b.l3;have o3:=b.o3;have k0:=b.k0;have k3:1≤x.k∧x.k≤x.aC.length:=b.k3 (by omega);have nZ:y.place=x.place∧1≤y.k∧(x.place=30∨x.place=33)∨y.place=13∧x.place=30∧x.res.code=0∨y.place=34∧y.k=0:=by unfold cZ at e;omega
 constructor
 ·rw [h.order,h.aC,ho];simp only [hc];exact o1
 ·rw [h.order];exact b.o2
 ·rw [h.order];exact o3
 ·rw [h.aC];exact b.l1
 ·rw [h.aC];exact b.l2
 ·rw [h.aC];exact l3
 ·omega
 ·intro c;omega
 ·rw [h.order];intro c;omega
 ·rw [h.aC];intro c;omega
 ·intro c;omega
 ·rw [f.au,ho];intro c;rcases hp with w | w | w | w
  ·exact b.s2 (by omega)
  ·rcases b.s3 w.1 with z | z
   ·exact z
   ·omega
  ·rcases w.1 with q | q
   ·exact b.s2 (by omega)
   ·rcases b.s3 q.1 with z | z
    ·exact z
    ·grind
  ·omega
 ·rw [f.au,ho,f.code];intro c;exact b.s3 (by omega)
 ·rw [f.au,h.order];exact b.s4
 ·intro c;omega
 ·rw [f.au,h.order,f.code];intro c;exact b.s6 (by omega)
 ·intro c j hj;rw [show y.k=0 by omega] at hj;simp at hj
 ·rw [f.code];intro c;rcases hp with w | w | w | w
  ·omega
  ·exact w.2.1
  ·omega
  ·omega
 ·rw [h.bp];intro c;exact b.c2 (by omega)
 ·intro c;omega
end Sx
namespace Sx
variable {s t:ah} {g:Nat} {nc ns n:Int} {x y:Gr}
theorem Loc.fin (L:Loc nc ns n x) (hs:SE x) (xp:x.place≠0) (h1:y.ops=x.ops) (h2:y.at_=x.at_) (st:y.status=0) (tk:y.token=false) (pm:y.param=-1) (hp:y.place=17∧y.an≠[]∨y.place=18∧y.an=[]) (w3:∀ p∈y.an,0≤p∧p < n) (w4:y.an.Nodup) (pM:0≤ns):Loc nc ns n y:=by
 have ho:aG y=aG x:=by unfold aG;rw [h1,h2]
 have fO:=L.fO;have pl:=L.pl.resolve_left xp;have hk:(aG x).kind=9:=hs;have yp:y.place=17∨y.place=18:=by omega
 constructor
 ·rw [h1];exact L.lB
 ·rw [h1];exact fO
 ·rw [h2];exact L.a0
 ·grind
 ·rw [h1,h2,ho];exact .inr ⟨pl.1,by unfold bn;omega⟩
 ·grind
 ·exact .inl st
 ·intro c;omega
 ·intro c;omega
 ·intro c;omega
 ·rw [tk];simp
 ·grind
 ·grind
 ·exact w3
 ·exact w4
 ·intro c;omega
 ·intro _ c d;omega
 ·rw [pm];omega
 ·intro c;omega
 ·omega
 ·omega
 ·intro _ c;unfold cZ at c;omega
theorem Loc.waits (L:Loc nc ns n x) (hs:SE x) (e:x.place=30) (ec:x.res.code=0) (h:gY x y) (eg:y.au=x.au) (ew:y.an=x.an) (QG:y.res.code=x.res.code) (yp:y.place=30∨y.place=13) (st:x.status=0) (ys:ff nc ns y):Loc nc ns n y:=by
 have ho:=h.aG;have fO:=L.fO;have pl:=L.pl.resolve_left (by omega);have hk:(aG x).kind=9:=hs;have hy:SE y:=h.se.2 hs;have wy:Wt y:=.inr ⟨hy,by omega⟩;have dm:x.an=[]:=by
  by_cases w:x.an=[]
  ·exact w
  ·have:=L.w1 w;omega
 constructor
 ·rw [h.ops];exact L.lB
 ·rw [h.ops];exact fO
 ·rw [h.at_];exact L.a0
 ·rw [h.ops,h.at_];exact L.a1
 ·rw [h.ops,h.at_,ho];exact .inr ⟨pl.1,by unfold bn;omega⟩
 ·grind
 ·rw [h.status];exact .inl st
 ·rw [h.status];intro c;omega
 ·intro c;omega
 ·rw [h.status];intro c;omega
 ·rw [h.token,h.param];intro c;exact ⟨wy,(L.tk c).2.1,by omega⟩
 ·rw [ew,dm];simp
 ·intro c;omega
 ·rw [ew,dm];simp
 ·rw [ew,dm];simp
 ·intro c;omega
 ·intro c;exact absurd hy c.ne
 ·rw [h.param];exact L.p0
 ·intro c;omega
 ·rw [h.param];intro c;exact ⟨wy,(qM hs hy (by omega) (by omega) eg _).2 (L.p2 c).2⟩
 ·rw [h.param,h.bp];intro c _;exact L.p3 c hs
 ·intro _ _;exact ys
theorem MInv.qN (h:MInv s) (hg:g < s.gs.length) (st:(aa s g).status=0) (k:(ag s g).kind=9) (e:(aa s g).place=30∨(aa s g).place=33) {y:Gr} (f:zY s.ax.length s.aD.length s.gs.length (aa s g) y):MInv (ai (aF s (aB (aa s g).aC ((aa s g).k - 1)) { cn s (aB (aa s g).aC ((aa s g).k - 1)) with lock:=-1 }) g y):=by
 have L:=h.loc hg;have kx:SE (aa s g):=k;have dD:SE y:=f.kp.se.2 kx;have b:=h.iN hg k (by unfold cZ;omega);have k3:=b.k3 e;have hm:=pe (l:=(aa s g).aC) (k:=(aa s g).k - 1) (by omega) (by omega);have oH:=b.l1 _ hm;have hp:=f.hp;have fk:=f.k;have hk:=f.kp;have ey:cZ y.place∨y.place=17∨y.place=18:=by unfold cZ;omega
 have zZ:=uI (l:=(aa s g).aC) (k:=(aa s g).k - 1) (by omega) (by omega);have Kg:(aa s g).k - 1 + 1=(aa s g).k:=by omega
 rw [Kg] at zZ;have DK:aB (aa s g).aC ((aa s g).k - 1)∉(aa s g).aC.take ((aa s g).k - 1).toNat:=by
  intro w;have l2:=b.l2;rw [← List.take_append_drop (aa s g).k.toNat (aa s g).aC,zZ] at l2;have:=(List.pairwise_append.1 (List.pairwise_append.1 l2).1).2.2 _ w _ (List.mem_singleton.2 rfl);omega
 have Kh:∀ ch,bh (aa s g) ch↔ch∈(aa s g).aC.take (aa s g).k.toNat:=by
  intro ch;rw [qL kx]
  constructor
  ·grind
  ·grind
 have QH:∀ ch,bh y ch↔ch∈(aa s g).aC.take ((aa s g).k - 1).toNat:=by
  intro ch;rw [qL dD,hk.aC,fk]
  constructor
  ·grind
  ·intro w;refine .inr ⟨?_,w⟩
   by_cases z:(aa s g).k - 1=0
   ·simp_all
   ·omega
 have QI:(aa s g).place=33→(aa s g).an=[]:=fun c=>h.nu hg (by omega)
 have ki:(aa s g).place=33∨(aa s g).res.code≠0→¬ Wt (aa s g):=fun c=>lM (by omega)
 have lx:Loc s.ax.length s.aD.length s.gs.length y:=by
  by_cases cw:(aa s g).place=30∧(aa s g).res.code=0
  ·exact L.waits kx cw.1 cw.2 hk f.au f.an f.code (by omega) st (f.kf b (by unfold cZ;omega))
  ·have nw:=ki (by omega);obtain ⟨pm,tk⟩:=L.qJ nw;rcases ey with c | c
   ·have Ki:=f.kf b c;refine L.kf kx (by omega) hk.ops hk.at_ (by rw [hk.status];exact st) (by rw [hk.token];exact tk) (by rw [hk.param];exact pm) (by unfold cZ at c;omega) ?_ (by rw [f.an];exact L.w3) (by rw [f.an];exact L.w4) (by omega) h.gX Ki;rw [f.an,f.code];intro w;have:=L.w1 w;have z:y.place=(aa s g).place∨y.place=13∧(aa s g).place=30∧(aa s g).res.code=0∨y.place=34:=by
     rcases hp with q | q | q | q
     ·exact .inl q.2.1
     ·omega
     ·omega
     ·exfalso;unfold cZ at c;omega
    omega
   ·refine L.fin kx (by omega) hk.ops hk.at_ (by rw [hk.status];exact st) (by rw [hk.token];exact tk) (by rw [hk.param];exact pm) ?_ (by rw [f.an];exact L.w3) (by rw [f.an];exact L.w4) h.gX;rw [f.an];rcases hp with w | w | w | w
    ·omega
    ·omega
    ·omega
    ·exact w.2.2.2.2
 have ow:∀ i,Own y i↔Own (aa s g) i:=by
  intro i;rcases ey with c | c
  ·exact qM kx dD (by omega) (by unfold cZ at c;omega) f.au i
  ·constructor
   ·rintro ⟨_,w | w⟩
    ·omega
    ·have:=w.2.1;omega
   ·rintro ⟨i0,w | w⟩
    ·omega
    ·grind
 refine h.chan hg oH.1 oH.2 lx ⟨.inr (.inr ⟨(Kh _).2 (by rw [zZ];simp),rfl,fun ch=>?_⟩),h.fH oH.1 oH.2,⟨List.Sublist.refl _,List.Sublist.refl _⟩,.inl ⟨rfl,rfl⟩⟩ ow (fun i d _ m=>hk.mt kx f.au m) ?_ ?_ ?_ (fun q=>by rw [f.an];exact id) ?_ ?_ hk.at_
 ·grind
 ·intro i j q ch _ _ _;rcases q with q | q
  ·omega
  ·obtain ⟨q1,q2,q3,q4,q5⟩:=q;refine .inr ⟨dD,q2,by rw [f.au];exact q3,by rw [f.au];exact q4,?_⟩;have c:(aa s g).place=30∧(aa s g).res.code=0:=by omega
   rcases hp with w | w | w | w
   ·exact .inr (.inr (.inr (.inr (.inl ⟨by omega,by rw [f.code];exact c.2⟩))))
   ·omega
   ·omega
   ·omega
 ·unfold cj;unfold cZ at ey;omega
 ·unfold cG;unfold cZ at ey;omega
 ·rintro ⟨w1,w2,w3,w4⟩
  have c:(aa s g).place=30∧(aa s g).res.code=0:=by grind
  refine ⟨.inr ⟨dD,?_⟩,by rw [hk.param];exact w2,by rw [hk.token];exact w3,by intro z;omega⟩;have:y.place=30∨y.place=13:=by omega
  rcases this with z | z
  ·exact .inr (.inr ⟨z,by rw [f.code];exact c.2⟩)
  ·exact .inl z
 ·rintro ⟨w1,w2,w3⟩
  have c:(aa s g).place=30∧(aa s g).res.code=0:=by grind
  refine ⟨⟨.inr ⟨dD,?_⟩,by rw [hk.param];exact w2,fun _=>by rw [hk.bp];exact w3 kx⟩,fun z=>absurd dD z.ne⟩;have:y.place=30∨y.place=13:=by omega
  rcases this with z | z
  ·exact .inr (.inr ⟨z,by rw [f.code];exact c.2⟩)
  ·exact .inl z
theorem Kj {s:ah} {g:Nat} (hg:g < s.gs.length):aa (cK s g).1 g={ aa s g with k:=(aa s g).k - 1 }:=by
 rw [wZ hg,gD (by exact hg),if_pos rfl]
theorem uL {s:ah} {g:Nat} {p:Int} (hg:g < s.gs.length):aO (cK s g).1 g p=ai (aF s (aB (aa s g).aC ((aa s g).k - 1)) { cn s (aB (aa s g).aC ((aa s g).k - 1)) with lock:=-1 }) g { aa s g with k:=(aa s g).k - 1,place:=p }:=by
 rw [wZ hg,lH _ _ _ _ (by exact hg)]
theorem Ea {l:List Int} (h:¬ lf l=true):∀ i∈l,i < 0:=by
 intro i hi;unfold lf at h
 by_cases c:0≤i
 ·grind
 ·omega
theorem Kk {l:List Int} (h:lf l=true):l≠[]:=by
 intro c;rw [c] at h;simp [lf] at h
theorem MInv.Kl (h:MInv s) (hg:g < s.gs.length) (st:(aa s g).status=0) (k:(ag s g).kind=9) (e:(aa s g).place=30) :
  MInv (if (cK s g).2=true then (cK s g).1 else if (aa s g).res.code=0 then aO (cK s g).1 g 13 else if lf (aa s g).au=true then aO (cK s g).1 g 34 else an (cK s g).1 g):=by
 have b:=h.iN hg k (by unfold cZ;omega);have k3:=b.k3 (by omega);have e2:(cK s g).2=decide (0 < (aa s g).k - 1):=rfl;have kp:∀ (kk p:Int),gY (aa s g) { aa s g with k:=kk,place:=p }:=fun _ _=>⟨rfl,rfl,rfl,rfl,rfl,rfl,rfl,rfl,rfl⟩
 rw [e2]
 split
 ·rename_i c;have c:0 < (aa s g).k - 1:=by simpa using c
  rw [wZ hg];exact h.qN hg st k (by omega) (y:={ aa s g with k:=(aa s g).k - 1 }) ⟨kp _ (aa s g).place,rfl,rfl,rfl,rfl,.inl ⟨.inl e,rfl,by simp only;omega⟩⟩
 rename_i c;have c:¬ 0 < (aa s g).k - 1:=by simpa using c
 split
 ·rename_i c2;rw [uL hg];exact h.qN hg st k (by omega) ⟨kp _ _,rfl,rfl,rfl,rfl,.inr (.inl ⟨e,c2,rfl,by simp only;omega⟩)⟩
 rename_i c2
 split
 ·rename_i c3;rw [uL hg];exact h.qN hg st k (by omega) ⟨kp _ _,rfl,rfl,rfl,rfl,.inr (.inr (.inl ⟨.inr ⟨e,c2,Kk c3⟩,rfl,by simp only;omega⟩))⟩
 rename_i c3;unfold an;rw [Kj hg]
 split
 ·rename_i c4;rw [uL hg];exact h.qN hg st k (by omega) ⟨kp _ _,rfl,rfl,rfl,rfl,.inr (.inr (.inr ⟨e,c2,Ea c3,by simp only;omega,.inl ⟨rfl,List.length_pos_iff.1 c4⟩⟩))⟩
 ·rename_i c4;rw [uL hg];exact h.qN hg st k (by omega) ⟨kp _ _,rfl,rfl,rfl,rfl,.inr (.inr (.inr ⟨e,c2,Ea c3,by simp only;omega,.inr ⟨rfl,List.length_eq_zero_iff.1 (by simp only at c4;omega)⟩⟩))⟩
theorem MInv.Km (h:MInv s) (hg:g < s.gs.length) (st:(aa s g).status=0) (k:(ag s g).kind=9) (e:(aa s g).place=33):MInv (if (cK s g).2=true then (cK s g).1 else aO (cK s g).1 g 34):=by
 have b:=h.iN hg k (by unfold cZ;omega);have k3:=b.k3 (by omega);have e2:(cK s g).2=decide (0 < (aa s g).k - 1):=rfl;have kp:∀ (kk p:Int),gY (aa s g) { aa s g with k:=kk,place:=p }:=fun _ _=>⟨rfl,rfl,rfl,rfl,rfl,rfl,rfl,rfl,rfl⟩
 rw [e2]
 split
 ·rename_i c;have c:0 < (aa s g).k - 1:=by simpa using c
  rw [wZ hg];exact h.qN hg st k (by omega) (y:={ aa s g with k:=(aa s g).k - 1 }) ⟨kp _ (aa s g).place,rfl,rfl,rfl,rfl,.inl ⟨.inr e,rfl,by simp only;omega⟩⟩
 ·rename_i c;have c:¬ 0 < (aa s g).k - 1:=by simpa using c
  rw [uL hg];exact h.qN hg st k (by omega) ⟨kp _ _,rfl,rfl,rfl,rfl,.inr (.inr (.inl ⟨.inl e,rfl,by simp only;omega⟩))⟩
end Sx
namespace Sx
variable {s t:ah} {g:Nat} {nc ns n:Int} {x y:Gr}
theorem MInv.jQ (h:MInv s) (hg:g < s.gs.length) (st:(aa s g).status=0) (k:(ag s g).kind=9) (e:(aa s g).place=32):MInv (jQ s g):=by
 have L:=h.loc hg;have kx:SE (aa s g):=k;have b:=h.iN hg k (by unfold cZ;omega);have dm:=h.nu hg (by omega);have nw:¬ Wt (aa s g):=lM (by omega);obtain ⟨pm,tk⟩:=L.qJ nw;have dJ:=b.hand (by omega);have k2:=b.k2 (by omega);have k0:=b.k0;have s2:=b.s2 (by omega);have s6:=b.s6 (by omega);have l3:=b.l3;have pk:=b.c2 (by omega);have jB:=wR k0 k2;unfold Sx.jQ;simp only;generalize hi:aB (aa s g).order (aa s g).k=i at *;have jy:i < ((aa s g).au.length:Int):=by omega
 have v0:=s6 i dJ.1;obtain ⟨w,w1,w2,w3,w4,w5,w6⟩:=h.uK hg k (by omega) dJ.2.1 jy v0;generalize hv:aB (aa s g).au i=v at *;rw [drop_eq w4 dJ.2.2.2.2.1 dJ.2.2.2.2.2];have fin:∀ (y:Gr),gY (aa s g) y→y.au=(aa s g).au→y.an=(aa s g).an→y.res.code=(aa s g).res.code→(y.place=32∧y.k=(aa s g).k + 1∧(aa s g).k + 1 < (aa s g).order.length∨y.place=33∧y.k=(aa s g).aC.length∧(aa s g).k + 1=(aa s g).order.length) →
   MInv (ai (aF s (bL (aa s g) i) (bT (cn s (bL (aa s g) i)) v)) g y):=by
  intro y hk jD oJ Kc hp;have dD:SE y:=hk.se.2 kx;have ho:=hk.aG;have hc:=hk.ch;have o1:=b.o1;have mG:ff s.ax.length s.aD.length y:=by
   constructor
   ·rw [hk.order,hk.aC,ho];simp only [hc];exact o1
   ·rw [hk.order];exact b.o2
   ·rw [hk.order];exact b.o3
   ·rw [hk.aC];exact b.l1
   ·rw [hk.aC];exact b.l2
   ·rw [hk.aC];exact l3
   ·omega
   ·intro c;omega
   ·rw [hk.order];intro c;omega
   ·rw [hk.aC];intro c;omega
   ·intro c;omega
   ·grind
   ·intro c;omega
   ·rw [jD,hk.order];exact b.s4
   ·intro c;omega
   ·rw [jD,hk.order];intro _;exact s6
   ·intro c;omega
   ·intro c;omega
   ·intro _;rw [hk.bp];exact pk
   ·intro c;omega
  have hold:∀ ch,bh y ch↔bh (aa s g) ch:=by
   intro ch;rw [ko dD (by unfold iO;rw [hk.aC];omega),ko kx (by unfold iO;omega),hk.aC]
  refine h.chan hg dJ.2.2.2.2.1 dJ.2.2.2.2.2 (L.kf kx (by omega) hk.ops hk.at_ (by rw [hk.status];exact st) (by rw [hk.token];exact tk) (by rw [hk.param];exact pm) (by omega) (by rw [oJ,dm];simp) (by rw [oJ,dm];simp) (by rw [oJ,dm];simp) (by omega) h.gX mG) ⟨.inl ⟨rfl,hold⟩,h.fH dJ.2.2.2.2.1 dJ.2.2.2.2.2,⟨gU,gU⟩,.inr ((ko kx (by unfold iO;omega) _).2 dJ.2.2.2.1)⟩ (qM kx dD (by omega) (by omega) jD) (fun i d _ m=>hk.mt kx jD m) ?_ (by unfold cj;omega) (by unfold cG;omega) (fun q=>by rw [oJ];exact id) (fun w=>absurd w.1 nw) (fun w=>absurd w.1 nw) hk.at_;intro j l q ch a c hj;rcases q with q | q
  ·omega
  ·obtain ⟨q1,q2,q3,q4,q5⟩:=q;have q6:l∈(aa s g).order.drop (aa s g).k.toNat:=by grind
   have cq:l≠i:=by
    intro z;subst z;have ej:j=v:=q4.symm.trans hv;subst ej;have hq:j∈(cn s ch).recv∨j∈(cn s ch).send:=by
     unfold up at hj
     split at hj
     ·rename_i z;subst z;exact hj.imp (fun h=>gU.subset h) (fun h=>gU.subset h)
     ·exact hj
    obtain ⟨o,qq⟩:=h.sv (g:=g) a c hq;have:ch=bL (aa s g) l:=qq.ch.symm.trans w4;subst this;rw [fP] at hj;rcases hj with hj | hj
    ·exact lI hj
    ·exact lI hj
   rw [jB] at q6;have q7:=(List.mem_cons.1 q6).resolve_left cq;rcases hp with hp | hp
   ·refine .inr ⟨dD,q2,by rw [jD];exact q3,by rw [jD];exact q4,.inr (.inr (.inr (.inr (.inr ⟨hp.1,?_⟩))))⟩;rw [hk.order,hp.2.1];exact q7
   ·simp_all
 have gC:g < (aF s (bL (aa s g) i) (bT (cn s (bL (aa s g) i)) v)).gs.length:=hg;have g0:aa (aF s (bL (aa s g) i) (bT (cn s (bL (aa s g) i)) v)) g=aa s g:=rfl
 by_cases c:(aa s g).k + 1 < (aa s g).order.length
 ·rw [if_pos c,zV gC,g0,ay];exact fin _ ⟨rfl,rfl,rfl,rfl,rfl,rfl,rfl,rfl,rfl⟩ rfl rfl rfl (.inl ⟨e,rfl,c⟩)
 ·rw [if_neg c,J8 gC,g0];exact fin _ ⟨rfl,rfl,rfl,rfl,rfl,rfl,rfl,rfl,rfl⟩ rfl rfl rfl (.inr ⟨rfl,rfl,by omega⟩)
structure Kn (x y:Gr) (i:Int):Prop where
 ops:y.ops=x.ops
 at_:y.at_=x.at_
 status:y.status=x.status
 token:y.token=x.token
 bp:y.bp=x.bp
 param:y.param=x.param
 order:y.order=x.order
 aC:y.aC=x.aC
 an:y.an=x.an
 hp:y.place=34∧y.k=x.k + 1∧x.k + 1 < x.order.length∧y.au=x.au.set i.toNat (-1)∨x.k + 1=x.order.length∧y.au=[]∧(y.place=17∧x.an≠[]∨y.place=18∧x.an=[])
theorem MInv.Aa (h:MInv s) (hg:g < s.gs.length) (st:(aa s g).status=0) (k:(ag s g).kind=9) (e:(aa s g).place=34) {y:Gr} (f:Kn (aa s g) y (aB (aa s g).order (aa s g).k)) :
  MInv (ai (if 0≤aB (aa s g).au (aB (aa s g).order (aa s g).k) then cR s g (aB (aa s g).au (aB (aa s g).order (aa s g).k)) else s) g y):=by
 have L:=h.loc hg;have kx:SE (aa s g):=k;have b:=h.iN hg k (by unfold cZ;omega);have nw:¬ Wt (aa s g):=lM (by omega);obtain ⟨pm,tk⟩:=L.qJ nw;have dJ:=b.hand (by omega);have k2:=b.k2 (by omega);have k0:=b.k0;have s2:=b.s2 (by omega);have s4:=b.s4;have s7:=b.s7 e;have l3:=b.l3;have jB:=wR k0 k2;have pJ:=uI k0 k2;have nq:=oG kx (x:=aa s g) (by omega);generalize hi:aB (aa s g).order (aa s g).k=i at *;have jy:i < ((aa s g).au.length:Int):=by omega
 have ho:aG y=aG (aa s g):=by unfold aG;rw [f.ops,f.at_]
 have hc:∀ j,bL y j=bL (aa s g) j:=fun j=>by unfold bL;rw [ho]
 have dD:SE y:=by unfold SE;rw [ho];exact kx
 have hp:=f.hp;have ji:∀ j:Int,0≤j→j < (aa s g).au.length→aB ((aa s g).au.set i.toNat (-1)) j=if j=i then -1 else aB (aa s g).au j:=fun j a c=>D7 dJ.2.1 a c
 have o1:=b.o1;have o3:=b.o3;have lx:Loc s.ax.length s.aD.length s.gs.length y:=by
  rcases hp with p | p
  ·have mG:ff s.ax.length s.aD.length y:=by
    have lO:y.au.length=(aa s g).au.length:=by grind
    constructor
    ·rw [f.order,f.aC,ho];simp only [hc];exact o1
    ·rw [f.order];exact b.o2
    ·rw [f.order];exact o3
    ·rw [f.aC];exact b.l1
    ·rw [f.aC];exact b.l2
    ·rw [f.aC];exact l3
    ·omega
    ·intro c;omega
    ·rw [f.order];intro c;omega
    ·omega
    ·intro c;omega
    ·grind
    ·intro c;omega
    ·intro j a c;rw [lO] at c;rw [p.2.2.2,ji j a c,f.order]
     split
     ·omega
     ·exact s4 j a c
    ·intro c;omega
    ·intro c;omega
    ·intro _ j hj;rw [f.order,p.2.1,pJ] at hj;have mH:0≤j∧j < (aG (aa s g)).cases.length:=by grind
     rw [p.2.2.2,ji j mH.1 (by rw [s2];exact mH.2)]
     split
     ·rfl
     ·grind
    ·intro c;omega
    ·intro c;omega
    ·intro c;omega
   exact L.kf kx (by omega) f.ops f.at_ (by rw [f.status];exact st) (by rw [f.token];exact tk) (by rw [f.param];exact pm) (by omega) (fun _=>.inl p.1) (by rw [f.an];exact L.w3) (by rw [f.an];exact L.w4) (by omega) h.gX mG
  ·exact L.fin kx (by omega) f.ops f.at_ (by rw [f.status];exact st) (by rw [f.token];exact tk) (by rw [f.param];exact pm) (by rw [f.an];exact p.2.2) (by rw [f.an];exact L.w3) (by rw [f.an];exact L.w4) h.gX
 have wX:∀ ch,¬ bh (aa s g) ch:=by
  intro ch w;rw [qL kx] at w;omega
 have wY:∀ ch,¬ bh y ch:=by
  intro ch w;rw [qL dD] at w;omega
 have own:∀ j,Own y j↔Own (aa s g) j∧j≠aB (aa s g).au i:=by
  intro j;have uniq:∀ c:Int,0≤c→c < (aa s g).au.length→0≤aB (aa s g).au c→aB (aa s g).au c=aB (aa s g).au i→c=i:=by
   intro c c0 c1 c2 c3;have a1:=h.uK hg k (by omega) c0 c1 c2;have a2:=h.uK hg k (by omega) dJ.2.1 jy (by rw [← c3];exact c2);have:=a1.2.2.2.1;rw [c3] at this;exact this.symm.trans a2.2.2.2.1
  rcases hp with p | p
  ·constructor
   ·rintro ⟨j0,w | w⟩
    ·omega
    ·have w3:=w.2.2;rw [p.2.2.2] at w3;obtain ⟨c,c0,c1,c2⟩:=lN.1 w3;rw [List.length_set] at c1;rw [ji c c0 c1] at c2
     split at c2
     ·omega
     ·rename_i z;refine ⟨⟨j0,.inr ⟨kx,by omega,lN.2 ⟨c,c0,c1,c2⟩⟩⟩,fun q=>z (uniq c c0 c1 (by omega) (c2.trans q))⟩
   ·rintro ⟨⟨j0,w | w⟩,w2⟩
    ·omega
    ·obtain ⟨c,c0,c1,c2⟩:=lN.1 w.2.2;refine ⟨j0,.inr ⟨dD,by omega,?_⟩⟩;rw [p.2.2.2];refine lN.2 ⟨c,c0,by rw [List.length_set];exact c1,?_⟩;rw [ji c c0 c1,if_neg (fun z=>w2 (by rw [← c2,z]))];exact c2
  ·constructor
   ·rintro ⟨j0,w | w⟩
    ·omega
    ·omega
   ·rintro ⟨⟨j0,w | w⟩,w2⟩
    ·omega
    ·exfalso
     obtain ⟨c,c0,c1,c2⟩:=lN.1 w.2.2;have co:=(s4 c c0 c1).2.2 (by omega);rw [← List.take_append_drop (aa s g).k.toNat (aa s g).order,jB] at co;rcases List.mem_append.1 co with q | q
     ·have:=s7 c q;omega
     ·rcases List.mem_cons.1 q with q | q
      ·grind
      ·have:(aa s g).order.drop ((aa s g).k + 1).toNat=[]:=List.drop_eq_nil_of_le (by omega);rw [this] at q;simp at q
 have mt:∀ j d,Own y j→Match (aa s g) j d→Match y j d:=by
  intro j d wo m;have cq:=((own j).1 wo).2;have j0:=wo.1;rcases m with m | m
  ·exact absurd kx m.1.ne
  ·obtain ⟨_,m1,m2,m3,m4,m5,m6,m7⟩:=m;rcases hp with p | p
   ·have lO:y.au.length=(aa s g).au.length:=by rw [p.2.2.2,List.length_set]
    refine .inr ⟨dD,m1,by rw [lO];exact m2,?_,by rw [hc];exact m4,by rw [ho];exact m5,by rw [f.order];exact m6,?_⟩
    ·grind
    ·grind
   ·exfalso
    rcases wo.2 with w | w
    ·exact w.1.ne dD
    ·omega
 have Eb:¬ cj y:=by unfold cj;omega
 have fh:¬ cG y:=by unfold cG;omega
 by_cases hv:0≤aB (aa s g).au i
 ·rw [if_pos hv];exact h.Dn hg (h.uK hg k (by omega) dJ.2.1 jy hv).1 lx (fun ch=>⟨fun w=>absurd w (wY ch),fun w=>absurd w (wX ch)⟩) own mt nq Eb fh f.an nw f.at_
 ·rw [if_neg hv];refine h.self hg ⟨lx,fun ch=>⟨fun w=>absurd w (wY ch),fun w=>absurd w (wX ch)⟩,fun j=>?_,mt,fun i j w=>absurd w (nq i j),fh,fun q=>by rw [f.an];exact id,fun w=>absurd w.1 nw,fun w=>absurd w.1 nw⟩ f.at_ (fun w=>absurd w Eb);rw [own];exact ⟨fun w=>w.1,fun w=>⟨w,fun z=>by have:=w.1;omega⟩⟩
theorem Ko {s:ah} {g:Nat} {v:Int}:(cR s g v).gs.length=s.gs.length:=by
 unfold cR bg jO
 split <;> rfl
theorem MInv.je (h:MInv s) (hg:g < s.gs.length) (st:(aa s g).status=0) (k:(ag s g).kind=9) (e:(aa s g).place=34):MInv (je s g):=by
 have b:=h.iN hg k (by unfold cZ;omega);have k2:=b.k2 (by omega);unfold Sx.je;simp only;obtain ⟨t,ht⟩:∃ t,(if 0≤aB (aa s g).au (aB (aa s g).order (aa s g).k) then cR s g (aB (aa s g).au (aB (aa s g).order (aa s g).k)) else s)=t:=⟨_,rfl⟩
 have hl:t.gs.length=s.gs.length:=by rw [← ht];split;exact Ko;rfl
 rw [ht]
 split
 ·rename_i c;rw [uJ (by rw [hl];exact hg),if_pos c];unfold an;rw [gD (by rw [hl];exact hg),if_pos rfl]
  split
  ·rename_i c2;rw [lH _ _ _ _ (by rw [hl];exact hg),← ht];exact h.Aa hg st k e ⟨rfl,rfl,rfl,rfl,rfl,rfl,rfl,rfl,rfl,.inr ⟨c,rfl,.inl ⟨rfl,List.length_pos_iff.1 c2⟩⟩⟩
  ·rename_i c2;rw [lH _ _ _ _ (by rw [hl];exact hg),← ht];exact h.Aa hg st k e ⟨rfl,rfl,rfl,rfl,rfl,rfl,rfl,rfl,rfl,.inr ⟨c,rfl,.inr ⟨rfl,List.length_eq_zero_iff.1 (by simp only at c2;omega)⟩⟩⟩
 ·rename_i c;rw [uJ (by rw [hl];exact hg),if_neg c,← ht];exact h.Aa hg st k e ⟨rfl,rfl,rfl,rfl,rfl,rfl,rfl,rfl,rfl,.inl ⟨e,rfl,by omega,rfl⟩⟩
theorem MInv.bk (h:MInv s) (hg:g < s.gs.length) (st:(aa s g).status=0):MInv (bk s g).1:=by
 unfold Sx.bk;simp only
 by_cases k:(ag s g).kind≠9
 ·grind
 rw [if_neg k];have k9:(ag s g).kind=9:=by omega
 by_cases uM:(aa s g).place=24
 ·rw [if_pos uM];exact h.DQ hg st k9 25 (.inl ⟨uM,rfl⟩)
 rw [if_neg uM]
 by_cases uO:(aa s g).place=25
 ·rw [if_pos uO];exact h.jb hg st k9 uO
 rw [if_neg uO]
 by_cases uP:(aa s g).place=26
 ·rw [if_pos uP];exact h.J7 hg st k9 uP
 rw [if_neg uP]
 by_cases uQ:(aa s g).place=27
 ·rw [if_pos uQ];exact h.jd hg st k9 uQ
 rw [if_neg uQ]
 by_cases uR:(aa s g).place=28
 ·rw [if_pos uR];exact h.aD hg st k9 uR
 rw [if_neg uR]
 by_cases uS:(aa s g).place=29
 ·rw [if_pos uS];exact h.jP hg st k9 uS
 rw [if_neg uS]
 by_cases uT:(aa s g).place=30
 ·rw [if_pos uT];have:=h.Kl hg st k9 uT
  split
  ·grind
  rename_i c;rw [if_neg c] at this
  split
  ·grind
  rename_i c;rw [if_neg c] at this
  split
  ·grind
  ·grind
 rw [if_neg uT]
 by_cases iC:(aa s g).place=14
 ·rw [if_pos iC];exact h.Ke hg st k9 iC
 rw [if_neg iC]
 by_cases sC:(aa s g).place=31
 ·rw [if_pos sC];exact h.DQ hg st k9 32 (.inr ⟨sC,rfl⟩)
 rw [if_neg sC]
 by_cases uU:(aa s g).place=32
 ·rw [if_pos uU];exact h.jQ hg st k9 uU
 rw [if_neg uU]
 by_cases uV:(aa s g).place=33
 ·rw [if_pos uV];have:=h.Km hg st k9 uV
  split
  ·grind
  ·grind
 rw [if_neg uV]
 by_cases uW:(aa s g).place=34
 ·rw [if_pos uW];exact h.je hg st k9 uW
 rw [if_neg uW]
 by_cases e1:(aa s g).place=13∨(aa s g).place=17
 ·rw [if_pos e1];exact h.common hg st (.inr e1)
 rw [if_neg e1];exact h
theorem MInv.tick (h:MInv s):MInv { s with step:=s.step + 1 } :=
 ⟨h.v,h.n1,h.n8,h.c8,h.sn,h.jT,h.c1,h.pH,h.ca,h.f0,h.po,h.oD,h.pI,h.du,h.d5,h.dn⟩
theorem MInv.one (h:MInv s) (p:Int):MInv (one s p).1:=by
 unfold Sx.one
 split
 ·exact h
 rename_i c;have c0:0≤p∧p < s.gs.length∧(aa s p.toNat).status=0:=by omega
 have hg:p.toNat < ({ s with step:=s.step + 1 }:ah).gs.length:=by grind
 have ht:=h.tick;have st:(aa { s with step:=s.step + 1 } p.toNat).status=0:=c0.2.2;simp only
 split
 ·exact ht.gQ hg st
 split
 ·exact ht.bJ hg st
 split
 ·exact ht.bF hg st
 split
 ·exact ht.dh hg st
 split
 ·exact ht.bk hg st
 ·exact h
end Sx
namespace Sx
theorem Ab {p:List (List Pn.Op)} {a c:Int} {d:List Int} {g:Nat} (hg:g < p.length):aa (start p a c d) g=clean (p.getD g []) 0:=by
 unfold aa start;simp only [List.getD_eq_getElem?_getD,List.getElem?_map,List.getElem?_eq_getElem hg];rfl
theorem MInv.start {p:List (List Pn.Op)} {a c:Int} {d:List Int} (hp:Pn.right p=true) (hc:can a p.length c=true) (hd:∀ x∈d,0≤x∧x < 65536) (hl:d.length≤1000):MInv (start p a c d):=by
 unfold Pn.right at hp;simp only [decide_eq_true_eq] at hp;unfold can at hc;simp only [decide_eq_true_eq] at hc;obtain ⟨p1,p8,pr⟩:=hp;have lg:(Sx.start p a c d).gs.length=p.length:=by simp [Sx.start]
 have lc:(Sx.start p a c d).ax.length=0:=rfl;have ls:(Sx.start p a c d).aD.length=a.toNat:=by simp [Sx.start]
 have Kp:∀ i,su (Sx.start p a c d) i=dX:=by
  intro i;unfold su Sx.start;simp only [List.getD_eq_getElem?_getD,List.getElem?_replicate]
  split <;> rfl
 have QJ:∀ i,fS (Sx.start p a c d) i=false:=by
  intro i;unfold fS;have:(Sx.start p a c d).fresh=0:=rfl;rw [this]
  by_cases z:0≤i
  ·grind
  ·simp [z]
 have Kq:((Sx.start p a c d).cache).flatten=[]:=by
  unfold Sx.start;simp only
  induction p with
  | nil=>rfl
  | cons x l ih=>simp
 have sE:∀ g,0≤g→g < (p.length:Int)→gA (Sx.start p a c d) g=clean (p.getD g.toNat []) 0:=fun g a b=>Ab (by omega)
 have nO:∀ (l:List Pn.Op) i,¬ Own (clean l 0) i:=fun l i=>di.own (by unfold di clean;simp) i
 have nH:∀ (l:List Pn.Op) i,¬ bh (clean l 0) i:=fun l i=>di.holds (by unfold di clean;simp) i
 refine ⟨?_,by omega,by omega,by omega,by rw [ls];show ((a.toNat:Nat):Int)=a;omega,by omega,hc.2.2.2.2.1,hc.2.2.2.2.2,by simp [Sx.start],Int.le_refl _,⟨List.replicate a.toNat false,?_⟩,Int.le_refl _,by show (0:Int)≤_;omega,hd,hl,?_⟩
 ·unfold V;rw [lg,lc,ls]
  constructor
  ·intro g g0 g1;rw [sE g g0 g1];have hm:p.getD g.toNat []∈p:=by grind
   have hr:=pr _ hm;unfold Pn.jA at hr;simp only [decide_eq_true_eq] at hr
   constructor
   ·exact hr.1
   ·exact hr.2
   ·exact Int.le_refl _
   ·unfold clean;simp only;omega
   ·exact .inl rfl
   ·intro z;exact absurd rfl z
   ·exact .inl rfl
   ·intro z;exact absurd z (by unfold clean;simp)
   ·intro z;exact absurd z (by unfold clean;simp)
   ·intro z;exact absurd z (by unfold clean;simp)
   ·intro z;exact absurd z (by unfold clean;simp)
   ·intro z;exact absurd rfl z
   ·intro z;exact absurd z (by unfold clean;simp)
   ·intro q z;exact absurd z (by unfold clean;simp)
   ·unfold clean;exact List.nodup_nil
   ·intro z;exact absurd z (by unfold clean;simp)
   ·intro _ z;exact absurd z (by unfold clean;simp)
   ·unfold clean;simp only;omega
   ·intro z;exact absurd z (by unfold clean;simp)
   ·intro z;exact absurd z (by unfold clean;simp)
   ·intro z;exact absurd z (by unfold clean;simp)
   ·intro _ z;unfold cZ clean at z;simp at z
  ·intro ch z1 z2;omega
  ·omega
  ·intro ch z1 z2;omega
  ·grind
  ·intro ch z1 z2;omega
  ·intro ch z1 z2;omega
  ·intro g g0 g1 w;rw [sE g g0 g1] at w;exact absurd w (by unfold clean;simp)
  ·intro g g0 g1 w;rw [sE g g0 g1] at w;exact absurd w (by unfold clean;simp)
  ·intro g k g0 g1 _ _ w;rw [sE g g0 g1] at w;exact absurd w (by unfold clean;simp)
  ·intro g g0 g1 q w;rw [sE g g0 g1] at w;exact absurd w (by unfold clean;simp)
  ·intro g k q g0 g1 _ _ w;rw [sE g g0 g1] at w;exact absurd w (by unfold clean;simp)
  ·intro i _ _;rw [Kp];exact ⟨by simp [dX],by simp only [dX];omega,by simp [dX],by simp [dX]⟩
  ·grind
 ·have e:(Sx.start p a c d).cY.toNat=a.toNat:=rfl;have QK:∀ x,Po.fj ⟨(Sx.start p a c d).cache,(Sx.start p a c d).middle,(Sx.start p a c d).fresh.toNat,List.replicate a.toNat false⟩ x=0:=by
   intro x;unfold Po.fj;simp only;rw [Kq];rfl
  constructor
  ·show 1≤c.toNat;omega
  ·show c.toNat≤16;omega
  ·rw [e];omega
  ·simp [Sx.start]
  ·show (0:Int).toNat≤_;simp
  ·grind
  ·grind
  ·grind
  ·intro x z;have:x=[]:=by
    unfold Sx.start at z;simp only [List.mem_map] at z;obtain ⟨_,_,rfl⟩:=z;rfl
   rw [this];simp
 ·unfold lE;rw [lg];have:(List.range p.length).map (fun g=>(aa (Sx.start p a c d) g).at_)=(List.range p.length).map (fun _=>(0:Int)):=by
   refine List.map_congr_left fun g hg=>?_
   rw [Ab (by simpa using hg)];rfl
  rw [this]
  show (0:Int)=_
  induction p.length with
  | zero=>rfl
  | succ n ih=>rw [List.range_succ,List.map_append,List.sum_append,← ih];rfl
end Sx
namespace Sx
structure Z (x:Gr):Prop where
 op:∀ o∈x.ops,o.cases.length≤6
 od:x.order.length≤6
 sg:x.au.length≤6
 lk:x.aC.length≤6
def ZS (s:ah):Prop:=∀ g:Nat,Z (aa s g)
theorem Z.clean (a:Int):Z (clean [] a):=⟨by simp [Sx.clean],by simp [Sx.clean],by simp [Sx.clean],by simp [Sx.clean]⟩
section
variable {s t:ah} {g h:Nat}
theorem ZS.fJ (z:ZS s) {x:Gr} (hx:Z x):ZS (ai s g x):=by
 intro k;unfold aa Sx.ai;simp only [List.getD_eq_getElem?_getD,List.getElem?_set]
 split
 ·split
  ·exact hx
  ·exact Z.clean _
 ·have:=z k;unfold aa at this;rw [List.getD_eq_getElem?_getD] at this;exact this
theorem ZS.of (z:ZS s) (e:t.gs=s.gs):ZS t:=by
 intro k;have:=z k;unfold aa at this ⊢;rw [e];exact this
theorem ZS.dK (z:ZS s) {c:Int} {x:Cn}:ZS (aF s c x):=z.of rfl
theorem ZS.gZ (z:ZS s) {c:Int} {x:Su}:ZS (bg s c x):=z.of rfl
theorem Z.same {x y:Gr} (z:Z x) (h1:y.ops=x.ops) (h2:y.order=x.order) (h3:y.au=x.au) (h4:y.aC=x.aC):Z y:=⟨by rw [h1];exact z.op,by rw [h2];exact z.od,by rw [h3];exact z.sg,by rw [h4];exact z.lk⟩
theorem ZS.put (zt:ZS t) (z:ZS s) (h:Nat) {x:Gr} (e:x.ops=(aa s h).ops∧x.order=(aa s h).order∧x.au=(aa s h).au∧x.aC=(aa s h).aC:=by exact ⟨rfl,rfl,rfl,rfl⟩):ZS (Sx.ai t g x):=zt.fJ ((z h).same e.1 e.2.1 e.2.2.1 e.2.2.2)
theorem ZS.ite {c:Prop} [Decidable c] {β:Type} {a b:ah × β} (h1:ZS a.1) (h2:ZS b.1):ZS (if c then a else b).1:=by split <;> assumption
theorem ZS.bN {c:Prop} [Decidable c] {a b:ah} (h1:ZS a) (h2:ZS b):ZS (if c then a else b):=by split <;> assumption
theorem ZS.aO (z:ZS s) {p:Int}:ZS (aO s g p):=z.put z g
theorem ZS.bG (z:ZS s) {r:Md.ak} {p:Int}:ZS (bG s g r p):=z.put z g
theorem ZS.free (z:ZS s) {c:Int}:ZS (free s c):=z.dK
theorem ZS.tryLock (z:ZS s) {c:Int}:ZS (tryLock s g c).1:=ZS.ite z.dK z
theorem ZS.an (z:ZS s):ZS (an s g):=ZS.bN z.aO z.aO
theorem ZS.fT (z:ZS s):ZS (fT s g):=by
 unfold Sx.fT;refine z.fJ ?_
 split
 ·exact (z g).same rfl rfl rfl rfl
 ·split
  ·exact (z g).same rfl rfl rfl rfl
  ·exact z g
theorem ZS.ready (z:ZS s):ZS (ready s g):=by
 unfold Sx.ready;refine z.fJ ?_
 split
 ·exact (z g).same rfl rfl rfl rfl
 ·split
  ·exact (z g).same rfl rfl rfl rfl
  ·exact z g
theorem ZS.jO (z:ZS s) {v:Int}:ZS (jO s g v):=ZS.bN (z.of rfl) z
theorem ZS.cR (z:ZS s) {v:Int}:ZS (cR s g v):=z.jO.gZ
theorem ZS.bw (z:ZS s):ZS (bw s g).1:=by
 unfold Sx.bw;refine ZS.ite (ZS.ite ?_ z) ?_
 ·exact z.of rfl
 ·exact z.of rfl
theorem ZS.drop (z:ZS s) {v:Int}:ZS (bE s v):=ZS.bN z.dK z
theorem ZS.pair (z:ZS s) {v:Int}:ZS (pair s g v):=ZS.put (ZS.put z z (su s v).g.toNat) z g
theorem ZS.serve (z:ZS s) {v:Int} {d:Bool}:ZS (serve s g v d):=by
 have z2:ZS (Sx.bg (Sx.ai s (su s v).g.toNat { aa s (su s v).g.toNat with param:=v }) v { su s v with done:=d }):=ZS.gZ (ZS.put z z (su s v).g.toNat);exact ZS.put z2 z2 g
theorem ZS.common (z:ZS s):ZS (common s g).1:=by
 unfold Sx.common;simp only;refine ZS.ite (ZS.ite (ZS.ite (ZS.aO z.tryLock) (ZS.aO z.tryLock)) z) ?_;refine ZS.ite (ZS.aO z.free) ?_;refine ZS.ite (ZS.fT (ZS.aO z)) ?_;refine ZS.ite (ZS.aO (ZS.put z.cR z g)) ?_;refine ZS.ite (ZS.an z.free) ?_;refine ZS.ite (ZS.an (ZS.put z.ready z g)) z
theorem ZS.taken (z:ZS s) {i a b:Int}:ZS (taken s g i a b) :=
 ZS.bN (ZS.aO (ZS.put z z g)) (ZS.aO (ZS.pair (ZS.drop (ZS.put z z g))))
theorem ZS.cX (z:ZS s) {a b:Int}:ZS (cX s g a b) :=
 ZS.bN (ZS.put z.drop z g) (ZS.aO (ZS.pair (ZS.put (ZS.put z z g) z (su s (aa s g).hold).g.toNat )))
theorem ZS.bq (z:ZS s) {d:Su}:ZS (bq s g d) :=
 ZS.bN (ZS.put z.bw.gZ z g) (ZS.put z.bw z g)
theorem ZS.kI (z:ZS s) {v:Int}:ZS (kI s g v):=ZS.serve (ZS.gZ z.drop)
theorem ZS.hand (z:ZS s) {c i:Int}:ZS (hand s c i).1:=by unfold Sx.hand;simp only;split;exact z;exact z.dK
theorem ZS.bJ (z:ZS s):ZS (bJ s g).1:=by
 unfold Sx.bJ;simp only;refine ZS.ite z ?_;refine ZS.ite z.common ?_;refine ZS.ite z ?_;refine ZS.ite (ZS.ite z.aO z.bG) ?_;refine ZS.ite (ZS.ite (ZS.put z z g) (ZS.put z z g)) ?_;refine ZS.ite (ZS.ite z.bG z.aO) ?_;refine ZS.ite (ZS.ite z.aO z.taken) ?_;refine ZS.ite z.cX ?_;refine ZS.ite (ZS.put z.kI z.kI g) ?_;refine ZS.ite (ZS.ite (ZS.bG z.dK) (ZS.ite z.bG z.aO)) ?_;refine ZS.ite z.bq ?_;refine ZS.ite (ZS.put z.dK z g) ?_;exact ZS.ite (ZS.put z z g) z
theorem ZS.bF (z:ZS s):ZS (bF s g).1:=by
 unfold Sx.bF;simp only;refine ZS.ite z ?_;refine ZS.ite z.common ?_;refine ZS.ite z ?_;refine ZS.ite (ZS.ite z.aO z.bG) ?_;refine ZS.ite (ZS.ite z.aO (ZS.put z z g)) ?_;refine ZS.ite (ZS.ite (ZS.put z z g) z.bG) ?_;refine ZS.ite (ZS.ite z.bG (ZS.ite z.aO z.aO)) ?_;refine ZS.ite (ZS.ite z.aO z.taken) ?_;refine ZS.ite z.cX ?_;refine ZS.ite (ZS.put (ZS.serve (ZS.hand z.drop)) (ZS.serve (ZS.hand z.drop)) g ) ?_;refine ZS.ite (ZS.ite (ZS.bG z.dK) (ZS.ite z.bG z.aO)) ?_;refine ZS.ite z.bq ?_;refine ZS.ite (ZS.put z.dK z g) ?_;exact ZS.ite (ZS.put z z g) z
theorem ZS.gO (z:ZS s):ZS (gO s g):=by
 have z2:ZS (Sx.bE (Sx.ai s g { aa s g with t:=s.step }) (aa s g).hold):=ZS.drop (ZS.put z z g);exact ZS.serve (ZS.put z2 z2 (su (Sx.bE (Sx.ai s g { aa s g with t:=s.step }) (aa s g).hold) (aa s g).hold).g.toNat)
theorem ZS.j9 (z:ZS s) {i:Int}:ZS (j9 s g i):=by
 have z2:ZS (Sx.ai s g { aa s g with hold:=i }):=ZS.put z z g;exact ZS.bN z2.aO z2.gO
theorem ZS.kZ (z:ZS s):ZS (kZ s g) :=
 ZS.bN (ZS.put z.drop z g) (ZS.aO (ZS.gO (ZS.put z z (su s (aa s g).hold).g.toNat)))
theorem ZS.dh (z:ZS s):ZS (dh s g).1:=by
 unfold Sx.dh;simp only;refine ZS.ite z ?_;refine ZS.ite z.common ?_;refine ZS.ite z ?_;refine ZS.ite (ZS.ite z.bG (ZS.bG z.dK)) ?_;refine ZS.ite (ZS.ite z.j9 (ZS.ite z.j9 z.aO)) ?_;exact ZS.ite z.kZ z
theorem ZS.unlock (z:ZS s) {p:Int}:ZS (unlock s g p):=ZS.put z z g
theorem ZS.dR (z:ZS s) {r:Md.ak} {i:Int}:ZS (dR s g r i):=by
 have z2:ZS (Sx.bG s g { r with cs:=i } 30):=z.bG;exact ZS.unlock (ZS.put z2 z2 g)
theorem ZS.lock (z:ZS s) {p:Int}:ZS (lock s g p) :=
 ZS.bN (ZS.bN (ZS.put z.tryLock z g) (ZS.put z.tryLock z g)) z
theorem ZS.next (z:ZS s) {p:Int}:ZS (next s g p):=ZS.bN (ZS.put z z g) (ZS.put z z g)
theorem ZS.fz (z:ZS s):ZS (fz s g):=ZS.bN (ZS.put z z g) (z.fJ (z g))
theorem ZS.gP (z:ZS s) {i:Int} {k:Pn.Cs}:ZS (gP s g i k).1 :=
 ZS.ite z.dR (ZS.ite (ZS.fz z.taken) (ZS.ite (ZS.dR z.dK) z))
theorem ZS.iG (z:ZS s) {i:Int} {k:Pn.Cs}:ZS (iG s g i k).1 :=
 ZS.ite (ZS.fz z.taken) (ZS.ite (ZS.dR z.dK) (ZS.ite z.dR z))
theorem w7 (z:ZS s):(ag s g).cases.length≤6:=by
 unfold ag;rw [List.getD_eq_getElem?_getD]
 by_cases c:(aa s g).at_.toNat < (aa s g).ops.length
 ·rw [List.getElem?_eq_getElem c];exact (z g).op _ (List.getElem_mem c)
 ·rw [List.getElem?_eq_none (by omega)];simp [qp]
theorem ZS.jb (z:ZS s):ZS (jb s g (ag s g)):=by
 have hc:=w7 z (g:=g);have z2:ZS (Sx.ai s g { aa s g with au:=List.replicate (ag s g).cases.length (-1) }):=z.fJ ⟨(z g).op,(z g).od,by simp only [List.length_replicate];exact hc,(z g).lk⟩;unfold Sx.jb;simp only
 by_cases c1:(bY (ag s g) (aB (aa s g).order (aa s g).k)).send=true
 ·rw [if_pos c1];exact ZS.bN z.gP (ZS.bN z.next (ZS.bN z.dR z2.next))
 ·rw [if_neg c1];exact ZS.bN z.iG (ZS.bN z.next (ZS.bN z.dR z2.next))
theorem ZS.jd (z:ZS s) {o:Pn.Op}:ZS (jd s g o):=by
 unfold Sx.jd;simp only;have z1:=z.drop (v:=(aa s g).hold)
 by_cases c:(bY o (aB (aa s g).order (aa s g).k)).send=true
 ·simp only [if_pos c];exact ZS.unlock (ZS.put (ZS.serve z1.gZ) (ZS.serve z1.gZ) g )
 ·simp only [if_neg c];exact ZS.unlock (ZS.put (ZS.serve z1.hand) (ZS.serve z1.hand) g )
theorem ZS.aD (z:ZS s) {o:Pn.Op}:ZS (aD s g o):=by
 unfold Sx.aD;simp only;refine ZS.bN (ZS.next ?_) (ZS.unlock ?_)
 ·refine ZS.fJ z.bw.gZ ?_;exact ⟨(z g).op,(z g).od,by simp only [List.length_set];exact (z g).sg,(z g).lk⟩
 ·refine ZS.put z.bw z g
theorem ZS.jP (z:ZS s) {o:Pn.Op}:ZS (jP s g o) :=
 ZS.bN (ZS.next z.dK) (ZS.unlock (ZS.put z.dK z g))
theorem ZS.cK (z:ZS s):ZS (cK s g).1:=ZS.put z.free z g
theorem ZS.kJ (z:ZS s):ZS (kJ s g):=ZS.put z z g
theorem ZS.jQ (z:ZS s):ZS (jQ s g):=ZS.bN (ZS.next z.drop) (ZS.unlock z.drop)
theorem ZS.je (z:ZS s):ZS (je s g):=by
 unfold Sx.je;simp only;have z1:ZS (if 0≤aB (aa s g).au (aB (aa s g).order (aa s g).k) then Sx.cR s g (aB (aa s g).au (aB (aa s g).order (aa s g).k)) else s):=ZS.bN z.cR z;generalize (if 0≤aB (aa s g).au (aB (aa s g).order (aa s g).k) then Sx.cR s g (aB (aa s g).au (aB (aa s g).order (aa s g).k)) else s)=t at *;refine ZS.bN (ZS.an (ZS.next ?_)) (ZS.next ?_)
 ·refine ZS.fJ z1 ?_;exact ⟨(z g).op,(z g).od,by simp,(z g).lk⟩
 ·refine ZS.fJ z1 ?_;exact ⟨(z g).op,(z g).od,by simp only [List.length_set];exact (z g).sg,(z g).lk⟩
theorem ZS.bk (z:ZS s):ZS (bk s g).1:=by
 unfold Sx.bk;simp only;refine ZS.ite z ?_;refine ZS.ite z.lock ?_;refine ZS.ite z.jb ?_;refine ZS.ite (ZS.fz z.cX) ?_;refine ZS.ite z.jd ?_;refine ZS.ite z.aD ?_;refine ZS.ite z.jP ?_;refine ZS.ite (ZS.ite z.cK (ZS.ite (ZS.aO z.cK) (ZS.ite (ZS.aO z.cK) (ZS.an z.cK)))) ?_;refine ZS.ite z.kJ ?_;refine ZS.ite z.lock ?_;refine ZS.ite z.jQ ?_;refine ZS.ite (ZS.ite z.cK (ZS.aO z.cK)) ?_;refine ZS.ite z.je ?_;exact ZS.ite z.common z
theorem ZS.never (z:ZS s):ZS (never s g):=ZS.fT z.aO
theorem ZS.clear (z:ZS s):ZS (clear s g):=by
 unfold Sx.clear;exact z.fJ ⟨(z g).op,by simp [ja,Sx.clean],by simp [ja,Sx.clean],by simp [ja,Sx.clean]⟩
theorem Kr (l:List Int) (h:(aC l).Nodup):(aC l).length≤l.length:=by
 refine List.Nodup.length_le_of_subset h fun x hx=>((zP l).2 x).1 hx |>.1
theorem ZS.jf (z:ZS s) {o:Pn.Op} (hc:o.cases.length≤6) (ho:(aa s g).order=[]):ZS (jf s g o):=by
 unfold Sx.jf;simp only;have z1:ZS { s with drawn:=(drawn s o.cases.length).2 }:=z.of rfl;have hl:∀ (p:Int→Bool),((dA (drawn s o.cases.length).1 o.cases.length).filter p).length≤6:=by
  intro p;have h1:=List.length_filter_le p (dA (drawn s o.cases.length).1 o.cases.length);have h2:=(wP (drawn s o.cases.length).1 o.cases.length).length_eq;simp at h2;omega
 have zx:Z { aa s g with order:=(aa s g).order ++ (dA (drawn s o.cases.length).1 o.cases.length).filter (fun i=>aM s (bY o i).ch),aC:=Sx.aC (((dA (drawn s o.cases.length).1 o.cases.length).filter (fun i=>aM s (bY o i).ch)).map (fun i=>(bY o i).ch)),place:=24 }:=by
  refine ⟨(z g).op,?_,(z g).sg,?_⟩
  ·simp only [ho,List.nil_append];exact hl _
  ·have ls:=zP (((dA (drawn s o.cases.length).1 o.cases.length).filter (fun i=>aM s (bY o i).ch)).map (fun i=>(bY o i).ch));have:=Kr _ (ls.1.imp (fun h e=>by omega));have h2:=hl (fun i=>aM s (bY o i).ch);simp only [List.length_map] at this;simp only;omega
 have z2:=z1.fJ (g:=g) zx;exact ZS.bN z2 (ZS.bN z2.bG z2.never)
theorem ZS.jg (z:ZS s):ZS (jg s g):=by
 unfold Sx.jg;simp only;refine ZS.bN (ZS.put z z g) ?_;have z2:ZS (Sx.ai (Sx.clear s g) g { aa (Sx.clear s g) g with call:=(Sx.clear s g).step }):=ZS.put z.clear z.clear g;have ho:(aa (Sx.ai (Sx.clear s g) g { aa (Sx.clear s g) g with call:=(Sx.clear s g).step }) g).order=[]:=by
  by_cases hg:g < s.gs.length
  ·have gC:g < (Sx.clear s g).gs.length:=by unfold Sx.clear;rw [fQ];exact hg
   rw [gD gC,if_pos rfl];unfold Sx.clear;rw [gD hg,if_pos rfl];rfl
  ·unfold aa Sx.ai;rw [List.getD_eq_getElem?_getD,List.getElem?_eq_none (by simp [Sx.clear,Sx.ai];omega)];rfl
 generalize Sx.ai (Sx.clear s g) g { aa (Sx.clear s g) g with call:=(Sx.clear s g).step }=s2 at *;have hc:=w7 z2 (g:=g);refine ZS.bN z2.aO ?_;refine ZS.bN (ZS.bN z2.aO z2.never) ?_;refine ZS.bN (ZS.bN z2.aO z2.bG) ?_;exact ZS.bN (ZS.bN z2.aO z2.bG) (z2.jf hc ho)
theorem ZS.jh (z:ZS s):ZS (jh s g):=by
 unfold Sx.jh;simp only;exact ZS.bN z.bG (ZS.bN (ZS.bG (s:={ s with ax:=s.ax ++ [⟨(ag s g).n,[],false,-1,[],[]⟩] }) (z.of rfl)) (ZS.bN z.bG (ZS.bN z.bG z.bG)))
theorem ZS.answer (z:ZS s):ZS (answer s g):=by
 unfold Sx.answer;simp only;have z1:ZS { s with done:=s.done ++ [mark s g s.step] }:=z.of rfl;exact ZS.clear (ZS.put z1 z1 g)
theorem ZS.gQ (z:ZS s):ZS (gQ s g).1:=by
 unfold Sx.gQ;simp only;exact ZS.ite z.jg (ZS.ite z.jh (ZS.ite z.answer z))
theorem ZS.one (z:ZS s) (p:Int):ZS (one s p).1:=by
 unfold Sx.one
 split
 ·exact z
 have z1:ZS { s with step:=s.step + 1 }:=z.of rfl;simp only;exact ZS.ite z1.gQ (ZS.ite z1.bJ (ZS.ite z1.bF (ZS.ite z1.dh (ZS.ite z1.bk z))))
theorem ZS.start {p:List (List Pn.Op)} {a c:Int} {d:List Int} (hp:Pn.right p=true):ZS (start p a c d):=by
 unfold Pn.right at hp;simp only [decide_eq_true_eq] at hp;intro g
 by_cases hg:g < p.length
 ·rw [Ab hg];have hm:p.getD g []∈p:=by
   rw [List.getD_eq_getElem?_getD,List.getElem?_eq_getElem hg];exact List.getElem_mem _
  have hr:=hp.2.2 _ hm;unfold Pn.jA at hr;simp only [decide_eq_true_eq] at hr;exact ⟨fun o ho=>(zR (hr.2 o ho)).2.2.2.2.2.2.2.2.1,by simp [Sx.clean],by simp [Sx.clean],by simp [Sx.clean]⟩
 ·unfold aa;rw [List.getD_eq_getElem?_getD,List.getElem?_eq_none (by simp [Sx.start];omega)];exact Z.clean 0
structure Good (s:ah):Prop extends MInv s where
 z:ZS s
theorem Good.one (h:Good s) (p:Int):Good (one s p).1:=⟨h.toMInv.one p,h.z.one p⟩
theorem Good.start {p:List (List Pn.Op)} {a c:Int} {d:List Int} (hp:Pn.right p=true) (hc:can a p.length c=true) (hd:∀ x∈d,0≤x∧x < 65536) (hl:d.length≤1000):Good (start p a c d):=⟨MInv.start hp hc hd hl,ZS.start hp⟩
end
end Sx
namespace Sx
def SP (k:Int) (s:ah):Prop:=s.step=k
section
variable {s t:ah} {g h:Nat} {k:Int}
theorem SP.of (z:SP k s) (e:t.step=s.step):SP k t:=by unfold SP at *;rw [e];exact z
theorem SP.w (zt:SP k t) {x:Gr}:SP k (Sx.ai t g x):=zt
theorem SP.dK (z:SP k s) {c:Int} {x:Cn}:SP k (Sx.aF s c x):=z
theorem SP.gZ (z:SP k s) {c:Int} {x:Su}:SP k (Sx.bg s c x):=z
theorem SP.ite {c:Prop} [Decidable c] {β:Type} {a b:ah × β} (h1:SP k a.1) (h2:SP k b.1):SP k (if c then a else b).1:=by split <;> assumption
theorem SP.bN {c:Prop} [Decidable c] {a b:ah} (h1:SP k a) (h2:SP k b):SP k (if c then a else b):=by split <;> assumption
theorem SP.aO (z:SP k s) {p:Int}:SP k (aO s g p):=SP.w z
theorem SP.bG (z:SP k s) {r:Md.ak} {p:Int}:SP k (bG s g r p):=SP.w z
theorem SP.free (z:SP k s) {c:Int}:SP k (free s c):=z.dK
theorem SP.tryLock (z:SP k s) {c:Int}:SP k (tryLock s g c).1:=SP.ite z.dK z
theorem SP.an (z:SP k s):SP k (an s g):=SP.bN z.aO z.aO
theorem SP.fT (z:SP k s):SP k (fT s g):=SP.w z
theorem SP.ready (z:SP k s):SP k (ready s g):=SP.w z
theorem SP.jO (z:SP k s) {v:Int}:SP k (jO s g v):=SP.bN (z.of rfl) z
theorem SP.cR (z:SP k s) {v:Int}:SP k (cR s g v):=z.jO.gZ
theorem SP.bw (z:SP k s):SP k (bw s g).1:=by
 unfold Sx.bw;refine SP.ite (SP.ite ?_ z) ?_
 ·exact z.of rfl
 ·exact z.of rfl
theorem SP.drop (z:SP k s) {v:Int}:SP k (bE s v):=SP.bN z.dK z
theorem SP.pair (z:SP k s) {v:Int}:SP k (pair s g v):=SP.w (SP.w z)
theorem SP.serve (z:SP k s) {v:Int} {d:Bool}:SP k (serve s g v d):=by
 have z2:SP k (Sx.bg (Sx.ai s (su s v).g.toNat { aa s (su s v).g.toNat with param:=v }) v { su s v with done:=d }):=SP.gZ (SP.w z);exact SP.w z2
theorem SP.common (z:SP k s):SP k (common s g).1:=by
 unfold Sx.common;simp only;refine SP.ite (SP.ite (SP.ite (SP.aO z.tryLock) (SP.aO z.tryLock)) z) ?_;refine SP.ite (SP.aO z.free) ?_;refine SP.ite (SP.fT (SP.aO z)) ?_;refine SP.ite (SP.aO (SP.w z.cR)) ?_;refine SP.ite (SP.an z.free) ?_;refine SP.ite (SP.an (SP.w z.ready)) z
theorem SP.taken (z:SP k s) {i a b:Int}:SP k (taken s g i a b) :=
 SP.bN (SP.aO (SP.w z)) (SP.aO (SP.pair (SP.drop (SP.w z))))
theorem SP.cX (z:SP k s) {a b:Int}:SP k (cX s g a b) :=
 SP.bN (SP.w z.drop) (SP.aO (SP.pair (SP.w (SP.w z) )))
theorem SP.bq (z:SP k s) {d:Su}:SP k (bq s g d) :=
 SP.bN (SP.w z.bw.gZ) (SP.w z.bw)
theorem SP.kI (z:SP k s) {v:Int}:SP k (kI s g v):=SP.serve (SP.gZ z.drop)
theorem SP.hand (z:SP k s) {c i:Int}:SP k (hand s c i).1:=by unfold Sx.hand;simp only;split;exact z;exact z.dK
theorem SP.bJ (z:SP k s):SP k (bJ s g).1:=by
 unfold Sx.bJ;simp only;refine SP.ite z ?_;refine SP.ite z.common ?_;refine SP.ite z ?_;refine SP.ite (SP.ite z.aO z.bG) ?_;refine SP.ite (SP.ite (SP.w z) (SP.w z)) ?_;refine SP.ite (SP.ite z.bG z.aO) ?_;refine SP.ite (SP.ite z.aO z.taken) ?_;refine SP.ite z.cX ?_;refine SP.ite (SP.w z.kI) ?_;refine SP.ite (SP.ite (SP.bG z.dK) (SP.ite z.bG z.aO)) ?_;refine SP.ite z.bq ?_;refine SP.ite (SP.w z.dK) ?_;exact SP.ite (SP.w z) z
theorem SP.bF (z:SP k s):SP k (bF s g).1:=by
 unfold Sx.bF;simp only;refine SP.ite z ?_;refine SP.ite z.common ?_;refine SP.ite z ?_;refine SP.ite (SP.ite z.aO z.bG) ?_;refine SP.ite (SP.ite z.aO (SP.w z)) ?_;refine SP.ite (SP.ite (SP.w z) z.bG) ?_;refine SP.ite (SP.ite z.bG (SP.ite z.aO z.aO)) ?_;refine SP.ite (SP.ite z.aO z.taken) ?_;refine SP.ite z.cX ?_;refine SP.ite (SP.w (SP.serve (SP.hand z.drop)) ) ?_;refine SP.ite (SP.ite (SP.bG z.dK) (SP.ite z.bG z.aO)) ?_;refine SP.ite z.bq ?_;refine SP.ite (SP.w z.dK) ?_;exact SP.ite (SP.w z) z
theorem SP.gO (z:SP k s):SP k (gO s g):=by
 have z2:SP k (Sx.bE (Sx.ai s g { aa s g with t:=s.step }) (aa s g).hold):=SP.drop (SP.w z);exact SP.serve (SP.w z2)
theorem SP.j9 (z:SP k s) {i:Int}:SP k (j9 s g i):=by
 have z2:SP k (Sx.ai s g { aa s g with hold:=i }):=SP.w z;exact SP.bN z2.aO z2.gO
theorem SP.kZ (z:SP k s):SP k (kZ s g) :=
 SP.bN (SP.w z.drop) (SP.aO (SP.gO (SP.w z)))
theorem SP.dh (z:SP k s):SP k (dh s g).1:=by
 unfold Sx.dh;simp only;refine SP.ite z ?_;refine SP.ite z.common ?_;refine SP.ite z ?_;refine SP.ite (SP.ite z.bG (SP.bG z.dK)) ?_;refine SP.ite (SP.ite z.j9 (SP.ite z.j9 z.aO)) ?_;exact SP.ite z.kZ z
theorem SP.unlock (z:SP k s) {p:Int}:SP k (unlock s g p):=SP.w z
theorem SP.dR (z:SP k s) {r:Md.ak} {i:Int}:SP k (dR s g r i):=by
 have z2:SP k (Sx.bG s g { r with cs:=i } 30):=z.bG;exact SP.unlock (SP.w z2)
theorem SP.lock (z:SP k s) {p:Int}:SP k (lock s g p) :=
 SP.bN (SP.bN (SP.w z.tryLock) (SP.w z.tryLock)) z
theorem SP.next (z:SP k s) {p:Int}:SP k (next s g p):=SP.bN (SP.w z) (SP.w z)
theorem SP.fz (z:SP k s):SP k (fz s g):=SP.bN (SP.w z) (SP.w z)
theorem SP.gP (z:SP k s) {i:Int} {q:Pn.Cs}:SP k (gP s g i q).1 :=
 SP.ite z.dR (SP.ite (SP.fz z.taken) (SP.ite (SP.dR z.dK) z))
theorem SP.iG (z:SP k s) {i:Int} {q:Pn.Cs}:SP k (iG s g i q).1 :=
 SP.ite (SP.fz z.taken) (SP.ite (SP.dR z.dK) (SP.ite z.dR z))
theorem SP.jb (z:SP k s):SP k (jb s g (ag s g)):=by
 have z2:SP k (Sx.ai s g { aa s g with au:=List.replicate (ag s g).cases.length (-1) }):=SP.w z;unfold Sx.jb;simp only
 by_cases c1:(bY (ag s g) (aB (aa s g).order (aa s g).k)).send=true
 ·rw [if_pos c1];exact SP.bN z.gP (SP.bN z.next (SP.bN z.dR z2.next))
 ·rw [if_neg c1];exact SP.bN z.iG (SP.bN z.next (SP.bN z.dR z2.next))
theorem SP.jd (z:SP k s) {o:Pn.Op}:SP k (jd s g o):=by
 unfold Sx.jd;simp only;have z1:=z.drop (v:=(aa s g).hold)
 by_cases c:(bY o (aB (aa s g).order (aa s g).k)).send=true
 ·simp only [if_pos c];exact SP.unlock (SP.w (SP.serve z1.gZ) )
 ·simp only [if_neg c];exact SP.unlock (SP.w (SP.serve z1.hand) )
theorem SP.aD (z:SP k s) {o:Pn.Op}:SP k (aD s g o):=by
 unfold Sx.aD;simp only;refine SP.bN (SP.next ?_) (SP.unlock ?_)
 ·exact SP.w z.bw.gZ
 ·refine SP.w z.bw
theorem SP.jP (z:SP k s) {o:Pn.Op}:SP k (jP s g o) :=
 SP.bN (SP.next z.dK) (SP.unlock (SP.w z.dK))
theorem SP.cK (z:SP k s):SP k (cK s g).1:=SP.w z.free
theorem SP.kJ (z:SP k s):SP k (kJ s g):=SP.w z
theorem SP.jQ (z:SP k s):SP k (jQ s g):=SP.bN (SP.next z.drop) (SP.unlock z.drop)
theorem SP.je (z:SP k s):SP k (je s g):=by
 unfold Sx.je;simp only;have z1:SP k (if 0≤aB (aa s g).au (aB (aa s g).order (aa s g).k) then Sx.cR s g (aB (aa s g).au (aB (aa s g).order (aa s g).k)) else s):=SP.bN z.cR z;generalize (if 0≤aB (aa s g).au (aB (aa s g).order (aa s g).k) then Sx.cR s g (aB (aa s g).au (aB (aa s g).order (aa s g).k)) else s)=t at *;refine SP.bN (SP.an (SP.next ?_)) (SP.next ?_)
 ·exact SP.w z1
 ·exact SP.w z1
theorem SP.bk (z:SP k s):SP k (bk s g).1:=by
 unfold Sx.bk;simp only;refine SP.ite z ?_;refine SP.ite z.lock ?_;refine SP.ite z.jb ?_;refine SP.ite (SP.fz z.cX) ?_;refine SP.ite z.jd ?_;refine SP.ite z.aD ?_;refine SP.ite z.jP ?_;refine SP.ite (SP.ite z.cK (SP.ite (SP.aO z.cK) (SP.ite (SP.aO z.cK) (SP.an z.cK)))) ?_;refine SP.ite z.kJ ?_;refine SP.ite z.lock ?_;refine SP.ite z.jQ ?_;refine SP.ite (SP.ite z.cK (SP.aO z.cK)) ?_;refine SP.ite z.je ?_;exact SP.ite z.common z
theorem SP.never (z:SP k s):SP k (never s g):=SP.fT z.aO
theorem SP.clear (z:SP k s):SP k (clear s g):=by
 unfold Sx.clear;exact SP.w z
theorem SP.jf (z:SP k s) {o:Pn.Op}:SP k (jf s g o):=by
 unfold Sx.jf;simp only;have z1:SP k { s with drawn:=(drawn s o.cases.length).2 }:=z.of rfl;exact SP.bN (SP.w z1) (SP.bN (SP.bG (SP.w z1)) (SP.never (SP.w z1)))
theorem SP.jg (z:SP k s):SP k (jg s g):=by
 unfold Sx.jg;simp only;refine SP.bN (SP.w z) ?_;have z2:SP k (Sx.ai (Sx.clear s g) g { aa (Sx.clear s g) g with call:=(Sx.clear s g).step }):=SP.w z.clear;generalize Sx.ai (Sx.clear s g) g { aa (Sx.clear s g) g with call:=(Sx.clear s g).step }=s2 at *;refine SP.bN z2.aO ?_;refine SP.bN (SP.bN z2.aO z2.never) ?_;refine SP.bN (SP.bN z2.aO z2.bG) ?_;exact SP.bN (SP.bN z2.aO z2.bG) z2.jf
theorem SP.jh (z:SP k s):SP k (jh s g):=by
 unfold Sx.jh;simp only;exact SP.bN z.bG (SP.bN (SP.bG (s:={ s with ax:=s.ax ++ [⟨(ag s g).n,[],false,-1,[],[]⟩] }) (z.of rfl)) (SP.bN z.bG (SP.bN z.bG z.bG)))
theorem SP.answer (z:SP k s):SP k (answer s g):=by
 unfold Sx.answer;simp only;have z1:SP k { s with done:=s.done ++ [mark s g s.step] }:=z.of rfl;exact SP.clear (SP.w z1)
theorem SP.gQ (z:SP k s):SP k (gQ s g).1:=by
 unfold Sx.gQ;simp only;exact SP.ite z.jg (SP.ite z.jh (SP.ite z.answer z))
theorem Ks (s:ah) (p:Int):s.step≤(Sx.one s p).1.step∧(Sx.one s p).1.step≤s.step + 1:=by
 unfold Sx.one
 split
 ·exact ⟨Int.le_refl _,by simp only;omega⟩
 have z1:SP (s.step + 1) { s with step:=s.step + 1 }:=rfl;simp only
 split
 ·have:=z1.gQ (g:=p.toNat);unfold SP at this;rw [this];omega
 split
 ·have:=z1.bJ (g:=p.toNat);unfold SP at this;rw [this];omega
 split
 ·have:=z1.bF (g:=p.toNat);unfold SP at this;rw [this];omega
 split
 ·have:=z1.dh (g:=p.toNat);unfold SP at this;rw [this];omega
 split
 ·have:=z1.bk (g:=p.toNat);unfold SP at this;rw [this];omega
 ·exact ⟨Int.le_refl _,by simp only;omega⟩
theorem Kt (l:List Int):∀ s:ah,s.step≤(Sx.runs s l).1.step∧(Sx.runs s l).1.step≤s.step + l.length:=by
 induction l with
 | nil=>intro s;simp [Sx.runs]
 | cons p r ih =>
  intro s;unfold Sx.runs
  split
  ·simp only [List.length_cons];omega
  ·have h1:=Ks s (pick s p);have h2:=ih (Sx.one s (pick s p)).1;simp only [List.length_cons];omega
theorem Good.runs {s:ah} (h:Good s) (l:List Int):Good (Sx.runs s l).1:=by
 induction l generalizing s with
 | nil=>exact h
 | cons p r ih =>
  unfold Sx.runs
  split
  ·exact h
  ·exact ih (h.one _)
end
end Sx
namespace Po
theorem Ec (f:Int):∀ (L:List Int) (H:List Bool),f≤H.length→L.Nodup→(∀ x∈L,0≤x∧x < f∧H.getD x.toNat false=false) →
  (settle f H L).2=true∧∀ j:Nat,(settle f H L).1.getD j false=(H.getD j false || decide ((j:Int)∈L))
 | [],H,hf,nd,hx=>⟨rfl,fun j=>by simp [settle]⟩
 | x :: r,H,hf,nd,hx=>by
  obtain ⟨h0,h1,h2⟩:=hx x (List.mem_cons_self ..);have Ed:=List.nodup_cons.1 nd;have hl:live f H x=true:=by simp only [live,Bool.and_eq_true,decide_eq_true_eq,Bool.not_eq_true'];exact ⟨⟨h0,h1⟩,h2⟩
  have:=Ec f r (H.set x.toNat true) (by rw [List.length_set];exact hf) Ed.2 (fun y hy=>by
   obtain ⟨a,b,c⟩:=hx y (List.mem_cons_of_mem _ hy);refine ⟨a,b,?_⟩;rw [mY _ _ _ _ _ (by omega),if_neg];exact c;intro e;have:x=y:=by omega
   exact Ed.1 (this ▸ hy))
  unfold settle;rw [if_pos hl];refine ⟨this.1,fun j=>?_⟩;rw [this.2 j,mY _ _ _ _ _ (by omega)]
  by_cases e:x.toNat=j
  ·rw [if_pos e];have:(j:Int)=x:=by omega
   simp [this]
  ·rw [if_neg e];have:(j:Int)≠x:=by omega
   simp [this]
theorem Ku {size most:Nat} {C:List (List Int)} {M:List Int} {f:Nat} {H0:List Bool} (v:Inv size most ⟨C,M,f,H0⟩) (hC:C.length≤8) :
  of size most f C M=true∧∀ H,settle f (List.replicate size false) (C.flatten ++ M)=(H,true)→Inv size most ⟨C,M,f,H⟩:=by
 have hc:∀ a,(C.flatten ++ M).count a=fj ⟨C,M,f,H0⟩ a:=fun a=>by rw [List.count_append];unfold fj;simp only;omega
 have fl:=v.fl;simp only at fl;have hk:=Ec f (C.flatten ++ M) (List.replicate size false) (by simpa using fl) (List.nodup_iff_count.2 fun a=>by rw [hc];exact v.one a) (fun x hx=>by
  have h1:=v.bound x (by rw [← hc];exact List.count_pos_iff.2 hx);simp only at h1;exact ⟨h1.1,h1.2,by rw [List.getD_eq_getElem?_getD,List.getElem?_replicate];split <;> rfl⟩)
 have ca:=v.oY;simp only at ca;have m1:=v.m1;have m2:=v.m2;have s1:=v.s1;refine ⟨?_,fun H hH=>⟨m1,m2,s1,?_,v.fl,v.one,v.bound,fun x hx=>?_,v.oY⟩⟩
 ·unfold of fits;have a1:decide (0≤(size:Int)∧(size:Int)≤64∧0≤(C.length:Int)∧(C.length:Int)≤8∧1≤(most:Int)∧(most:Int)≤16)=true:=decide_eq_true (by omega);have a2:decide (0≤(f:Int))=true:=decide_eq_true (by omega);have a3:decide ((f:Int)≤(size:Int))=true:=decide_eq_true (by omega);have a4:decide (∀ l∈C,(l.length:Int)≤(most:Int))=true:=decide_eq_true (fun l hl=>by have:=ca l hl;omega);rw [a1,a2,a3,a4,Int.toNat_natCast];exact hk.1
 ·have:=yL f (List.replicate size false) (C.flatten ++ M);rw [hH] at this;simpa using this
 ·have:=hk.2 x;rw [hH] at this;simp only at this ⊢;rw [this,List.getD_eq_getElem?_getD,List.getElem?_replicate,if_pos hx];simp only [Option.getD_some,Bool.false_or];rw [decide_eq_decide]
  show _↔1≤fj ⟨C,M,f,H0⟩ (x:Int);rw [← hc];exact List.count_pos_iff.symm
end Po
namespace Sx
variable {s:ah}
theorem ue {α:Type} {l:List α} {k:Nat} {a z:α} (h:l[k]?=some a) (n:Nat) (hn:n=l.length):(l.take k ++ List.replicate (n - k) z).set k a=l.take (k + 1) ++ List.replicate (n - (k + 1)) z:=by
 have hk:=(List.getElem?_eq_some_iff.1 h).1;have e1:(l.take k).length=k:=by rw [List.length_take];omega
 obtain ⟨d,hd⟩:∃ d,n - k=d + 1:=⟨n - k - 1,by omega⟩
 have Kv:n - (k + 1)=d:=by omega
 rw [List.set_append_right _ _ (by omega),e1,Nat.sub_self,hd,Kv,List.replicate_succ,List.set_cons_zero,List.take_add_one,h,List.append_assoc];rfl
def bK (s:ah) (k:Nat):List (Int × Bool):=(s.gs.map fun x=>(x.status,x.token)).take k ++ List.replicate (s.gs.length - k) (0,false)
theorem Kw (k:Nat) (hk:k≤s.gs.length):(bK s k).length=s.gs.length:=by simp [bK];omega
theorem Kx {k:Nat} (hk:k < s.gs.length) (h:0≤(aa s k).status∧(aa s k).status≤2):Bc.wu (bK s k) (k:Int) (aa s k).status (aa s k).token=bK s (k + 1):=by
 have hx:s.gs[k]?=some (aa s k):=by unfold aa;rw [List.getD_eq_getElem?_getD,List.getElem?_eq_getElem hk];rfl
 have:Bc.rU (bK s k) (k:Int) (aa s k).status=true:=by
  unfold Bc.rU Bc.has;rw [Kw k (by omega)];simp only [Bool.and_eq_true,decide_eq_true_eq];omega
 unfold Bc.wu;rw [if_pos this,Int.toNat_natCast];unfold bK;exact ue (by rw [List.getElem?_map,hx];rfl) _ (by simp)
theorem Ky (h:s.gs.length≤8):Bc.gz (s.gs.length:Int)=bK s 0:=by
 unfold Bc.gz bK;rw [show (max 0 (min (s.gs.length:Int) 4096)).toNat=s.gs.length by omega];simp
theorem Kz:bK s s.gs.length=s.gs.map fun x=>(x.status,x.token):=by
 unfold bK;rw [List.take_of_length_le (by simp),Nat.sub_self];simp
def lK (s:ah) (k:Nat):List Int:=(s.ax.map (·.lock)).take k ++ List.replicate (s.ax.length - k) (-1)
theorem Ee {k:Nat} (hk:k < s.ax.length):s.ax[k]?=some (cn s ((k:Int) + 1)):=by
 unfold cn;rw [show ((k:Int) + 1 - 1).toNat=k by omega,List.getD_eq_getElem?_getD,List.getElem?_eq_getElem hk];rfl
theorem KB {k:Nat} (hk:k < s.ax.length) (h:(cn s ((k:Int) + 1)).lock=-1∨0≤(cn s ((k:Int) + 1)).lock):Lt.ua (lK s k) ((k:Int) + 1 - 1) (cn s ((k:Int) + 1)).lock=lK s (k + 1):=by
 have hx:=Ee hk;have hl:(lK s k).length=s.ax.length:=by simp [lK];omega
 have hm:(s.ax.map (·.lock))[k]?=some (cn s ((k:Int) + 1)).lock:=by rw [List.getElem?_map,hx];rfl
 have hf:=ue (z:=(-1:Int)) hm s.ax.length (by simp);rw [show (k:Int) + 1 - 1=k by omega];have he:(lK s k)[k]?=some (-1):=by
  have e1:((s.ax.map (·.lock)).take k).length=k:=by simp;omega
  unfold lK;rw [List.getElem?_append_right (by omega),e1,Nat.sub_self,List.getElem?_replicate,if_pos (by omega)]
 unfold Lt.ua
 split
 ·rw [Int.toNat_natCast];exact hf
 ·rename_i c;have:¬ 0≤(cn s ((k:Int) + 1)).lock:=by
   intro c2;apply c;unfold Lt.tZ Lt.has;rw [hl,Int.toNat_natCast,List.getD_eq_getElem?_getD,he];simp only [Bool.and_eq_true,decide_eq_true_eq];exact ⟨⟨⟨by omega,by omega⟩,c2⟩,by simp⟩
  have e:(cn s ((k:Int) + 1)).lock=-1:=by omega
  rw [e] at hf;have:(lK s k).set k (-1)=lK s k:=by
   apply List.ext_getElem?;intro j;rw [List.getElem?_set]
   split
   ·rename_i c3;subst c3;rw [he];simp [hl,hk]
   ·rfl
  unfold lK at this;rw [hf] at this;exact this.symm
theorem KC (h:s.ax.length≤8):Lt.gz (s.ax.length:Int)=lK s 0:=by
 unfold Lt.gz lK;rw [show (max 0 (min (s.ax.length:Int) 4096)).toNat=s.ax.length by omega];simp
theorem KD:lK s s.ax.length=s.ax.map (·.lock):=by
 unfold lK;rw [List.take_of_length_le (by simp),Nat.sub_self];simp
def qK (s:ah) (k a b:Nat):List (List Int):=(List.range 16).map fun j =>
 if j / 2 < k then (if j % 2=0 then (cn s ((j / 2:Nat) + 1)).recv else (cn s ((j / 2:Nat) + 1)).send)
 else if j / 2=k then (if j % 2=0 then (cn s ((k:Nat) + 1)).recv.take a else (cn s ((k:Nat) + 1)).send.take b) else []
theorem oK (k a b:Nat):(qK s k a b).length=16:=by simp [qK]
theorem pN (k a b:Nat) {j:Nat} (hj:j < 16):(qK s k a b)[j]?=some (if j / 2 < k then (if j % 2=0 then (cn s ((j / 2:Nat) + 1)).recv else (cn s ((j / 2:Nat) + 1)).send)
 else if j / 2=k then (if j % 2=0 then (cn s ((k:Nat) + 1)).recv.take a else (cn s ((k:Nat) + 1)).send.take b) else []):=by
 unfold qK;rw [List.getElem?_map,List.getElem?_range hj];rfl
theorem Ef {k a b:Nat} {x:Int} (h:x∈(qK s k a b).flatten):∃ j:Nat,j≤k∧(j < k∧(x∈(cn s ((j:Int) + 1)).recv∨x∈(cn s ((j:Int) + 1)).send)∨j=k∧(x∈(cn s ((k:Int) + 1)).recv.take a∨x∈(cn s ((k:Int) + 1)).send.take b)):=by
 obtain ⟨l,hl,hx⟩:=List.mem_flatten.1 h;unfold qK at hl;obtain ⟨j,hj,rfl⟩:=List.mem_map.1 hl;have hj:j < 16:=by simpa using hj
 by_cases c:j / 2 < k
 ·rw [if_pos c] at hx;refine ⟨j / 2,by omega,.inl ⟨c,?_⟩⟩
  split at hx
  ·exact .inl hx
  ·exact .inr hx
 ·rw [if_neg c] at hx
  split at hx
  ·rename_i c2;refine ⟨k,Nat.le_refl _,.inr ⟨rfl,?_⟩⟩
   split at hx
   ·exact .inl hx
   ·exact .inr hx
  ·simp at hx
theorem Eg {l:List Int} (nd:l.Nodup) {a:Nat} {x:Int} (h:l[a]?=some x):x∉l.take a:=by
 intro hx;obtain ⟨j,hj⟩:=List.getElem?_of_mem hx;have hl:=(List.getElem?_eq_some_iff.1 hj).1;rw [List.length_take] at hl;rw [List.getElem?_take_of_lt (by omega)] at hj;obtain ⟨h1,h2⟩:=List.getElem?_eq_some_iff.1 h;obtain ⟨h3,h4⟩:=List.getElem?_eq_some_iff.1 hj;exact List.pairwise_iff_getElem.1 nd j a h3 h1 (by omega) (h4.trans h2.symm)
structure Qs (s:ah):Prop where
 c8:s.ax.length≤8
 q:∀ k:Nat,k < s.ax.length→∀ i,i∈(cn s ((k:Int) + 1)).recv∨i∈(cn s ((k:Int) + 1)).send→0≤i∧i < s.aD.length∧(su s i).ch=(k:Int) + 1∧((su s i).send=false→i∉(cn s ((k:Int) + 1)).send)∧((su s i).send=true→i∉(cn s ((k:Int) + 1)).recv)
 nd:∀ k:Nat,k < s.ax.length→(cn s ((k:Int) + 1)).recv.Nodup∧(cn s ((k:Int) + 1)).send.Nodup
theorem KF (Q:Qs s) {k a:Nat} (hk:k < s.ax.length) {x:Int} (hx:(cn s ((k:Int) + 1)).recv[a]?=some x):Qu.push s.aD.length (qK s k a 0) (2 * ((k:Int) + 1) - 2) x=(qK s k (a + 1) 0,true):=by
 have m:=List.mem_of_getElem? hx;have c8:=Q.c8;obtain ⟨i0,i1,i2,i3,i4⟩:=Q.q k hk x (.inl m);have hn:Qu.loc (qK s k a 0) x=none:=by
  rw [Qu.qw];intro hm;obtain ⟨j,j1,⟨j2,j3⟩ | ⟨rfl,j3⟩⟩:=Ef hm
  ·have:=(Q.q j (by omega) x j3).2.2.1;omega
  ·rcases j3 with j3 | j3
   ·exact Eg (Q.nd j hk).1 hx j3
   ·simp at j3
 have e:2 * ((k:Int) + 1) - 2=((2 * k:Nat):Int):=by omega
 have hl:Qu.line (qK s k a 0) ((2 * k:Nat):Int)=true:=by unfold Qu.line;rw [oK];simp only [Bool.and_eq_true,decide_eq_true_eq];omega
 unfold Qu.push;rw [e,hl,hn,if_pos (by simp only [Option.isNone_none,Bool.true_and,Bool.and_true,Bool.and_eq_true,decide_eq_true_eq];exact ⟨i0,i1⟩)];unfold Qu.row;rw [hl,if_pos rfl,Int.toNat_natCast,List.getD_eq_getElem?_getD,pN k a 0 (j:=2 * k) (by omega)]
 congr 1
 apply List.ext_getElem?;intro j;rw [List.getElem?_set]
 by_cases c:2 * k=j
 ·subst c;rw [if_pos rfl,if_pos (by rw [oK];omega),pN k (a + 1) 0 (j:=2 * k) (by omega)];have d1:2 * k / 2=k:=by omega
  have d2:2 * k % 2=0:=by omega
  simp only [d1,d2,Nat.lt_irrefl,if_false,if_true,Option.getD_some];rw [List.take_add_one,hx];rfl
 ·rw [if_neg c]
  by_cases c2:j < 16
  ·rw [pN k a 0 c2,pN k (a + 1) 0 c2]
   by_cases c3:j / 2=k
   ·have:j % 2≠0:=by omega
    simp only [this,if_false]
   ·rw [if_neg c3,if_neg c3]
  ·rw [List.getElem?_eq_none (by rw [oK];omega),List.getElem?_eq_none (by rw [oK];omega)]
theorem KG (Q:Qs s) {k b:Nat} (hk:k < s.ax.length) {x:Int} (hx:(cn s ((k:Int) + 1)).send[b]?=some x) :
  Qu.push s.aD.length (qK s k (cn s ((k:Int) + 1)).recv.length b) (2 * ((k:Int) + 1) - 1) x=(qK s k (cn s ((k:Int) + 1)).recv.length (b + 1),true):=by
 have m:=List.mem_of_getElem? hx;have c8:=Q.c8;obtain ⟨i0,i1,i2,i3,i4⟩:=Q.q k hk x (.inr m);generalize QL:(cn s ((k:Int) + 1)).recv.length=a;have hn:Qu.loc (qK s k a b) x=none:=by
  rw [Qu.qw];intro hm;obtain ⟨j,j1,⟨j2,j3⟩ | ⟨rfl,j3⟩⟩:=Ef hm
  ·have:=(Q.q j (by omega) x j3).2.2.1;omega
  ·rcases j3 with j3 | j3
   ·have j3:=List.mem_of_mem_take j3
    cases c:(su s x).send with
    | false=>exact i3 c m
    | true=>exact i4 c j3
   ·exact Eg (Q.nd j hk).2 hx j3
 have e:2 * ((k:Int) + 1) - 1=((2 * k + 1:Nat):Int):=by omega
 have hl:Qu.line (qK s k a b) ((2 * k + 1:Nat):Int)=true:=by unfold Qu.line;rw [oK];simp only [Bool.and_eq_true,decide_eq_true_eq];omega
 unfold Qu.push;rw [e,hl,hn,if_pos (by simp only [Option.isNone_none,Bool.true_and,Bool.and_true,Bool.and_eq_true,decide_eq_true_eq];exact ⟨i0,i1⟩)];unfold Qu.row;rw [hl,if_pos rfl,Int.toNat_natCast,List.getD_eq_getElem?_getD,pN k a b (j:=2 * k + 1) (by omega)]
 congr 1
 apply List.ext_getElem?;intro j;rw [List.getElem?_set]
 by_cases c:2 * k + 1=j
 ·subst c;rw [if_pos rfl,if_pos (by rw [oK];omega),pN k a (b + 1) (j:=2 * k + 1) (by omega)];have d1:(2 * k + 1) / 2=k:=by omega
  have d2:(2 * k + 1) % 2=1:=by omega
  simp only [d1,d2,Nat.lt_irrefl,if_false,if_true,Option.getD_some,Nat.one_ne_zero];rw [List.take_add_one,hx];rfl
 ·rw [if_neg c]
  by_cases c2:j < 16
  ·rw [pN k a b c2,pN k a (b + 1) c2]
   by_cases c3:j / 2=k
   ·have:j % 2=0:=by omega
    simp only [this,if_true]
   ·rw [if_neg c3,if_neg c3]
  ·rw [List.getElem?_eq_none (by rw [oK];omega),List.getElem?_eq_none (by rw [oK];omega)]
theorem KH:List.replicate 16 []=qK s 0 0 0:=by
 refine (List.eq_replicate_iff.2 ⟨oK 0 0 0,fun l hl=>?_⟩).symm;unfold qK at hl;obtain ⟨j,_,rfl⟩:=List.mem_map.1 hl
 split
 ·omega
 ·split
  ·split <;> simp
  ·rfl
theorem KI {k:Nat}:qK s k (cn s ((k:Int) + 1)).recv.length (cn s ((k:Int) + 1)).send.length=qK s (k + 1) 0 0:=by
 unfold qK;refine List.map_congr_left fun j hj=>?_
 by_cases c:j / 2 < k
 ·rw [if_pos c,if_pos (show j / 2 < k + 1 by omega)]
 ·rw [if_neg c]
  by_cases c2:j / 2=k
  ·rw [if_pos c2,if_pos (show j / 2 < k + 1 by omega),List.take_of_length_le (Nat.le_refl _),List.take_of_length_le (Nat.le_refl _),c2]
  ·rw [if_neg c2,if_neg (show ¬ j / 2 < k + 1 by omega)]
   split
   ·split <;> simp
   ·rfl
theorem KJ:qK s s.ax.length 0 0=(List.range 16).map fun j=>if j % 2=0 then (cn s ((j / 2:Nat) + 1)).recv else (cn s ((j / 2:Nat) + 1)).send:=by
 unfold qK;refine List.map_congr_left fun j hj=>?_
 by_cases c:j / 2 < s.ax.length
 ·rw [if_pos c]
 ·rw [if_neg c];have e:cn s ((j / 2:Nat) + 1)=rN:=by
   unfold cn;rw [List.getD_eq_getElem?_getD,List.getElem?_eq_none (by omega)];rfl
  rw [e]
  split
  ·split <;> simp [rN]
  ·split <;> rfl
theorem Good.qs (h:Good s):Qs s:=by
 have h':=h.toMInv;refine ⟨h.c8,fun k hk i hi=>?_,fun k hk=>?_⟩
 ·have:=Inv.q h'.v ((k:Int) + 1) (by omega) (by omega) i hi;obtain ⟨a1,a2,a3,a4,a5,_⟩:=this;exact ⟨a1,a2,a3,fun e=>(a4 e).2,fun e=>(a5 e).2⟩
 ·exact Inv.nd h'.v ((k:Int) + 1) (by omega) (by omega)
end Sx
namespace Sx
structure Bg (n:Nat) (x:Gr):Prop where
 op:x.ops.length≤n
 oc:∀ o∈x.ops,o.cases.length≤n
 od:x.order.length≤n
 lk:x.aC.length≤n
 sg:x.au.length≤n
 wk:x.an.length≤n
structure Bh (n:Nat) (c:Cn):Prop where
 cp:0≤c.cap
 bf:c.buf.length≤n
 rv:c.recv.length≤n
 sd:c.send.length≤n
structure Bd (n:Nat) (s:ah):Prop where
 g8:s.gs.length≤8
 c8:s.ax.length≤8
 jT:s.aD.length≤64
 dn:s.done.length≤n
 dr:s.cD.length≤1000
 cl:s.cache.length=s.gs.length
 cb:∀ l∈s.cache,l.length≤n
 mb:s.middle.length≤n
 fr:0≤s.fresh
 gs:∀ x∈s.gs,Bg n x
 cs:∀ c∈s.ax,Bh n c
section
variable {n m:Nat} {s:ah} {g:Nat}
end
theorem vK {C:List (List Int)} {l:List Int} (h:l∈C):l.length≤C.flatten.length:=by
 induction C with
 | nil=>simp at h
 | cons a C ih =>
  rcases List.mem_cons.1 h with rfl | h
  ·simp
  ·have:=ih h;rw [List.flatten_cons,List.length_append];omega
end Sx
open Go.RowKit
namespace Sx
class QM (g:Nat) (s:ah):Prop where h:g < s.gs.length
class QN (k g:Nat):Prop where h:k≠g
class QO (s:ah) (g:Nat) (x:outParam Gr):Prop where h:aa s g=x
class QT (i:Int) (s:ah):Prop where
 h0:0≤i
 h1:i < s.aD.length
class QU (s:ah) (i:Int) (x:outParam Su):Prop where h:su s i=x
section
variable {s:ah} {g k:Nat} {x y:Gr} {f:Gr→Gr} {i j:Int} {d e:Su} {c:Int} {n:Cn}
end
end Sx
namespace Fl
open Sx
class QV (B:List ak) (u:outParam U) (s:outParam ah):Prop where h:True
section
variable {P:Program} {c:Cx} {k:List Item} {fm:Fm} {L B:List ak} {mk:List ak→List ak} {ops:Array Oper} {l:List Oper} {u:U} {s:ah} {g:Nat}
theorem J.Eh {E:List ak}:∀ {B:List ak},J P c k fm E→J P c k fm (E ++ B)
 | [],h=>by simpa using h
 | b :: B,h=>J.drop E.length (by
   have:(E ++ b :: B).eraseIdx E.length=E ++ B:=by rw [List.eraseIdx_append_of_length_le (Nat.le_refl _),Nat.sub_self];rfl
   rw [this];exact J.Eh h)
end
section
variable (b:Nat) (u:U) (s:ah)
variable {s}
end
end Fl
open Go.RowKit Go.ChangeShapes Go.WideShapes Go.Deep
def jV (w:World) (cs:List Value) (c:Pn.Cs) (U:List Nat):Prop:=cs=[.bool c.send,.int .i64 c.ch,.int .i64 c.v]∧U=[]
def sF (w:World) (cs:List Value) (o:Pn.Op) (U:List Nat):Prop :=
 ∃ vc,cs=[.int .i64 o.kind,.int .i64 o.ch,.int .i64 o.n,.int .i64 o.v,vc,.bool o.cQ]∧GV jV 3 w vc o.cases U
theorem pO:Kept jV:=⟨fun h _ _=>h,fun h x hx=>by obtain ⟨_,rfl⟩:=h;simp at hx⟩
theorem w8:Kept sF :=
 ⟨fun h k hn=>by obtain ⟨vc,h1,h2⟩:=h;exact ⟨vc,h1,h2.gf pO k hn⟩,fun h=>by obtain ⟨vc,h1,h2⟩:=h;exact h2.lt⟩
def oL:World→List Value→List Pn.Op→List Nat→Prop:=mT sF 6
theorem Ac:Kept oL:=Bb w8
section
variable {w:World} {ao:Option Addr} {m cap k:Nat} {S:List Nat}
theorem GV.case {l:List Pn.Cs} {c:Pn.Cs} (h:GV jV 3 w (.slice ao m cap) l S) (hk:l[k]?=some c) :
  ∃ g off,ao=some ⟨g,off,none⟩∧g∈S∧g < w.heap.size∧w.cell? ⟨g,off + k * 3,none⟩=some (.bool c.send)∧w.cell? ⟨g,off + k * 3 + 1,none⟩=some (.int .i64 c.ch)∧w.cell? ⟨g,off + k * 3 + 2,none⟩=some (.int .i64 c.v):=by
 obtain ⟨g,off,cs,U,h1,h2,h3,h4,h5,⟨rfl,_⟩,_⟩:=h.get hk;exact ⟨g,off,h1,h2,h3,h5 0 (by omega),h5 1 (by omega),h5 2 (by omega)⟩
theorem GV.op {l:List Pn.Op} {o:Pn.Op} (h:GV sF 6 w (.slice ao m cap) l S) (hk:l[k]?=some o) :
  ∃ g off vc U,ao=some ⟨g,off,none⟩∧g∈S∧g < w.heap.size∧(w.cell? ⟨g,off + k * 6,none⟩=some (.int .i64 o.kind)∧w.cell? ⟨g,off + k * 6 + 1,none⟩=some (.int .i64 o.ch)∧w.cell? ⟨g,off + k * 6 + 2,none⟩=some (.int .i64 o.n) ∧
   w.cell? ⟨g,off + k * 6 + 3,none⟩=some (.int .i64 o.v)∧w.cell? ⟨g,off + k * 6 + 4,none⟩=some vc∧w.cell? ⟨g,off + k * 6 + 5,none⟩=some (.bool o.cQ))∧GV jV 3 w vc o.cases U∧∀ x∈U,x∈S:=by
 obtain ⟨g,off,cs,U,h1,h2,h3,h4,h5,⟨vc,rfl,h6⟩,h7⟩:=h.get hk;exact ⟨g,off,vc,U,h1,h2,h3,⟨h5 0 (by omega),h5 1 (by omega),h5 2 (by omega),h5 3 (by omega),h5 4 (by omega),h5 5 (by omega)⟩,h6,h7⟩
theorem GV.one {α:Type} {E:World→List Value→α→List Nat→Prop} {l:List α} {a:α} (h:GV E 1 w (.slice ao m cap) l S) (hk:l[k]?=some a) :
  ∃ g off v U,ao=some ⟨g,off,none⟩∧g∈S∧g < w.heap.size∧w.cell? ⟨g,off + k,none⟩=some v∧E w [v] a U∧∀ x∈U,x∈S:=by
 obtain ⟨g,off,cs,U,h1,h2,h3,h4,h5,h6,h7⟩:=h.get hk;obtain ⟨v,rfl⟩:=Gv h4;exact ⟨g,off,v,U,h1,h2,h3,by have:=h5 0 (by omega);simpa using this,h6,h7⟩
end
theorem w9:eU Tryz.prog 3 (kB .i64) 1:=vL Tryz.underlying3 (by kernel_rfl)
theorem Ei:eU Tryz.prog 2 (kB .i64) 1:=vL Tryz.underlying2 (by kernel_rfl)
theorem Ej:eU Tryz.prog 4 xT 1:=GC Tryz.underlying4 (by kernel_rfl)
theorem KK:eU Tryz.prog 165 jV 3:=by
 refine ⟨by omega,pO,by kernel_rfl,?_⟩;intro H enc W fuel cs x h;obtain ⟨xs,n,_,_,hl,iR,hf⟩:=DataW.trod_struct Tryz.underlying165 h;have KL:cs.length=3:=hl.trans (by kernel_rfl);obtain ⟨v0,v1,v2,rfl⟩:=Gy KL;have tV:xs.length=3:=iR.trans (by kernel_rfl);have hs:∀ i,i < 3→(xs[i]?).isSome=true:=fun i hi=>by simp [tV,hi]
 obtain ⟨_,_,a0,U0,e0,_⟩:=Ej.field rfl rfl (hs 0 (by omega)) (hf 0 _ rfl);obtain ⟨_,_,a1,U1,e1,_⟩:=w9.field rfl rfl (hs 1 (by omega)) (hf 1 _ rfl);obtain ⟨_,_,a2,U2,e2,_⟩:=Ei.field rfl rfl (hs 2 (by omega)) (hf 2 _ rfl);simp at e0 e1 e2;subst e0 e1 e2;exact ⟨rfl,(by intro y hy;simp at hy;rcases hy with rfl | rfl | rfl <;> rfl),⟨a0,a1,a2⟩,[],rfl,rfl⟩
theorem KM:eU Tryz.prog 56 (mT jV 3) 1:=tf Tryz.underlying56 (by kernel_rfl) KK
theorem KO:eU Tryz.prog 58 sF 6:=by
 refine ⟨by omega,w8,by kernel_rfl,?_⟩;intro H enc W fuel cs x h;obtain ⟨xs,n,_,_,hl,iR,hf⟩:=DataW.trod_struct Tryz.underlying58 h;have KP:cs.length=6:=hl.trans (by kernel_rfl);obtain ⟨v0,v1,v2,v3,v4,v5,rfl⟩:=GA KP;have KQ:xs.length=6:=iR.trans (by kernel_rfl);have hs:∀ i,i < 6→(xs[i]?).isSome=true:=fun i hi=>by simp [KQ,hi]
 obtain ⟨_,_,a0,U0,e0,_⟩:=w9.field rfl rfl (hs 0 (by omega)) (hf 0 _ rfl);obtain ⟨_,_,a1,U1,e1,_⟩:=w9.field rfl rfl (hs 1 (by omega)) (hf 1 _ rfl);obtain ⟨_,_,a2,U2,e2,_⟩:=w9.field rfl rfl (hs 2 (by omega)) (hf 2 _ rfl);obtain ⟨_,_,a3,U3,e3,_⟩:=Ei.field rfl rfl (hs 3 (by omega)) (hf 3 _ rfl);obtain ⟨o4,_,a4,U4,vc,e4,h4⟩:=KM.field rfl rfl (hs 4 (by omega)) (hf 4 _ rfl);obtain ⟨_,_,a5,U5,e5,_⟩:=Ej.field rfl rfl (hs 5 (by omega)) (hf 5 _ rfl);simp at e0 e1 e2 e3 e4 e5 o4;subst e0 e1 e2 e3 e4 e5;exact ⟨rfl,(by intro y hy;simp at hy;rcases hy with rfl | rfl | rfl | rfl | rfl | rfl <;> first | rfl | assumption),⟨a0,a1,a2,a3,a4,a5⟩,U4,v4,rfl,h4⟩
theorem KS:eU Tryz.prog 53 oL 1:=tf Tryz.underlying53 (by kernel_rfl) KO
theorem KT:eU Tryz.prog 22 (mT oL 1) 1:=tf Tryz.underlying22 (by kernel_rfl) KS
open Go.RowKit
theorem qO (w:World) (k:Int):Calls Tryz.prog 136 #[.int .i64 k] w fun e w'=>e=.returned (.bool (Pn.fu k))∧w=w':=by
 go_enter Tryz.func136,Tryz.ntmps136
 go_wp2_with fail
 all_goals
  go_ret
  exact ⟨dG (by simp [Pn.fu, *] <;> omega),rfl⟩
theorem qP (w:World) (k:Int):Calls Tryz.prog 137 #[.int .i64 k] w fun e w'=>e=.returned (.bool (Pn.fy k))∧w=w':=by
 go_enter Tryz.func137,Tryz.ntmps137
 go_wp2_with fail
 all_goals
  go_ret
  exact ⟨dG (by simp [Pn.fy, *]),rfl⟩
theorem pR (w:World) (k:Int):Calls Tryz.prog 96 #[.int .i64 k] w fun e w'=>e=.returned (.bool (Pn.fu k))∧w=w':=by
 go_enter Tryz.func96,Tryz.ntmps96
 go_wp2_with fail
 all_goals
  go_ret
  exact ⟨dG (by simp [Pn.fu, *] <;> omega),rfl⟩
theorem pS (w:World) (k:Int):Calls Tryz.prog 97 #[.int .i64 k] w fun e w'=>e=.returned (.bool (Pn.fy k))∧w=w':=by
 go_enter Tryz.func97,Tryz.ntmps97
 go_wp2_with fail
 all_goals
  go_ret
  exact ⟨dG (by simp [Pn.fy, *]),rfl⟩
def Pn.within (has:Bool) (n most:Int):Bool:=if has then decide (0≤n) && decide (n≤most) else n == 0
theorem jj (w:World) (b:Bool) (n most:Int):Calls Tryz.prog 135 #[.bool b,.int .i64 n,.int .i64 most] w fun e w'=>e=.returned (.bool (Pn.within b n most))∧w=w':=by
 cases b with
 | true =>
  go_enter Tryz.func135,Tryz.ntmps135
  go_wp2_with fail
  all_goals
   go_ret
   exact ⟨dG (by simp [Pn.within, *] <;> omega),rfl⟩
 | false =>
  go_enter Tryz.func135,Tryz.ntmps135
  go_wp2_with fail
  all_goals
   go_ret
   exact ⟨dG (by simp [Pn.within, *] <;> omega),rfl⟩
end Go.Proofs.YtgjpdogjekmemaaGreat
