/-
  What the laws need, part A15.
  Conditions: none.
-/
import Derived.Test.YtofnbflkhgammaaGreatA14
set_option linter.unusedVariables false
set_option linter.unusedSimpArgs false
set_option linter.unnecessarySimpa false
set_option maxHeartbeats 2000000
namespace Go.Proofs.YtofnbflkhgammaaGreat
namespace Sx
variable {s t:St} {g:Nat} {nc ns n:Int}
theorem vQ {l:List Int} (h:l.length≠0):l.headD 0∈l:=by
 cases l with
 | nil=>simp at h
 | cons a l=>simp
theorem Km {l:List Int} {r v:Int} (h:(iE l r v).2=true):((iE l r v).1.length:Int)≤r:=by
 unfold iE at h ⊢
 split at h
 ·cases h
 ·rename_i c;rw [if_neg c];simp;omega
theorem Kn {l:List Int}:(gF l).1.length≤l.length:=by
 unfold gF;split <;> simp
theorem MInv.bO (h:MInv s) (hg:g < s.gs.length) (st:(gr s g).status=0):MInv (bO s g).1:=by
 unfold Sx.bO;simp only
 by_cases k:(op s g).kind≠2∧(op s g).kind≠4
 ·rw [if_pos k];exact h
 rw [if_neg k];have k2:2≤(op s g).kind∧(op s g).kind≤5:=by omega
 by_cases hc:(Sx.common s g).2=true
 ·rw [if_pos hc];exact h.common hg st (.inl (by omega))
 rw [if_neg hc]
 by_cases hm:Sx.made s (op s g).ch=false
 ·rw [if_pos hm];exact h
 rw [if_neg hm];have l9:=oV.1 (show Sx.made s (op s g).ch=true by simpa using hm)
 by_cases e1:(gr s g).place=1
 ·rw [if_pos e1]
  split
  ·exact h.ia hg st (by omega) (by omega) (x:={ gr s g with place:=4 }) rfl rfl rfl rfl rfl rfl (by show aZ _ 4;unfold aZ;omega) (by simp) (by rw [e1];unfold hP;simp)
  ·have pl:=((h.loc hg).pl.resolve_left (by omega)).2;have hk:(aD (gr s g)).kind=(op s g).kind:=rfl;rw [hk,e1] at pl;exact h.ia hg st (by omega) (by omega) (x:={ gr s g with bG:=s.step,res:=(gr s g).res,place:=2 }) rfl rfl rfl rfl rfl rfl (by show aZ _ 2;unfold aZ at pl ⊢;omega) (by simp) (by rw [e1];unfold hP;simp)
 rw [if_neg e1]
 by_cases e2:(gr s g).place=2
 ·rw [if_pos e2]
  split
  ·exact h.ia hg st (by omega) (by omega) (x:={ gr s g with bG:=0,place:=4 }) rfl rfl rfl rfl rfl rfl (by show aZ _ 4;unfold aZ;omega) (by simp) (by rw [e2];unfold hP;simp)
  ·exact h.ia hg st (by omega) (by omega) (x:={ gr s g with res:={ (gr s g).res with code:=2 },place:=18 }) rfl rfl rfl rfl rfl rfl (.inl rfl) (by simp) (by rw [e2];unfold hP;simp)
 rw [if_neg e2]
 by_cases e5:(gr s g).place=5
 ·rw [if_pos e5]
  split
  ·exact h.ia hg st (by omega) (by omega) (x:={ gr s g with bG:=s.step,res:=res 3,place:=16 }) rfl rfl rfl rfl rfl rfl (by show aZ _ 16;unfold aZ;omega) (by simp) (by rw [e5];unfold hP;simp)
  ·exact h.ia hg st (by omega) (by omega) (x:={ gr s g with place:=6 }) rfl rfl rfl rfl rfl rfl (by show aZ _ 6;unfold aZ;omega) (by simp) (by rw [e5];unfold hP;simp)
 rw [if_neg e5]
 by_cases e6:(gr s g).place=6
 ·rw [if_pos e6]
  split
  ·exact h.ia hg st (by omega) (by omega) (x:={ gr s g with place:=9 }) rfl rfl rfl rfl rfl rfl (by show aZ _ 9;unfold aZ;omega) (by simp) (by rw [e6];unfold hP;simp)
  ·rename_i hl;exact h.s6 hg st k2 e6 (.inl (vQ hl))
 rw [if_neg e6]
 by_cases e7:(gr s g).place=7
 ·rw [if_pos e7];exact h.s7 hg st k2 e7
 rw [if_neg e7]
 by_cases e8:(gr s g).place=8
 ·rw [if_pos e8];exact h.Tn hg st k2 e8 _
 rw [if_neg e8]
 by_cases e9:(gr s g).place=9
 ·rw [if_pos e9]
  split
  ·rename_i hp;exact h.s9 hg st k2 e9 (Km hp) _
  split
  ·exact h.ia hg st (by omega) (by omega) (x:={ gr s g with bG:=s.step,res:=res 2,place:=16 }) rfl rfl rfl rfl rfl rfl (by show aZ _ 16;unfold aZ;omega) (by simp) (by rw [e9];unfold hP;simp)
  ·exact h.ia hg st (by omega) (by omega) (x:={ gr s g with place:=10 }) rfl rfl rfl rfl rfl rfl (by show aZ _ 10;unfold aZ;omega) (by simp) (by rw [e9];unfold hP;simp)
 rw [if_neg e9];have hk:(aD (gr s g)).kind=(op s g).kind:=rfl
 by_cases mV:(gr s g).place=10
 ·rw [if_pos mV];have pl:=((h.loc hg).pl.resolve_left (by omega)).2;rw [hk,mV] at pl;have k3:(op s g).kind=2:=by unfold aZ at pl;omega
  exact h.oN hg st (.inl k3) mV ⟨rfl,rfl,rfl,by simp [k3]⟩
 rw [if_neg mV]
 by_cases mW:(gr s g).place=11
 ·rw [if_pos mW];have pl:=((h.loc hg).pl.resolve_left (by omega)).2;rw [hk,mW] at pl;have k3:(op s g).kind=2:=by unfold aZ at pl;omega
  exact h.sO hg st (.inl k3) mW rfl rfl rfl (by rw [if_pos k3]) (by rw [if_pos k3])
 rw [if_neg mW]
 by_cases jz:(gr s g).place=14
 ·rw [if_pos jz];have pl:=((h.loc hg).pl.resolve_left (by omega)).2;rw [hk,jz] at pl;have k3:(op s g).kind=2:=by unfold aZ at pl;omega
  exact h.Kl hg st (.inl k3) jz _
 rw [if_neg jz];exact h
theorem MInv.bE (h:MInv s) (hg:g < s.gs.length) (st:(gr s g).status=0):MInv (bE s g).1:=by
 unfold Sx.bE;simp only
 by_cases k:(op s g).kind≠3∧(op s g).kind≠5
 ·rw [if_pos k];exact h
 rw [if_neg k];have k2:2≤(op s g).kind∧(op s g).kind≤5:=by omega
 by_cases hc:(Sx.common s g).2=true
 ·rw [if_pos hc];exact h.common hg st (.inl (by omega))
 rw [if_neg hc]
 by_cases hm:Sx.made s (op s g).ch=false
 ·rw [if_pos hm];exact h
 rw [if_neg hm];have l9:=oV.1 (show Sx.made s (op s g).ch=true by simpa using hm);have hk:(aD (gr s g)).kind=(op s g).kind:=rfl
 by_cases e1:(gr s g).place=1
 ·rw [if_pos e1]
  split
  ·exact h.ia hg st (by omega) (by omega) (x:={ gr s g with place:=4 }) rfl rfl rfl rfl rfl rfl (by show aZ _ 4;unfold aZ;omega) (by simp) (by rw [e1];unfold hP;simp)
  ·have pl:=((h.loc hg).pl.resolve_left (by omega)).2;rw [hk,e1] at pl;exact h.ia hg st (by omega) (by omega) (x:={ gr s g with bG:=s.step,res:=(gr s g).res,place:=2 }) rfl rfl rfl rfl rfl rfl (by show aZ _ 2;unfold aZ at pl ⊢;omega) (by simp) (by rw [e1];unfold hP;simp)
 rw [if_neg e1]
 by_cases e2:(gr s g).place=2
 ·rw [if_pos e2];have pl:=((h.loc hg).pl.resolve_left (by omega)).2;rw [hk,e2] at pl
  split
  ·exact h.ia hg st (by omega) (by omega) (x:={ gr s g with place:=3 }) rfl rfl rfl rfl rfl rfl (by show aZ _ 3;unfold aZ at pl ⊢;omega) (by simp) (by rw [e2];unfold hP;simp)
  ·exact h.ia hg st (by omega) (by omega) (x:={ gr s g with res:={ (gr s g).res with code:=2 },place:=18 }) rfl rfl rfl rfl rfl rfl (.inl rfl) (by simp) (by rw [e2];unfold hP;simp)
 rw [if_neg e2]
 by_cases e3:(gr s g).place=3
 ·rw [if_pos e3]
  split
  ·exact h.ia hg st (by omega) (by omega) (x:={ gr s g with bG:=0,place:=4 }) rfl rfl rfl rfl rfl rfl (by show aZ _ 4;unfold aZ;omega) (by simp) (by rw [e3];unfold hP;simp)
  ·exact h.ia hg st (by omega) (by omega) (x:={ gr s g with bG:=s.step,res:=ee 0 false,place:=18 }) rfl rfl rfl rfl rfl rfl (.inl rfl) (by simp) (by rw [e3];unfold hP;simp)
 rw [if_neg e3]
 by_cases e5:(gr s g).place=5
 ·rw [if_pos e5]
  split
  ·exact h.ia hg st (by omega) (by omega) (x:={ gr s g with bG:=s.step,res:=ee 0 false,place:=16 }) rfl rfl rfl rfl rfl rfl (by show aZ _ 16;unfold aZ;omega) (by simp) (by rw [e5];unfold hP;simp)
  split
  ·exact h.ia hg st (by omega) (by omega) (x:={ gr s g with place:=9 }) rfl rfl rfl rfl rfl rfl (by show aZ _ 9;unfold aZ;omega) (by simp) (by rw [e5];unfold hP;simp)
  ·exact h.ia hg st (by omega) (by omega) (x:={ gr s g with place:=6 }) rfl rfl rfl rfl rfl rfl (by show aZ _ 6;unfold aZ;omega) (by simp) (by rw [e5];unfold hP;simp)
 rw [if_neg e5]
 by_cases e6:(gr s g).place=6
 ·rw [if_pos e6]
  split
  ·exact h.ia hg st (by omega) (by omega) (x:={ gr s g with place:=9 }) rfl rfl rfl rfl rfl rfl (by show aZ _ 9;unfold aZ;omega) (by simp) (by rw [e6];unfold hP;simp)
  ·rename_i hl;exact h.s6 hg st k2 e6 (.inr (vQ hl))
 rw [if_neg e6]
 by_cases e7:(gr s g).place=7
 ·rw [if_pos e7];exact h.s7 hg st k2 e7
 rw [if_neg e7]
 by_cases e8:(gr s g).place=8
 ·rw [if_pos e8];exact h.To hg st k2 e8
 rw [if_neg e8]
 by_cases e9:(gr s g).place=9
 ·rw [if_pos e9]
  split
  ·have hc:=h.gK l9.1 l9.2;exact h.s9 hg st k2 e9 (by have:=Kn (l:=(cn s (op s g).ch).buf);omega) _
  split
  ·exact h.ia hg st (by omega) (by omega) (x:={ gr s g with bG:=s.step,res:=res 2,place:=16 }) rfl rfl rfl rfl rfl rfl (by show aZ _ 16;unfold aZ;omega) (by simp) (by rw [e9];unfold hP;simp)
  ·exact h.ia hg st (by omega) (by omega) (x:={ gr s g with place:=10 }) rfl rfl rfl rfl rfl rfl (by show aZ _ 10;unfold aZ;omega) (by simp) (by rw [e9];unfold hP;simp)
 rw [if_neg e9]
 by_cases mV:(gr s g).place=10
 ·rw [if_pos mV];have pl:=((h.loc hg).pl.resolve_left (by omega)).2;rw [hk,mV] at pl;have k3:(op s g).kind=3:=by unfold aZ at pl;omega
  exact h.oN hg st (.inr k3) mV ⟨rfl,rfl,rfl,by simp [k3]⟩
 rw [if_neg mV]
 by_cases mW:(gr s g).place=11
 ·rw [if_pos mW];have pl:=((h.loc hg).pl.resolve_left (by omega)).2;rw [hk,mW] at pl;have k3:(op s g).kind=3:=by unfold aZ at pl;omega
  exact h.sO hg st (.inr k3) mW rfl rfl rfl (by rw [if_neg (by omega)]) (by rw [if_neg (by omega)])
 rw [if_neg mW]
 by_cases jz:(gr s g).place=14
 ·rw [if_pos jz];have pl:=((h.loc hg).pl.resolve_left (by omega)).2;rw [hk,jz] at pl;have k3:(op s g).kind=3:=by unfold aZ at pl;omega
  exact h.Kl hg st (.inr k3) jz _
 rw [if_neg jz];exact h
end Sx
namespace Sx
variable {s t:St} {g:Nat} {nc ns n:Int}
theorem Ko {s:St} {g o:Nat} {i c:Int} (hg:g < s.gs.length) (ho:o < s.gs.length) (hi:(gr s g).hold=i) (so:(su s i).g=o) (sc:(su s i).ch=c) (c0:1≤c) (c1:c≤s.an.length) (br:o≠g) :
  eU s g=aa (aF (aa (av s c (bX (cn s c) i)) o { gr s o with bG:=s.step,dh:=(su s i).cs,param:=i }) i { su s i with done:=false }) g { gr s g with t:=s.step,ah:=(gr s g).ah ++ [(o:Int)],hold:=-1 }:=by
 subst hi;have e1:drop (aa s g { gr s g with t:=s.step }) (gr s g).hold=av (aa s g { gr s g with t:=s.step }) c (bX (cn s c) (gr s g).hold):=drop_eq (s:=aa s g { gr s g with t:=s.step }) sc c0 c1;have e0:∀ s1,drop (aa s g { gr s g with t:=s.step }) (gr s g).hold=s1→eU s g=serve (aa s1 (su s1 (gr s g).hold).g.toNat { gr s1 (su s1 (gr s g).hold).g.toNat with bG:=(gr s1 g).t,dh:=(su s1 (gr s g).hold).cs }) g (gr s g).hold false:=fun s1 h=>by subst h;rfl
 rw [e0 _ e1];generalize (gr s g).hold=i at *;have l1:∀ x,(av (aa s g x) c (bX (cn s c) i)).gs.length=s.gs.length:=fun x=>by show (aa s g x).gs.length=_;rw [gU]
 have es:∀ x,su (av (aa s g x) c (bX (cn s c) i)) i=su s i:=fun _=>rfl
 have g1:∀ x,gr (av (aa s g x) c (bX (cn s c) i)) g=x:=fun x=>by rw [A0,iz hg,if_pos rfl]
 have g2:∀ x,gr (av (aa s g x) c (bX (cn s c) i)) o=gr s o:=fun x=>by rw [A0,iz hg,if_neg br]
 rw [es,so,Int.toNat_natCast,g1,g2];rw [yw (o:=o) (by rw [gU,l1];exact hg) (by rw [gU,l1];exact ho) (by show (su s i).g=o;exact so) br];have g3:∀ x y,gr (aa (av (aa s g x) c (bX (cn s c) i)) o y) o=y:=fun x y=>by rw [iz (by rw [l1];exact ho),if_pos rfl]
 have g4:∀ x y,gr (aa (av (aa s g x) c (bX (cn s c) i)) o y) g=x:=fun x y=>by rw [iz (by rw [l1];exact ho),if_neg (by omega),g1]
 rw [g3,g4];unfold aa aF av;simp only [List.set_set];rw [Bi br];rfl
theorem MInv.Kp (h:MInv s) (hg:g < s.gs.length) (st:(gr s g).status=0) (k:(op s g).kind=6) (e:(gr s g).place=22∨(gr s g).place=23) {o:Nat} {i c:Int} {x y:Gr} (q:vL s g c i o) (c0:1≤c) (c1:c≤s.an.length) (hq:i∈(cn s c).recv∨i∈(cn s c).send) (br:o≠g) (hh:aY (gr s g) c)
  (hp:(su s i).cs < 0∨0≤(su s i).cs∧(gr s o).aX=false∧y.aX=true) (py:Part (gr s o) y) (e1:y.param=i) (e2:y.token=(gr s o).token) (e3:y.status=(gr s o).status) (e4:(gr s o).aX=true→y.aX=true)
  (h1:x.ops=(gr s g).ops) (h2:x.at_=(gr s g).at_) (h3:x.status=(gr s g).status) (h4:x.token=(gr s g).token) (h5:x.param=(gr s g).param) (h6:x.ah=(gr s g).ah ++ [(o:Int)]) (h7:x.place=22) {d:Su}
  (hd:d.g=(su s i).g∧d.ch=(su s i).ch∧d.cs=(su s i).cs∧d.send=(su s i).send∧d.live=(su s i).live) :
  MInv (aa (aF (aa (av s c (bX (cn s c) i)) o y) i d) g x):=by
 have hk:(aD (gr s g)).kind=(op s g).kind:=rfl;have L:=h.loc hg;have G:gJ (gr s g) { x with ah:=(gr s g).ah }:=by
  refine ⟨h1,h2,h3,h4,h5,rfl,by unfold SE;omega,st,by omega,by omega,by simp only;omega,?_,?_,?_,?_⟩
  ·show aZ _ x.place;rw [h7];unfold aZ;omega
  ·refine ⟨?_,?_,?_,?_⟩ <;> simp only <;> omega
  ·simp only;omega
  ·simp only;exact .inr (.inr (.inr (.inl h7)))
 have Kq:Wt (gr s o)∧(gr s o).param=-1:=by
  have Lo:=h.loc q.o1;rcases hp with hp | hp
  ·rcases q.q with w | w
   ·exact ⟨.inl ⟨w.1,w.2.1,w.2.2.1⟩,w.2.2.2.2⟩
   ·rcases q.mt with m | m
    ·exact absurd w.1 m.1.ne
    ·omega
  ·have jv:SE (gr s o):=by
    rcases q.mt with m | m
    ·omega
    ·exact m.1
   refine ⟨?_,?_⟩
   ·have:=Inv.JV h.v c0 c1 hq (g:=g) (by omega) (by omega) (by rw [fj];exact hh) (by rw [q.g_];omega);rw [q.g_,fj] at this;rcases this with w | w
    ·exact w
    ·rw [hp.2.1] at w;exact absurd w.2.2 (by simp)
   ·by_cases z:0≤(gr s o).param
    ·have:=Lo.p3 z jv;rw [hp.2.1] at this;cases this
    ·have:=Lo.p0;omega
 have EV:(o:Int)∉(gr s g).ah:=by
  intro w;have:=Inv.wk h.v g (by omega) (by omega) o (by rw [fj];exact w);rw [fj] at this;omega
 have G1:=G.loc L (by simp only;omega);have lZ:=L.w3;have lx:Loc s.an.length s.aB.length s.gs.length x:=by
  have:=G1.ET (l:=(gr s g).ah ++ [(o:Int)]) (.inr (.inr (.inl h7))) (fun p hp=>by
   rcases List.mem_append.1 hp with w | w
   ·exact lZ p w
   ·have:=List.mem_singleton.1 w;have:=q.o1;omega) (List.nodup_append.2 ⟨L.w4,by simp,fun a ha b hb=>by rw [List.mem_singleton.1 hb];exact fun z=>EV (z ▸ ha)⟩) (by simp)
  rw [← h6] at this;exact this
 have yx:∀ i,¬ Own x i:=by
  have ho:aD x=aD (gr s g):=by unfold aD;rw [h1,h2]
  rintro i ⟨_,w | w⟩
  ·have:=w.2.2.1;omega
  ·have:=w.1;unfold SE at this;rw [ho] at this;omega
 have mh:∀ ch,aY x ch↔aY (gr s g) ch:=by
  intro ch;have:=G.hh (by show hP _↔hP x.place;rw [h7];unfold hP;omega) ch;exact this
 refine h.EN hg c0 c1 lx ⟨.inl ⟨rfl,mh⟩,h.gK c0 c1,⟨jd,jd⟩,.inr hh⟩ (fun i=>⟨fun w=>absurd w (yx i),fun w=>absurd w (G.own i).1⟩) (fun i d w=>absurd w (yx i)) G.nq (by unfold cu;omega) (by unfold cO;omega) (fun z hz=>?_) G.nw q.ch q.g_ q.o1 br Kq.1 Kq.2 q.own (fun w=>?_) ⟨nY,nY⟩ ?_ py e1 e2 e3 h2 hd
 ·rw [h6] at hz;rcases List.mem_append.1 hz with w | w
  ·exact .inl w
  ·exact .inr (List.mem_singleton.1 w)
 ·rcases hp with hp | hp
  ·rcases q.mt with m | m
   ·exact absurd w m.1.ne
   ·omega
  ·exact hp.2.2
 ·intro k a b cl ek;have:=Inv.cl h.v k (by omega) (by omega);rw [fj] at this;obtain ⟨s1,s2,s3,s4,s5,s6,s7,s8,s9,oN,sO⟩:=this cl;rw [ek,fj] at s7 s8 s9 oN sO;rcases hp with hp | hp
  ·rcases q.mt with m | m
   ·have k1:=sO m.1;have e5:(gr s k).hold=i:=by
     have m1:=s9.2;have m2:=q.own.2;rcases m1 with m1 | m1
     ·rcases m2 with m2 | m2
      ·exact m1.2.2.2.symm.trans m2.2.2.2
      ·exact absurd m2.1 m.1.ne
     ·exact absurd m1.1 m.1.ne
    rw [e5,q.ch] at k1;rcases hq with hq | hq
    ·exact k1.1 hq
    ·exact k1.2 hq
   ·omega
  ·have jv:SE (gr s o):=by
    rcases q.mt with m | m
    ·omega
    ·exact m.1
   have:=oN jv;rw [hp.2.1] at this;cases this
theorem MInv.drain (h:MInv s) (hg:g < s.gs.length) (st:(gr s g).status=0) (k:(op s g).kind=6) (e:(gr s g).place=22) {i:Int} (hq:i∈(cn s (op s g).ch).recv∨i∈(cn s (op s g).ch).send):MInv (eB s g i):=by
 have hk:(aD (gr s g)).kind=(op s g).kind:=rfl;obtain ⟨c0,c1⟩:=h.qd hg (by omega) (by omega);have L:=h.loc hg;obtain ⟨o,q⟩:=h.vN (g:=g) c0 c1 hq;have hh:aY (gr s g) (op s g).ch:=.inl ⟨by omega,by omega,rfl,by omega⟩;have G:gJ (gr s g) { gr s g with hold:=i,place:=23 }:=by
  refine ⟨rfl,rfl,rfl,rfl,rfl,rfl,by unfold SE;omega,st,by omega,by omega,by simp,?_,?_,?_,?_⟩
  ·show aZ _ 23;unfold aZ;omega
  ·refine ⟨?_,?_,?_,?_⟩ <;> simp
  ·simp only;omega
  ·simp
 have br:=q.ne h G.nq;unfold eB;simp only;have es:su (aa s g { gr s g with hold:=i }) i=su s i:=rfl;rw [es]
 by_cases hn:0≤(su s i).cs
 ·rw [if_pos hn,nX _ _ _ _ hg];refine h.self hg (G.sf L (fun _=>⟨q.i0,q.i1⟩) ?_ (by simp)) rfl (fun _=>?_)
  ·rw [e];unfold hP;simp
  ·simp only;rw [q.ch];exact ⟨c0,c1,.inl ⟨by show 2≤(aD (gr s g)).kind;omega,by show (aD (gr s g)).kind≤6;omega,rfl,by simp⟩,hq,hn⟩
 ·rw [if_neg hn];have l1:(aa s g { gr s g with hold:=i }).gs.length=s.gs.length:=gU;have gg:gr (aa s g { gr s g with hold:=i }) g={ gr s g with hold:=i }:=by rw [iz hg,if_pos rfl]
  have go:gr (aa s g { gr s g with hold:=i }) o=gr s o:=by rw [iz hg,if_neg br]
  rw [Ko (s:=aa s g { gr s g with hold:=i }) (i:=i) (by rw [l1];exact hg) (by rw [l1];exact q.o1) (by rw [gg]) q.g_ q.ch c0 c1 br,gg,go,es];have ef:∀ y d x,aa (aF (aa (av (aa s g { gr s g with hold:=i }) (op s g).ch (bX (cn (aa s g { gr s g with hold:=i }) (op s g).ch) i)) o y) i d) g x=aa (aF (aa (av s (op s g).ch (bX (cn s (op s g).ch) i)) o y) i d) g x:=by
   intro y d x;unfold aa aF av;simp only;rw [Bi br];rfl
  rw [ef];exact h.Kp hg st k (.inl e) (x:={ gr s g with t:=s.step,ah:=(gr s g).ah ++ [(o:Int)],hold:=-1 }) (y:={ gr s o with bG:=s.step,dh:=(su s i).cs,param:=i }) q c0 c1 hq br hh (.inl (by omega)) ⟨rfl,rfl,rfl,rfl,rfl,rfl,rfl,rfl,rfl,rfl,rfl⟩ rfl rfl rfl id rfl rfl rfl rfl rfl rfl e ⟨rfl,rfl,rfl,rfl,rfl⟩
theorem MInv.gN (h:MInv s) (hg:g < s.gs.length) (st:(gr s g).status=0) (k:(op s g).kind=6) (e:(gr s g).place=23):MInv (gN s g):=by
 have hk:(aD (gr s g)).kind=(op s g).kind:=rfl;have L:=h.loc hg;have G:gJ (gr s g) { gr s g with hold:=-1,place:=22 }:=by
  refine ⟨rfl,rfl,rfl,rfl,rfl,rfl,by unfold SE;omega,st,by omega,by omega,by simp,?_,?_,?_,?_⟩
  ·show aZ _ 22;unfold aZ;omega
  ·refine ⟨?_,?_,?_,?_⟩ <;> simp
  ·simp only;omega
  ·simp
 obtain ⟨o,q,c0,c1,hh,hq,ji⟩:=h.EO hg (.inr (.inl e));have br:o≠g:=q.ne h G.nq;unfold Sx.gN;simp only [q.g_,Int.toNat_natCast]
 cases hp:(gr s o).aX with
 | true =>
  rw [if_pos rfl,drop_eq rfl c0 c1];exact h.vJ hg G c0 c1 ⟨.inl ⟨rfl,G.hh (by rw [e];unfold hP;simp)⟩,h.gK c0 c1,⟨jd,jd⟩,.inr hh⟩ (by unfold cu;simp) (by simp)
 | false =>
  rw [if_neg (by simp)];have l1:(aa s o { gr s o with aX:=true }).gs.length=s.gs.length:=gU;have gg:gr (aa s o { gr s o with aX:=true }) g=gr s g:=by rw [iz q.o1,if_neg (by omega)]
  have go:gr (aa s o { gr s o with aX:=true }) o={ gr s o with aX:=true }:=by rw [iz q.o1,if_pos rfl]
  have es:su (aa s o { gr s o with aX:=true }) (gr s g).hold=su s (gr s g).hold:=rfl;rw [Ko (s:=aa s o { gr s o with aX:=true }) (i:=(gr s g).hold) (by rw [l1];exact hg) (by rw [l1];exact q.o1) (by rw [gg]) q.g_ q.ch c0 c1 br,gg,go,es];rw [nX _ _ _ _ (by simp only [aF,aa,av,List.length_set];exact hg)];have ef:∀ y d x c,aa (aF (aa (av (aa s o { gr s o with aX:=true }) c (bX (cn (aa s o { gr s o with aX:=true }) c) (gr s g).hold)) o y) (gr s g).hold d) g x=aa (aF (aa (av s c (bX (cn s c) (gr s g).hold)) o y) (gr s g).hold d) g x:=by
   intro y d x c;unfold aa aF av;simp only [List.set_set];rfl
  rw [ef];exact h.Kp hg st k (.inr e) (x:={ gr s g with t:=s.step,ah:=(gr s g).ah ++ [(o:Int)],hold:=-1,place:=22 }) (y:={ gr s o with aX:=true,bG:=s.step,dh:=(su s (gr s g).hold).cs,param:=(gr s g).hold }) q c0 c1 hq br hh (.inr ⟨ji,hp,rfl⟩) ⟨rfl,rfl,rfl,rfl,rfl,rfl,rfl,rfl,rfl,rfl,rfl⟩ rfl rfl rfl (fun _=>rfl) rfl rfl rfl rfl rfl rfl rfl ⟨rfl,rfl,rfl,rfl,rfl⟩
theorem MInv.cD (h:MInv s) (hg:g < s.gs.length) (st:(gr s g).status=0):MInv (cD s g).1:=by
 unfold Sx.cD;simp only
 by_cases k:(op s g).kind≠6
 ·rw [if_pos k];exact h
 rw [if_neg k];have k6:(op s g).kind=6:=by omega
 have hk:(aD (gr s g)).kind=(op s g).kind:=rfl
 by_cases hc:(Sx.common s g).2=true
 ·rw [if_pos hc];exact h.common hg st (.inl (by omega))
 rw [if_neg hc]
 by_cases hm:Sx.made s (op s g).ch=false
 ·rw [if_pos hm];exact h
 rw [if_neg hm];have l9:=oV.1 (show Sx.made s (op s g).ch=true by simpa using hm)
 by_cases e1:(gr s g).place=21
 ·rw [if_pos e1]
  split
  ·exact h.ia hg st (by omega) (by omega) (x:={ gr s g with bG:=s.step,res:=res 4,place:=16 }) rfl rfl rfl rfl rfl rfl (by show aZ _ 16;unfold aZ;omega) (by simp) (by rw [e1];unfold hP;simp)
  ·have hc:=h.gK l9.1 l9.2;have G:=h.EU hg st (by omega) (by omega) (x:={ gr s g with bG:=s.step,res:=lu,place:=22 }) rfl rfl rfl rfl rfl rfl (by show aZ _ 22;unfold aZ;omega) (by simp);exact h.vJ hg G l9.1 l9.2 (c':={ cn s (op s g).ch with closed:=true }) ⟨.inl ⟨rfl,G.hh (by rw [e1];unfold hP;simp)⟩,hc,⟨List.Sublist.refl _,List.Sublist.refl _⟩,.inl ⟨rfl,rfl⟩⟩ (by unfold cu;simp) (by simp)
 rw [if_neg e1]
 by_cases e2:(gr s g).place=22
 ·rw [if_pos e2]
  by_cases q1:0 < (cn s (op s g).ch).recv.length
  ·rw [if_pos q1];exact h.drain hg st k6 e2 (.inl (vQ (by omega)))
  rw [if_neg q1]
  by_cases q2:0 < (cn s (op s g).ch).send.length
  ·rw [if_pos q2];exact h.drain hg st k6 e2 (.inr (vQ (by omega)))
  rw [if_neg q2];have G:gJ (gr s g) { gr s g with place:=16 }:=by
   refine ⟨rfl,rfl,rfl,rfl,rfl,rfl,by unfold SE;omega,st,by omega,by omega,by simp,?_,?_,?_,?_⟩
   ·show aZ _ 16;unfold aZ;omega
   ·refine ⟨?_,?_,?_,?_⟩ <;> simp
   ·simp only;omega
   ·simp
  exact h.JZ hg G (by rw [e2];unfold hP;simp) (by unfold cu;simp) (by simp)
 rw [if_neg e2]
 by_cases e3:(gr s g).place=23
 ·rw [if_pos e3];exact h.gN hg st k6 e3
 rw [if_neg e3];exact h
end Sx
namespace Sx
variable {s t:St} {g:Nat} {nc ns n:Int}
theorem Sf.out {x y:Gr} (lx:Loc nc ns n y) (ox:∀ i,¬ Own x i) (oy:∀ i,¬ Own y i) (qx:∀ i j,¬ dP x i j) (hx:∀ ch,¬ aY x ch) (hy:∀ ch,¬ aY y ch) (wx:¬ Wt x) (fZ:¬ cO y) (wk:y.ah=[]):Sf nc ns n x y :=
 ⟨lx,fun ch=>⟨fun w=>absurd w (hy ch),fun w=>absurd w (hx ch)⟩,fun i=>⟨fun w=>absurd w (oy i),fun w=>absurd w (ox i)⟩,fun i d w=>absurd w (oy i),fun i j w=>absurd w (qx i j),fZ,fun q=>by rw [wk];simp,fun w=>absurd w.1 wx,fun w=>absurd w.1 wx⟩
def dM (p:Int):Prop:=p=0∨p=1∨p=2∨p=3∨p=4∨p=17∨p=18∨p=19∨p=20
theorem dM.own {x:Gr} (h:dM x.place) (i:Int):¬ Own x i:=by
 rintro ⟨_,w | w⟩
 ·have:=w.2.1;have:=w.2.2.1;unfold dM at h;omega
 ·have:=w.2.1;unfold dM at h;omega
theorem dM.q {x:Gr} (h:dM x.place) (i j:Int):¬ dP x i j:=by
 rintro (w | w)
 ·have:=w.2.1;have:=w.2.2.1;unfold dM at h;omega
 ·have:=w.2.2.2.2;unfold dM at h;omega
theorem dM.holds {x:Gr} (h:dM x.place) (c:Int):¬ aY x c:=by
 rintro (w | w)
 ·have:=w.2.2.2;unfold dM at h;omega
 ·have:=w.2;unfold dM at h;omega
theorem dM.wt {x:Gr} (h:dM x.place):¬ Wt x:=by
 rintro (w | w)
 ·have:=w.2;unfold dM at h;omega
 ·have:=w.2;unfold dM at h;omega
theorem dM.fZ {x:Gr} (h:dM x.place):¬ cO x:=by unfold cO;unfold dM at h;omega
theorem dM.nw {x:Gr} (h:dM x.place):¬ cu x:=by unfold cu;unfold dM at h;omega
theorem dM.pm {x:Gr} (h:dM x.place) (L:Loc nc ns n x):x.param=-1∧x.token=false:=by
 constructor
 ·have:=L.p0
  by_cases c:0≤x.param
  ·exact absurd (L.p2 c).1 h.wt
  ·omega
 ·cases c:x.token
  ·rfl
  ·exact absurd (L.tk c).1 h.wt
theorem Sf.outs {x y:Gr} (lx:Loc nc ns n y) (hx:dM x.place) (hy:dM y.place) (wk:y.ah=[]):Sf nc ns n x y :=
 .out lx hx.own hy.own hx.q hx.holds hy.holds hx.wt hy.fZ wk
theorem Loc.fresh {x y:Gr} (L:Loc nc ns n x) (h1:y.ops=x.ops) (h2:y.at_=x.at_) (lt:x.at_ < x.ops.length) (ok:aZ (aD x).kind y.place) (hp:y.place=1∨y.place=4∨y.place=18∨y.place=20∨y.place=19) (hs:y.place=19∧y.status=1∨y.place≠19∧y.status=0) (ht:y.token=false) (pm:y.param=-1) (wk:y.ah=[])
  (mk:y.place=1∨y.place=4→1≤(aD x).ch∧(aD x).ch≤nc) (Tp:y.place=20→(aD x).kind=1∨7≤(aD x).kind) (sV:0≤ns):Loc nc ns n y:=by
 have ho:aD y=aD x:=by unfold aD;rw [h1,h2]
 have ho':dM y.place:=by unfold dM;omega
 have gO:=L.gO
 constructor
 ·rw [h1];exact L.nV
 ·rw [h1];exact gO
 ·rw [h2];exact L.a0
 ·rw [h1,h2];exact L.a1
 ·rw [h1,h2,ho];exact .inr ⟨lt,ok⟩
 ·rw [ho];intro _ e1 e2 e3 e4
  by_cases c:y.place=20
  ·have:=Tp c;omega
  ·exact mk (by omega)
 ·omega
 ·omega
 ·omega
 ·omega
 ·rw [ht];simp
 ·rw [wk];simp
 ·omega
 ·rw [wk];simp
 ·rw [wk];simp
 ·omega
 ·omega
 ·rw [pm];omega
 ·omega
 ·rw [pm];omega
 ·rw [pm];omega
 ·intro _ c;unfold dG at c;omega
theorem MInv.iL (h:MInv s):(0:Int)≤s.aB.length:=by omega
theorem swap_perm (l:List Int) (i j:Nat) (hi:i < l.length) (hj:j < l.length):(swap l i j).Perm l:=by
 unfold swap;rw [List.getD_eq_getElem?_getD,List.getD_eq_getElem?_getD,List.getElem?_eq_getElem hi,List.getElem?_eq_getElem hj];simp only [Option.getD_some];exact List.set_set_perm hi hj
theorem Bj (ds:List Int):∀ n:Nat,(dV ds n).Perm ((List.range n).map Int.ofNat)
 | 0=>by simp [dV]
 | n + 1=>by
  have ih:=Bj ds n;have hl:(dV ds n).length=n:=by have:=ih.length_eq;simpa using this
  unfold dV;have hm:(ds.getD n 0 % ((n:Int) + 1)).toNat < n + 1:=by
   have h1:=Int.emod_nonneg (ds.getD n 0) (show ((n:Int) + 1)≠0 by omega);have h2:=Int.emod_lt_of_pos (ds.getD n 0) (show (0:Int) < (n:Int) + 1 by omega);omega
  refine (swap_perm _ _ _ (by rw [List.length_append,hl];exact hm) (by rw [List.length_append,hl];exact Nat.lt_succ_self n)).trans ?_;rw [List.range_succ,List.map_append];exact ih.append_right _
theorem Tq (ds:List Int) (n:Nat) (i:Int):i∈dV ds n↔0≤i∧i < n:=by
 rw [(Bj ds n).mem_iff];simp only [List.mem_map,List.mem_range]
 constructor
 ·rintro ⟨a,h1,rfl⟩;exact ⟨by simp,by simp;omega⟩
 ·rintro ⟨h1,h2⟩;exact ⟨i.toNat,by omega,by simp;omega⟩
theorem Tr (ds:List Int) (n:Nat):(dV ds n).Nodup:=by
 rw [(Bj ds n).nodup_iff];exact List.pairwise_map.2 (List.nodup_range.imp (fun h e=>h (Int.ofNat.inj e)))
theorem insert_perm (x:Int):∀ l,(insert x l).Perm (x :: l)
 | []=>List.Perm.refl _
 | y :: l=>by
  unfold insert
  split
  ·exact ((insert_perm x l).cons y).trans (List.Perm.swap x y l)
  ·exact List.Perm.refl _
theorem insert_sorted (x:Int):∀ l:List Int,l.Pairwise (·≤·)→(insert x l).Pairwise (·≤·)
 | [],_=>by simp [insert]
 | y :: l,h=>by
  unfold insert;have h2:=List.pairwise_cons.1 h
  split
  ·rename_i c;refine List.pairwise_cons.2 ⟨fun z hz=>?_,insert_sorted x l h2.2⟩;rcases List.mem_cons.1 ((insert_perm x l).mem_iff.1 hz) with w | w
   ·omega
   ·exact h2.1 z w
  ·rename_i c;refine List.pairwise_cons.2 ⟨fun z hz=>?_,h⟩;rcases List.mem_cons.1 hz with w | w
   ·omega
   ·have:=h2.1 z w;omega
theorem Ts (l:List Int):∀ acc:List Int,acc.Pairwise (·≤·)→(l.foldl (fun acc x=>insert x acc) acc).Pairwise (·≤·)∧∀ x,x∈l.foldl (fun acc x=>insert x acc) acc↔x∈acc∨x∈l:=by
 induction l with
 | nil=>intro acc h;simp [h]
 | cons y l ih =>
  intro acc h;have:=ih (insert y acc) (insert_sorted y acc h);simp only [List.foldl_cons];refine ⟨this.1,fun x=>?_⟩;rw [this.2,(insert_perm y acc).mem_iff];simp only [List.mem_cons]
  grind
theorem Tt (l:List Int):∀ acc:List Int,acc.Pairwise (· < ·)→(∀ x∈acc,0 < x)→l.Pairwise (·≤·)→(∀ x∈acc,∀ y∈l,x≤y)→(l.foldl gX acc).Pairwise (· < ·)∧∀ x,x∈l.foldl gX acc↔x∈acc∨x∈l∧0 < x:=by
 induction l with
 | nil=>intro acc h h0 _ _;simp [h]
 | cons y l ih =>
  intro acc h h0 hl hle;have iS:=List.pairwise_cons.1 hl;simp only [List.foldl_cons];have Kr:0 < acc.length→acc.getLastD 0∈acc:=fun hp=>by
   cases acc with
   | nil=>simp at hp
   | cons a b=>simp [List.getLastD]
  unfold gX
  split
  ·rename_i c;have:=ih acc h h0 iS.2 (fun x hx z hz=>hle x hx z (List.mem_cons_of_mem _ hz));unfold gX at this;refine ⟨this.1,fun x=>?_⟩;rw [this.2];simp only [List.mem_cons]
   constructor
   ·rintro (w | w)
    ·exact .inl w
    ·exact .inr ⟨.inr w.1,w.2⟩
   ·rintro (w | ⟨w | w,w2⟩)
    ·exact .inl w
    ·subst w;rcases c with c | c
     ·omega
     ·exact .inl (c.2 ▸ Kr c.1)
    ·exact .inr ⟨w,w2⟩
  ·rename_i c;have hy:0 < y:=by omega
   have cA:∀ x∈acc,x < y:=by
    intro x hx;have h1:=hle x hx y (by simp);have h2:acc.getLastD 0≠y:=fun e=>c (.inr ⟨List.length_pos_iff.2 (List.ne_nil_of_mem hx),e⟩)
    by_cases q:x=y
    ·exfalso
     subst q;have hp:0 < acc.length:=List.length_pos_iff.2 (List.ne_nil_of_mem hx);have h3:=hle _ (Kr hp) x (by simp);have ha:=Po.Dz (List.ne_nil_of_mem hx);generalize acc.getLastD 0=z at *;rw [ha] at h hx;rcases List.mem_append.1 hx with w | w
     ·have:=(List.pairwise_append.1 h).2.2 x w z (List.mem_singleton.2 rfl);omega
     ·exact h2 (List.mem_singleton.1 w).symm
    ·omega
   have:=ih (acc ++ [y]) (List.pairwise_append.2 ⟨h,by simp,fun a ha b hb=>by rw [List.mem_singleton.1 hb];exact cA a ha⟩) (fun x hx=>by
    rcases List.mem_append.1 hx with w | w
    ·exact h0 x w
    ·rw [List.mem_singleton.1 w];exact hy) iS.2 (fun x hx z hz=>by
    rcases List.mem_append.1 hx with w | w
    ·exact hle x w z (List.mem_cons_of_mem _ hz)
    ·rw [List.mem_singleton.1 w];exact iS.1 z hz)
   unfold gX at this;refine ⟨this.1,fun x=>?_⟩;rw [this.2];simp only [List.mem_append,List.mem_singleton,List.mem_cons,List.not_mem_nil,or_false]
   constructor
   ·rintro ((w | w) | w)
    ·exact .inl w
    ·subst w;exact .inr ⟨.inl rfl,hy⟩
    ·exact .inr ⟨.inr w.1,w.2⟩
   ·rintro (w | ⟨w | w,w2⟩)
    ·exact .inl (.inl w)
    ·exact .inl (.inr w)
    ·exact .inr ⟨w,w2⟩
theorem EW (l:List Int):(aC l).Pairwise (· < ·)∧∀ x,x∈aC l↔x∈l∧0 < x:=by
 have h1:=Ts l [] List.Pairwise.nil;have h2:=Tt (sort l) [] List.Pairwise.nil (by simp) h1.1 (by simp);refine ⟨h2.1,fun x=>?_⟩;have:=h2.2 x;unfold aC;rw [this];have h3:=h1.2 x;unfold sort;rw [h3];simp
theorem Ks (s:St) (h0:0≤s.drawn) (h1:s.drawn≤s.cL.length):∀ n,s.drawn≤(drawn s n).2∧(drawn s n).2≤s.cL.length
 | 0=>⟨Int.le_refl _,h1⟩
 | n + 1=>by
  have ih:=Ks s h0 h1 n;unfold drawn draw
  split
  ·exact ih
  ·simp only;omega
end Sx
namespace Sx
variable {s t:St} {g:Nat} {nc ns n:Int}
theorem MInv.Tu (h:MInv s) {d:Int} (d0:0≤d) (d1:d≤s.cL.length):MInv { s with drawn:=d } :=
 ⟨h.v,h.n1,h.n8,h.c8,h.sn,h.iJ,h.c1,h.sQ,h.ca,h.f0,h.po,d0,d1,h.du,h.d5,h.dn⟩
theorem MInv.outs (h:MInv s) (hg:g < s.gs.length) {y:Gr} (lx:Loc s.an.length s.aB.length s.gs.length y) (hx:dM (gr s g).place) (hy:dM y.place) (wk:y.ah=[]) (ha:y.at_=(gr s g).at_):MInv (aa s g y) :=
 h.self hg (.outs lx hx hy wk) ha (fun w=>absurd w hy.nw)
theorem mc {x y:Gr}:aa (aa s g x) g y=aa s g y:=by unfold aa;simp only [List.set_set]
theorem Tv (hg:g < s.gs.length) (st:(gr s g).status=0) (ht:(gr s g).token=false):never s g=aa s g { gr s g with place:=19,status:=1 }:=by
 unfold never fh aE;simp only [iK s g g _ hg,if_true,st,ht];rw [if_neg (by simp),mc]
theorem EX (s:St) (g:Nat) (x:Gr) (r:Md.ai) (p:Int) (hg:g < s.gs.length):bw (aa s g x) g r p=aa s g { x with bG:=s.step,res:=r,place:=p }:=by
 unfold bw;rw [iK s g g x hg,if_pos rfl,mc];rfl
theorem Kt (s:St) (g:Nat) (x:Gr) (hg:g < s.gs.length) (st:x.status=0) (ht:x.token=false):never (aa s g x) g=aa s g { x with place:=19,status:=1 }:=by
 have e:gr (aa s g x) g=x:=by rw [iK s g g x hg,if_pos rfl]
 rw [Tv (by rw [gU];exact hg) (by rw [e];exact st) (by rw [e];exact ht),e,mc]
theorem Loc.Tw {x y:Gr} (L:Loc nc ns n x) (h1:y.ops=x.ops) (h2:y.at_=x.at_) (lt:x.at_ < x.ops.length) (k:(aD x).kind=9) (e:y.place=24) (st:y.status=0) (ht:y.token=false) (pm:y.param=-1) (wk:y.ah=[]) (ek:y.k=0) (es:y.ak=[]) (er:y.res.code=0) (sV:0≤ns)
  (o1:∀ i∈y.order,0≤i∧i < (aD x).cases.length∧bP x i∈y.aC) (o2:y.order.Nodup) (o3:1≤y.order.length) (l1:∀ c∈y.aC,1≤c∧c≤nc) (l2:y.aC.Pairwise (· < ·)) (l3:1≤y.aC.length):Loc nc ns n y:=by
 have ho:aD y=aD x:=by unfold aD;rw [h1,h2]
 have hc:∀ j,bP y j=bP x j:=fun j=>by unfold bP;rw [ho]
 have gO:=L.gO
 constructor
 ·rw [h1];exact L.nV
 ·rw [h1];exact gO
 ·rw [h2];exact L.a0
 ·rw [h1,h2];exact L.a1
 ·rw [h1,h2,ho,e];exact .inr ⟨lt,by unfold aZ;omega⟩
 ·rw [ho];intro _ _ _ _ _;omega
 ·omega
 ·omega
 ·omega
 ·omega
 ·rw [ht];simp
 ·rw [wk];simp
 ·omega
 ·rw [wk];simp
 ·rw [wk];simp
 ·omega
 ·omega
 ·rw [pm];omega
 ·omega
 ·rw [pm];omega
 ·rw [pm];omega
 ·intro _ _
  constructor
  ·intro i hi;rw [ho,hc];exact o1 i hi
  ·exact o2
  ·exact o3
  ·exact l1
  ·exact l2
  ·exact l3
  ·omega
  ·omega
  ·omega
  ·omega
  ·intro _;exact es
  ·omega
  ·omega
  ·rw [es];intro j a b;simp at b;omega
  ·omega
  ·intro c;omega
  ·omega
  ·intro _;exact er
  ·omega
  ·intro c;omega
theorem Ku {x:Gr} (L:Loc nc ns n x) (lt:x.at_ < x.ops.length):Pn.c7 (aD x)=true:=by
 have:=L.a0;unfold aD;rw [List.getD_eq_getElem?_getD,List.getElem?_eq_getElem (by omega)];exact L.gO _ (List.getElem_mem _)
theorem EY {o:Pn.Op} (h:Pn.c7 o=true):1≤o.kind∧o.kind≤9∧0≤o.ch∧o.ch≤8∧0≤o.n∧o.n≤4∧0≤o.v∧o.v≤255∧o.cases.length≤6∧∀ c∈o.cases,Pn.kC c=true:=by
 unfold Pn.c7 at h;simp only [decide_eq_true_eq] at h;exact ⟨h.1,h.2.1,h.2.2.1,h.2.2.2.1,h.2.2.2.2.1,h.2.2.2.2.2.1,h.2.2.2.2.2.2.1,h.2.2.2.2.2.2.2.1,h.2.2.2.2.2.2.2.2.1,h.2.2.2.2.2.2.2.2.2.2.2.2.2⟩
theorem MInv.j6 (h:MInv s) (hg:g < s.gs.length) {x:Gr} (hx:dM (gr s g).place) (h1:x.ops=(gr s g).ops) (h2:x.at_=(gr s g).at_) (lt:x.at_ < x.ops.length) (k:(aD (gr s g)).kind=9) (st:x.status=0) (ht:x.token=false) (pm:x.param=-1) (wk:x.ah=[]) (ek:x.k=0) (es:x.ak=[]) (er:x.res.code=0) (eo:x.order=[]):MInv (Sx.j6 (aa s g x) g (aD (gr s g))):=by
 have L:=h.loc hg;obtain ⟨o,ho⟩:∃ o,aD (gr s g)=o:=⟨_,rfl⟩
 have hox:aD x=o:=by rw [← ho];unfold aD;rw [h1,h2]
 rw [ho] at k ⊢;unfold Sx.j6;simp only;have jG:=Ks (aa s g x) h.rA h.sR o.cases.length;obtain ⟨d,hd⟩:∃ d,(drawn (aa s g x) o.cases.length).2=d:=⟨_,rfl⟩
 rw [hd] at jG ⊢;have h':MInv { s with drawn:=d }:=h.Tu (by have:=h.rA;have:(aa s g x).drawn=s.drawn:=rfl;omega) jG.2;have Tx:=Tq (drawn (aa s g x) o.cases.length).1 o.cases.length;have Ty:=Tr (drawn (aa s g x) o.cases.length).1 o.cases.length;generalize dV (drawn (aa s g x) o.cases.length).1 o.cases.length=ord at *;have em:∀ c,made (aa s g x) c=made s c:=fun _=>rfl
 simp only [em];have gx:gr (aa s g x) g=x:=by rw [iK s g g x hg,if_pos rfl]
 rw [gx,eo,List.nil_append];have fX:g < ({ s with drawn:=d }:St).gs.length:=hg;obtain ⟨jr,vT⟩:∃ jr,ord.filter (fun i=>made s (bZ o i).ch)=jr:=⟨_,rfl⟩
 rw [vT];have gm:∀ i∈jr,0≤i∧i < o.cases.length∧1≤(bZ o i).ch∧(bZ o i).ch≤s.an.length:=by
  intro i hi;rw [← vT,List.mem_filter] at hi;have a:=(Tx i).1 hi.1;have b:=oV.1 hi.2;omega
 have gn:jr.Nodup:=by rw [← vT];exact Ty.filter _
 have ls:=EW (jr.map (fun i=>(bZ o i).ch));obtain ⟨y,hy⟩:∃ y,({ x with order:=jr,aC:=aC (jr.map (fun i=>(bZ o i).ch)),place:=24 }:Gr)=y:=⟨_,rfl⟩
 rw [hy];have e1:aa { aa s g x with drawn:=d } g y=aa { s with drawn:=d } g y:=by unfold aa;simp only [List.set_set]
 rw [e1];have y1:y.ops=(gr s g).ops∧y.at_=(gr s g).at_∧y.place=24∧y.status=0∧y.token=false∧y.param=-1∧y.ah=[]∧y.k=0∧y.ak=[]∧y.res.code=0∧y.order=jr∧y.aC=aC (jr.map (fun i=>(bZ o i).ch)):=by
  subst hy;exact ⟨h1,h2,rfl,st,ht,pm,wk,ek,es,er,rfl,rfl⟩
 have eE:∀ p:Int,aZ 9 p→(p=18∨p=19)→∀ z:Gr,z.ops=y.ops→z.at_=y.at_→z.place=p→(p=19∧z.status=1∨p≠19∧z.status=0)→z.token=false→z.param=-1→z.ah=[]→MInv (aa { s with drawn:=d } g z):=by
  intro p ok hp z z1 z2 z3 z4 z5 z6 z7;refine h'.outs fX (Loc.fresh L (z1.trans y1.1) (z2.trans y1.2.1) (by rw [← h1,← h2];exact lt) (by rw [ho,k,z3];exact ok) (by rw [z3];omega) (by rw [z3];exact z4) z5 z6 z7 (by rw [z3];omega) (by rw [z3];omega) h.iL) hx (by unfold dM;omega) z7 (z2.trans y1.2.1)
 split
 ·rename_i hp;have yH:∀ ch,¬ aY y ch:=by
   rintro ch (w | w)
   ·have:=w.2.1;have h3:aD y=o:=by rw [← ho];unfold aD;rw [y1.1,y1.2.1]
    rw [h3] at this;omega
   ·rcases w.2 with w | w
    ·omega
    ·rw [y1.2.2.2.2.2.2.2.1] at w;simp at w
  have yO:∀ i,¬ Own y i:=by
   rintro i ⟨_,w | w⟩
   ·have:=w.2.2.1;omega
   ·have:=w.2.1;omega
  have br:jr≠[]:=by intro e;rw [e] at hp;simp at hp
  refine h'.self fX (Sf.out (Loc.Tw L y1.1 y1.2.1 (by rw [← h1,← h2];exact lt) (by rw [ho];exact k) y1.2.2.1 y1.2.2.2.1 y1.2.2.2.2.1 y1.2.2.2.2.2.1 y1.2.2.2.2.2.2.1 y1.2.2.2.2.2.2.2.1 y1.2.2.2.2.2.2.2.2.1 y1.2.2.2.2.2.2.2.2.2.1 h.iL ?_ ?_ ?_ ?_ ?_ ?_) hx.own yO hx.q hx.holds yH hx.wt (by unfold cO;omega) y1.2.2.2.2.2.2.1) y1.2.1 (fun w=>by unfold cu at w;omega)
  ·intro i hi;rw [y1.2.2.2.2.2.2.2.2.2.2.1] at hi;have:=gm i hi;rw [ho,y1.2.2.2.2.2.2.2.2.2.2.2];refine ⟨this.1,this.2.1,?_⟩;unfold bP;rw [ho];exact (ls.2 _).2 ⟨List.mem_map.2 ⟨i,hi,rfl⟩,by omega⟩
  ·rw [y1.2.2.2.2.2.2.2.2.2.2.1];exact gn
  ·rw [y1.2.2.2.2.2.2.2.2.2.2.1];exact List.length_pos_iff.2 br
  ·intro c hc;rw [y1.2.2.2.2.2.2.2.2.2.2.2] at hc;obtain ⟨i,hi,rfl⟩:=List.mem_map.1 ((ls.2 c).1 hc).1;have:=gm i hi;exact ⟨this.2.2.1,this.2.2.2⟩
  ·rw [y1.2.2.2.2.2.2.2.2.2.2.2];exact ls.1
  ·rw [y1.2.2.2.2.2.2.2.2.2.2.2];obtain ⟨i,hi⟩:=List.exists_mem_of_ne_nil _ br;have:=gm i hi;exact List.length_pos_iff.2 (List.ne_nil_of_mem ((ls.2 _).2 ⟨List.mem_map.2 ⟨i,hi,rfl⟩,by omega⟩))
 ·split
  ·rw [EX _ _ _ _ _ fX];exact eE 18 (.inl rfl) (.inl rfl) _ rfl rfl rfl (.inr ⟨by decide,y1.2.2.2.1⟩) y1.2.2.2.2.1 y1.2.2.2.2.2.1 y1.2.2.2.2.2.2.1
  ·rw [Kt _ _ _ fX y1.2.2.2.1 y1.2.2.2.2.1];exact eE 19 (by unfold aZ;omega) (.inr rfl) _ rfl rfl rfl (.inl ⟨rfl,rfl⟩) y1.2.2.2.2.1 y1.2.2.2.2.2.1 y1.2.2.2.2.2.2.1
end Sx
namespace Sx
variable {s t:St} {g:Nat} {nc ns n:Int}
theorem MInv.j7 (h:MInv s) (hg:g < s.gs.length) (st:(gr s g).status=0) (e:(gr s g).place=0):MInv (j7 s g):=by
 have L:=h.loc hg;have hx:dM (gr s g).place:=.inl e;obtain ⟨pm,tk⟩:=hx.pm L;have wk:=h.vO hg (by omega);unfold Sx.j7;simp only
 by_cases ha:((gr s g).ops.length:Int)≤(gr s g).at_
 ·rw [if_pos ha];refine h.outs hg (y:={ gr s g with status:=2,token:=false }) ?_ hx hx wk rfl;have gO:=L.gO;have a1:=L.a1
  constructor
  ·exact L.nV
  ·exact gO
  ·exact L.a0
  ·exact a1
  ·exact .inl e
  ·intro c;exact absurd e c
  ·exact .inr (.inr rfl)
  ·simp
  ·simp only;omega
  ·intro _;exact ⟨e,by simp only;omega⟩
  ·simp
  ·simp only;rw [wk];simp
  ·simp only;omega
  ·simp only;rw [wk];simp
  ·simp only;rw [wk];simp
  ·simp only;omega
  ·simp only;omega
  ·exact L.p0
  ·simp only;omega
  ·simp only;omega
  ·simp only;omega
  ·intro _ c;unfold dG at c;simp only at c;omega
 rw [if_neg ha];have lt:(gr s g).at_ < (gr s g).ops.length:=by omega
 obtain ⟨x,xK⟩:∃ x,({ gu (gr s g) with call:=s.step }:Gr)=x:=⟨_,rfl⟩
 have e2:aa (clear s g) g { gr (clear s g) g with call:=(clear s g).step }=aa s g x:=by
  unfold clear;rw [iK s g g _ hg,if_pos rfl,mc,← xK];rfl
 have x1:x.ops=(gr s g).ops∧x.at_=(gr s g).at_∧x.place=0∧x.status=0∧x.token=false∧x.param=-1∧x.ah=[]∧x.k=0∧x.ak=[]∧x.res.code=0∧x.order=[]:=by
  subst xK;exact ⟨rfl,rfl,e,st,tk,rfl,rfl,rfl,rfl,rfl,rfl⟩
 have gx:gr (aa s g x) g=x:=by rw [iK s g g x hg,if_pos rfl]
 have eo:op (aa s g x) g=aD (gr s g):=by unfold op;rw [gx,x1.1,x1.2.1];rfl
 have em:∀ c,Sx.made (aa s g x) c=Sx.made s c:=fun _=>rfl
 rw [e2,eo];simp only [em];have rf:=EY (Ku L lt);generalize hk:(aD (gr s g)).kind=kd at *;have fin:∀ (p:Int),aZ kd p→(p=1∨p=4∨p=18∨p=20∨p=19)→(p=1∨p=4→Sx.made s (aD (gr s g)).ch=true)→(p=20→kd=1∨7≤kd)→∀ z:Gr,z.ops=x.ops→z.at_=x.at_→z.place=p→(p=19∧z.status=1∨p≠19∧z.status=0)→z.token=false→z.param=-1→z.ah=[]→MInv (aa s g z):=by
  intro p ok hp hm hq z z1 z2 z3 z4 z5 z6 z7;refine h.outs hg (Loc.fresh L (z1.trans x1.1) (z2.trans x1.2.1) lt (by rw [hk,z3];exact ok) (by rw [z3];exact hp) (by rw [z3];exact z4) z5 z6 z7 (by rw [z3];exact fun w=>oV.1 (hm w)) (by rw [z3,hk];exact hq) h.iL) hx (by unfold dM;rw [z3];omega) z7 (z2.trans x1.2.1)
 have gT:∀ p:Int,aE (aa s g x) g p=aa s g { x with place:=p }:=fun p=>nX _ _ _ _ hg
 have pT:∀ r,bw (aa s g x) g r 18=aa s g { x with bG:=s.step,res:=r,place:=18 }:=fun r=>EX _ _ _ _ _ hg
 have nT:never (aa s g x) g=aa s g { x with place:=19,status:=1 }:=Kt _ _ _ hg x1.2.2.2.1 x1.2.2.2.2.1;have Bk:∀ p:Int,aZ kd p→(p=1∨p=4∨p=20)→(p=1∨p=4→Sx.made s (aD (gr s g)).ch=true)→(p=20→kd=1∨7≤kd)→MInv (aE (aa s g x) g p):=by
  intro p ok hp hm hq;rw [gT];exact fin p ok (by omega) hm hq _ rfl rfl rfl (.inr ⟨by omega,x1.2.2.2.1⟩) x1.2.2.2.2.1 x1.2.2.2.2.2.1 x1.2.2.2.2.2.2.1
 have Kv:∀ r,MInv (bw (aa s g x) g r 18):=by
  intro r;rw [pT];exact fin 18 (.inl rfl) (by simp) (by simp) (by simp) _ rfl rfl rfl (.inr ⟨by decide,x1.2.2.2.1⟩) x1.2.2.2.2.1 x1.2.2.2.2.2.1 x1.2.2.2.2.2.2.1
 have goN:aZ kd 19→MInv (never (aa s g x) g):=by
  intro ok;rw [nT];exact fin 19 ok (by simp) (by simp) (by simp) _ rfl rfl rfl (.inl ⟨rfl,rfl⟩) x1.2.2.2.2.1 x1.2.2.2.2.2.1 x1.2.2.2.2.2.2.1
 by_cases k1:kd=1∨kd=7∨kd=8
 ·rw [if_pos k1];exact Bk 20 (.inr (.inl ⟨k1,rfl⟩)) (by simp) (by simp) (by omega)
 rw [if_neg k1]
 by_cases k2:kd=2∨kd=3
 ·rw [if_pos k2]
  by_cases hm:Sx.made s (aD (gr s g)).ch=true
  ·rw [if_pos hm];exact Bk 4 (.inr (.inr (.inl ⟨k2,by simp⟩))) (by simp) (fun _=>hm) (by simp)
  ·rw [if_neg hm];exact goN (.inr (.inr (.inl ⟨k2,by simp⟩)))
 rw [if_neg k2]
 by_cases k3:kd=4∨kd=5
 ·rw [if_pos k3]
  by_cases hm:Sx.made s (aD (gr s g)).ch=true
  ·rw [if_pos hm];exact Bk 1 (by unfold aZ;omega) (by simp) (fun _=>hm) (by simp)
  ·rw [if_neg hm];exact Kv _
 rw [if_neg k3]
 by_cases k4:kd=6
 ·rw [if_pos k4]
  by_cases hm:Sx.made s (aD (gr s g)).ch=true
  ·rw [if_pos hm];exact Bk 4 (by unfold aZ;omega) (by simp) (fun _=>hm) (by simp)
  ·rw [if_neg hm];exact Kv _
 rw [if_neg k4];exact h.j6 hg hx x1.1 x1.2.1 (by rw [x1.1,x1.2.1];exact lt) (by rw [hk];omega) x1.2.2.2.1 x1.2.2.2.2.1 x1.2.2.2.2.2.1 x1.2.2.2.2.2.2.1 x1.2.2.2.2.2.2.2.1 x1.2.2.2.2.2.2.2.2.1 x1.2.2.2.2.2.2.2.2.2.1 x1.2.2.2.2.2.2.2.2.2.2
theorem MInv.makes (h:MInv s) (hl:s.an.length < 8) {m:Int} (m0:0≤m) (m4:m≤4):MInv { s with an:=s.an ++ [⟨m,[],false,-1,[],[]⟩] }:=by
 have ec:∀ c:Int,1≤c→c≤s.an.length→cn { s with an:=s.an ++ [⟨m,[],false,-1,[],[]⟩] } c=cn s c:=by
  intro c a b;unfold cn;simp only;rw [List.getD_eq_getElem?_getD,List.getD_eq_getElem?_getD,List.getElem?_append_left (by omega)]
 have en:∀ c:Int,c=s.an.length + 1→cn { s with an:=s.an ++ [⟨m,[],false,-1,[],[]⟩] } c=⟨m,[],false,-1,[],[]⟩:=by
  intro c a;unfold cn;simp only;rw [List.getD_eq_getElem?_getD,List.getElem?_append_right (by omega)];have:(c - 1).toNat - s.an.length=0:=by omega
  rw [this];rfl
 have I:=h.v;have hh:∀ g,0≤g→g < (s.gs.length:Int)→∀ c,aY (gA s g) c→c≤s.an.length:=by
  intro g a b c hc;have L:=I.loc g a b;rcases hc with w | w
  ·rw [w.2.2.1];exact (L.AT (by omega) (by omega) (by omega) w.1 w.2.1).2
  ·have sp:dG (gA s g).place:=by unfold dG;omega
   rcases w.2 with q | q
   ·exact ((L.se w.1 sp).l1 c q.2).2
   ·exact ((L.se w.1 sp).l1 c (List.mem_of_mem_take q.2)).2
 refine ⟨?_,h.n1,h.n8,by simp;omega,h.sn,h.iJ,h.c1,h.sQ,h.ca,h.f0,h.po,h.rA,h.sR,h.du,h.d5,h.dn⟩;unfold V;have el:(({ s with an:=s.an ++ [⟨m,[],false,-1,[],[]⟩] }:St).an.length:Int)=s.an.length + 1:=by simp
 rw [el];generalize hs:({ s with an:=s.an ++ [⟨m,[],false,-1,[],[]⟩] }:St)=s2 at *;have kO:s2.gs=s.gs:=by subst hs;rfl
 have eg:gA s2=gA s:=by funext g;unfold gA gr;rw [kO]
 have oX:su s2=su s:=by funext g;unfold su;subst hs;rfl
 have Tz:s2.aB=s.aB:=by subst hs;rfl
 have Kw:∀ i,gw s2 i=gw s i:=fun i=>by subst hs;rfl
 rw [eg,oX,kO,Tz];have sp:∀ c:Int,1≤c→c≤s.an.length + 1→c≤s.an.length∨c=s.an.length + 1:=fun c _ _=>by omega
 constructor
 ·intro g a b;exact (I.loc g a b).mono (by omega)
 ·intro c a b;rcases sp c a b with w | w
  ·rw [ec c a w];exact I.jK c a w
  ·rw [en c w];exact .inl rfl
 ·intro g a b c d e;rcases sp c d e with w | w
  ·rw [ec c d w];exact I.iX g a b c d w
  ·rw [en c w]
   constructor
   ·intro q;have:=hh g a b c q;omega
   ·intro q;simp only at q;omega
 ·intro c a b;rcases sp c a b with w | w
  ·rw [ec c a w];exact I.cap c a w
  ·rw [en c w];simp;omega
 ·intro g a b i hi;have:=I.own g a b i hi;rw [Kw];exact this
 ·intro c a b i;rcases sp c a b with w | w
  ·rw [ec c a w];exact I.q c a w i
  ·rw [en c w];simp
 ·intro c a b;rcases sp c a b with w | w
  ·rw [ec c a w];exact I.nd c a w
  ·rw [en c w];simp
 ·intro k a b w;have:=I.dy k a b w;rw [ec _ this.1 this.2.1];exact ⟨this.1,by omega,this.2.2⟩
 ·intro k a b w;have:=I.cl k a b w;rw [ec _ this.1 this.2.1];exact ⟨this.1,by omega,this.2.2⟩
 ·exact I.rq
 ·exact I.wk
 ·exact I.pZ
 ·exact I.su
 ·intro i hi;rw [Kw] at hi;exact I.lv i hi
theorem MInv.j8 (h:MInv s) (hg:g < s.gs.length) (st:(gr s g).status=0) (e:(gr s g).place=20):MInv (j8 s g):=by
 have L:=h.loc hg;have hx:dM (gr s g).place:=by unfold dM;omega
 obtain ⟨pm,tk⟩:=hx.pm L;have wk:=h.vO hg (by omega);have lt:=(L.pl.resolve_left (by omega)).1;have rf:=EY (Ku L lt);have ho:op s g=aD (gr s g):=rfl;have key:∀ (t:St) (r:Md.ai),MInv t→t.gs=s.gs→MInv (bw t g r 18):=by
  intro t r ht EZ;have eg:gr t g=gr s g:=by unfold gr;rw [EZ]
  have fX:g < t.gs.length:=by rw [EZ];exact hg
  refine ht.outs fX (y:={ gr t g with bG:=t.step,res:=r,place:=18 }) ?_ (by rw [eg];exact hx) (by unfold dM;simp) (by rw [eg];exact wk) rfl;have Lt:=ht.loc fX;exact Loc.fresh Lt rfl rfl (by rw [eg];exact lt) (.inl rfl) (by simp) (.inr ⟨by simp,by rw [eg];exact st⟩) (by rw [eg];exact tk) (by rw [eg];exact pm) (by rw [eg];exact wk) (by simp) (by simp) ht.iL
 unfold Sx.j8;simp only
 split
 ·exact key s _ h rfl
 split
 ·rename_i c1 c2;exact key _ _ (h.makes (by omega) (by rw [ho];exact rf.2.2.2.2.1) (by rw [ho];exact rf.2.2.2.2.2.1)) rfl
 split
 ·exact key s _ h rfl
 split
 ·exact key s _ h rfl
 ·exact key s _ h rfl
theorem TA {l:List Nat} (f f':Nat→Int) {g:Nat} (hn:l.Nodup) (hg:g∈l) (he:∀ h∈l,h≠g→f' h=f h):(l.map f').sum=(l.map f).sum + (f' g - f g):=by
 induction l with
 | nil=>simp at hg
 | cons a l ih =>
  have kY:=List.nodup_cons.1 hn;simp only [List.map_cons,List.sum_cons];rcases List.mem_cons.1 hg with w | w
  ·subst w;have:l.map f'=l.map f:=List.map_congr_left fun h hh=>he h (List.mem_cons_of_mem _ hh) (fun c=>kY.1 (c ▸ hh))
   rw [this];omega
  ·have:=ih kY.2 w (fun h hh br=>he h (List.mem_cons_of_mem _ hh) br);rw [this,he a (by simp) (fun c=>kY.1 (c ▸ w))];omega
theorem MInv.answer (h:MInv s) (hg:g < s.gs.length) (st:(gr s g).status=0) (e:(gr s g).place=18):MInv (answer s g):=by
 have L:=h.loc hg;have hx:dM (gr s g).place:=by unfold dM;omega
 obtain ⟨pm,tk⟩:=hx.pm L;have lt:=(L.pl.resolve_left (by omega)).1;have gO:=L.gO;obtain ⟨y,hy⟩:∃ y,gu { gr s g with at_:=(gr s g).at_ + 1,place:=0 }=y:=⟨_,rfl⟩
 have y1:y.ops=(gr s g).ops∧y.at_=(gr s g).at_ + 1∧y.place=0∧y.status=0∧y.token=false∧y.param=-1∧y.ah=[]:=by
  subst hy;exact ⟨rfl,rfl,rfl,st,tk,rfl,rfl⟩
 have ea:Sx.answer s g={ aa s g y with done:=s.done ++ [mark s g s.step] }:=by
  unfold Sx.answer clear;simp only;have e1:gr { s with done:=s.done ++ [mark s g s.step] } g=gr s g:=rfl;rw [e1,iK { s with done:=s.done ++ [mark s g s.step] } g g _ hg,if_pos rfl,mc,hy];rfl
 rw [ea];have ly:Loc s.an.length s.aB.length s.gs.length y:=by
  have a0:=L.a0;have sV:=h.iL
  constructor
  ·rw [y1.1];exact L.nV
  ·rw [y1.1];exact gO
  ·omega
  ·rw [y1.1];omega
  ·exact .inl y1.2.2.1
  ·intro c;exact absurd y1.2.2.1 c
  ·exact .inl y1.2.2.2.1
  ·omega
  ·omega
  ·omega
  ·rw [y1.2.2.2.2.1];simp
  ·rw [y1.2.2.2.2.2.2];simp
  ·omega
  ·rw [y1.2.2.2.2.2.2];simp
  ·rw [y1.2.2.2.2.2.2];simp
  ·omega
  ·omega
  ·rw [y1.2.2.2.2.2.1];omega
  ·omega
  ·rw [y1.2.2.2.2.2.1];omega
  ·rw [y1.2.2.2.2.2.1];omega
  ·intro _ c;unfold dG at c;omega
 have f:Sf s.an.length s.aB.length s.gs.length (gr s g) y:=.outs ly hx (.inl y1.2.2.1) y1.2.2.2.2.2.2;have v:V (aa s g y):=by
  have eA:=fj s g;have I:=Inv.self h.v (g:=g) (x:=y) (by omega) (by omega) f.lx (by rw [eA];exact f.hh) (by rw [eA];exact f.ow) (by rw [eA];exact f.mt) (by rw [eA];exact f.qx) (fun w=>by unfold cu at w;omega) f.fZ (by rw [eA];exact f.wx) (by rw [eA];exact f.wg) (by rw [eA];exact f.cg);unfold V;rw [gU];exact I.sK (fun k k0 _=>rz hg rfl k k0) (fun _ _ _=>rfl) (fun _ _ _=>rfl) (fun _ _ _=>Iff.rfl)
 refine ⟨v,by rw [show ({ aa s g y with done:=s.done ++ [mark s g s.step] }:St).gs.length=s.gs.length from gU];exact h.n1,by rw [show ({ aa s g y with done:=s.done ++ [mark s g s.step] }:St).gs.length=s.gs.length from gU];exact h.n8,h.c8,h.sn,h.iJ,h.c1,h.sQ,by rw [show ({ aa s g y with done:=s.done ++ [mark s g s.step] }:St).gs.length=s.gs.length from gU];exact h.ca,h.f0,h.po,h.rA,h.sR,h.du,h.d5,?_⟩;have hs:nW { aa s g y with done:=s.done ++ [mark s g s.step] }=nW s + 1:=by
  have hl:(aa s g y).gs.length=s.gs.length:=gU;unfold nW
  show ((List.range (aa s g y).gs.length).map (fun k=>(gr (aa s g y) k).at_)).sum=_;rw [hl,TA (fun k=>(gr s k).at_) (fun k=>(gr (aa s g y) k).at_) (g:=g) List.nodup_range (by simpa using hg) (fun k _ br=>by rw [iK s g k y hg,if_neg br])];rw [iK s g g y hg,if_pos rfl,y1.2.1];omega
 rw [hs];have:=h.dn;simp only [List.length_append,List.length_cons,List.length_nil];omega
theorem MInv.iT (h:MInv s) (hg:g < s.gs.length) (st:(gr s g).status=0):MInv (iT s g).1:=by
 unfold Sx.iT;simp only
 by_cases e0:(gr s g).place=0
 ·rw [if_pos e0];exact h.j7 hg st e0
 rw [if_neg e0]
 by_cases e1:(gr s g).place=20
 ·rw [if_pos e1];exact h.j8 hg st e1
 rw [if_neg e1]
 by_cases e2:(gr s g).place=18
 ·rw [if_pos e2];exact h.answer hg st e2
 rw [if_neg e2];exact h
end Sx
namespace Sx
variable {s t:St} {g:Nat} {nc ns n:Int} {x y:Gr}
theorem Loc.lY (L:Loc nc ns n x) (hs:SE x) (xp:x.place≠0) (h1:y.ops=x.ops) (h2:y.at_=x.at_) (st:y.status=0) (tk:y.token=false) (pm:y.param=-1) (yp:24≤y.place∧y.place≤34) (w1:y.ah≠[]→y.place=34∨y.place=30∧y.res.code≠0) (w3:∀ p∈y.ah,0≤p∧p < n) (w4:y.ah.Nodup)
  (hd:y.place=26∨y.place=27→0≤y.hold∧y.hold < ns) (sV:0≤ns) (ys:fY nc ns y):Loc nc ns n y:=by
 have ho:aD y=aD x:=by unfold aD;rw [h1,h2]
 have gO:=L.gO;have pl:=L.pl.resolve_left xp;have hk:(aD x).kind=9:=hs
 constructor
 ·rw [h1];exact L.nV
 ·rw [h1];exact gO
 ·rw [h2];exact L.a0
 ·rw [h1,h2];exact L.a1
 ·rw [h1,h2,ho];exact .inr ⟨pl.1,by unfold aZ;omega⟩
 ·rw [ho];intro _ _ _ _ _;omega
 ·exact .inl st
 ·intro c;omega
 ·intro c;omega
 ·intro c;omega
 ·rw [tk];simp
 ·intro c;rcases w1 c with c | c
  ·exact .inr (.inr (.inr (.inr (.inl c))))
  ·exact .inr (.inr (.inr (.inr (.inr c))))
 ·intro c;omega
 ·exact w3
 ·exact w4
 ·intro c;exact hd (by omega)
 ·intro _ _ c;omega
 ·rw [pm];omega
 ·intro c;omega
 ·rw [pm];intro c;exact absurd c (by decide)
 ·rw [pm];intro c;exact absurd c (by decide)
 ·intro _ _;exact ys
theorem nZ (h:24≤x.place∧x.place≤29∨31≤x.place∧x.place≤34∨x.place=30∧x.res.code≠0):¬ Wt x:=by
 rintro (w | w)
 ·have:=w.2;omega
 ·have:=w.2;omega
theorem Loc.uy (L:Loc nc ns n x) (h:¬ Wt x):x.param=-1∧x.token=false:=by
 constructor
 ·have:=L.p0
  by_cases c:0≤x.param
  ·exact absurd (L.p2 c).1 h
  ·omega
 ·cases c:x.token
  ·rfl
  ·exact absurd (L.tk c).1 h
theorem yy {l:List Int} {k:Int} (k0:0≤k) (k1:k < l.length):l.take (k + 1).toNat=l.take k.toNat ++ [aA l k]:=by
 have e:(k + 1).toNat=k.toNat + 1:=by omega
 have:k.toNat < l.length:=by omega
 rw [e,List.take_add_one,List.getElem?_eq_getElem this];unfold aA;rw [List.getD_eq_getElem?_getD,List.getElem?_eq_getElem this];rfl
theorem Bl {l:List Int} {k:Int} (k0:0≤k) (k1:k < l.length):l.drop k.toNat=aA l k :: l.drop (k + 1).toNat:=by
 have e:(k + 1).toNat=k.toNat + 1:=by omega
 have:k.toNat < l.length:=by omega
 rw [e,List.drop_eq_getElem_cons this];unfold aA;rw [List.getD_eq_getElem?_getD,List.getElem?_eq_getElem this];rfl
theorem qP {l:List Int} {k:Int} (k0:0≤k) (k1:k < l.length):aA l k∈l:=by
 have:k.toNat < l.length:=by omega
 unfold aA;rw [List.getD_eq_getElem?_getD,List.getElem?_eq_getElem this];exact List.getElem_mem this
theorem Kx {l:List Int} {k:Int} (h:k=l.length):l.take k.toNat=l:=by
 rw [List.take_of_length_le (by omega)]
structure je (x y:Gr):Prop where
 ops:y.ops=x.ops
 at_:y.at_=x.at_
 status:y.status=x.status
 token:y.token=x.token
 aX:y.aX=x.aX
 param:y.param=x.param
 aK:y.aK=x.aK
 order:y.order=x.order
 aC:y.aC=x.aC
theorem je.aD (h:je x y):aD y=aD x:=by unfold Sx.aD;rw [h.ops,h.at_]
theorem je.se (h:je x y):SE y↔SE x:=by unfold SE;rw [h.aD]
theorem je.ch (h:je x y) (j:Int):bP y j=bP x j:=by unfold bP;rw [h.aD]
theorem fY.lock (b:fY nc ns x) (h:je x y) (e:x.place=24∨x.place=31) (es:y.ak=x.ak) (ec:y.res.code=x.res.code)
  (hp:y.place=x.place∧y.k=x.k + 1∧x.k + 1 < x.aC.length∨y.place=x.place + 1∧y.k=0∧x.k + 1=x.aC.length):fY nc ns y:=by
 have ho:=h.aD;have hc:=h.ch;have o1:=b.o1;have ab:24≤y.place∧y.place≤27→24≤x.place∧x.place≤27:=by omega
 have kk:0≤y.k∧(y.place=24∨y.place=31→y.k < x.aC.length):=by have:=b.k0;omega
 have sW:∀ {P:Prop},y.place=28∨y.place=29∨y.place=30∨y.place=33∨y.place=34∨y.place=13∨y.place=14→P:=fun c=>by omega
 have E0:31≤y.place∧y.place≤33→31≤x.place∧x.place≤33:=by omega
 have k2:25≤y.place∧y.place≤29∨y.place=32∨y.place=34→y.k=0:=by omega
 constructor
 ·rw [h.order,h.aC,ho];simp only [hc];exact o1
 ·rw [h.order];exact b.o2
 ·rw [h.order];exact b.o3
 ·rw [h.aC];exact b.l1
 ·rw [h.aC];exact b.l2
 ·rw [h.aC];exact b.l3
 ·exact kk.1
 ·rw [h.aC];exact kk.2
 ·rw [h.order];intro c;rw [k2 c];have:=b.o3;omega
 ·intro c;exact sW (by omega)
 ·rw [es];intro c;exact b.s1 (ab c)
 ·rw [es,ho];intro c
  by_cases d:31≤y.place∧y.place≤33
  ·have:=E0 d;exact b.s2 (.inr (.inl ⟨this.1,by omega⟩))
  ·exact sW (by omega)
 ·intro c;exact sW (by omega)
 ·rw [es,h.order];exact b.s4
 ·intro c;exact sW (by omega)
 ·rw [es,h.order];intro c
  by_cases d:31≤y.place∧y.place≤33
  ·exact b.s6 (.inl (E0 d))
  ·exact sW (by omega)
 ·intro c;exact sW (by omega)
 ·rw [ec];intro c
  by_cases d:24≤y.place∧y.place≤27
  ·have:=ab d;exact b.c1 (.inl ⟨this.1,by omega⟩)
  ·exact sW (by omega)
 ·rw [h.aX];intro c;exact b.c2 (E0 c)
 ·intro c;exact sW (by omega)
theorem MInv.jL (h:MInv s) (hg:g < s.gs.length) (k:(op s g).kind=9) (e:dG (gr s g).place):fY s.an.length s.aB.length (gr s g):=(h.loc hg).se k e
theorem MInv.Ky (h:MInv s) (hg:g < s.gs.length) (st:(gr s g).status=0) (k:(op s g).kind=9) (p:Int) (e:(gr s g).place=24∧p=25∨(gr s g).place=31∧p=32):MInv (lock s g p):=by
 have L:=h.loc hg;have b:=h.jL hg k (by unfold dG;omega);have kx:SE (gr s g):=k;unfold lock;simp only;have k1:=b.k1 (by omega);have rG:=b.l1 _ (qP b.k0 k1);have nw:¬ Wt (gr s g):=nZ (by omega);obtain ⟨pm,tk⟩:=L.uy nw;have wk:(gr s g).ah=[]:=by
  by_cases w:(gr s g).ah=[]
  ·exact w
  ·have:=L.w1 w;omega
 unfold tryLock
 by_cases hl:(cn s (aA (gr s g).aC (gr s g).k)).lock=-1
 ·rw [if_pos hl];simp only [if_true];have key:∀ y,je (gr s g) y→y.ah=(gr s g).ah→y.ak=(gr s g).ak→y.res.code=(gr s g).res.code→(y.place=(gr s g).place∧y.k=(gr s g).k + 1∧(gr s g).k + 1 < (gr s g).aC.length∨y.place=(gr s g).place + 1∧y.k=0∧(gr s g).k + 1=(gr s g).aC.length) →
    MInv (aa (av s (aA (gr s g).aC (gr s g).k) { cn s (aA (gr s g).aC (gr s g).k) with lock:=g }) g y):=by
   intro y hk hw hs hc hp;have ys:=b.lock hk (by omega) hs hc hp;have dK:SE y:=hk.se.2 kx;refine h.chan hg rG.1 rG.2 (L.lY kx (by omega) hk.ops hk.at_ (by rw [hk.status];exact st) (by rw [hk.token];exact tk) (by rw [hk.param];exact pm) (by omega) (by rw [hw,wk];simp) (by rw [hw,wk];simp) (by rw [hw,wk];simp) (by omega) h.iL ys) ⟨.inr (.inl ⟨hl,rfl,fun ch=>?_⟩),h.gK rG.1 rG.2,⟨List.Sublist.refl _,List.Sublist.refl _⟩,.inl ⟨rfl,rfl⟩⟩ ?_ ?_ ?_ ?_ ?_ ?_ (fun w=>absurd w.1 nw) (fun w=>absurd w.1 nw) hk.at_
   ·-- it has one lock more
    have Kz:∀ z:Gr,SE z→(aY z ch↔(25≤z.place∧z.place≤29∨z.place=32)∧ch∈z.aC∨(z.place=24∨z.place=31∨z.place=30∨z.place=33)∧ch∈z.aC.take z.k.toNat):=by
     intro z hz;unfold aY;have:(aD z).kind=9:=hz
     constructor
     ·rintro (w | w)
      ·omega
      ·exact w.2
     ·intro w;exact .inr ⟨hz,w⟩
    rw [Kz y dK,Kz _ kx,hk.aC];have tk:=yy b.k0 k1;rcases hp with hp | hp
    ·rw [hp.1,hp.2.1,tk,List.mem_append,List.mem_singleton]
     constructor
     ·rintro (w | w)
      ·omega
      ·rcases w.2 with w2 | w2
       ·exact .inl (.inr ⟨w.1,w2⟩)
       ·exact .inr w2
     ·rintro ((w | w) | w)
      ·omega
      ·exact .inr ⟨w.1,.inl w.2⟩
      ·exact .inr ⟨by omega,.inr w⟩
    ·have TC:(gr s g).aC=(gr s g).aC.take (gr s g).k.toNat ++ [aA (gr s g).aC (gr s g).k]:=by rw [← tk,Kx hp.2.2]
     constructor
     ·rintro (w | w)
      ·have w2:=w.2;rw [TC,List.mem_append,List.mem_singleton] at w2;rcases w2 with w2 | w2
       ·exact .inl (.inr ⟨by omega,w2⟩)
       ·exact .inr w2
      ·omega
     ·rintro ((w | w) | w)
      ·omega
      ·exact .inl ⟨by omega,List.mem_of_mem_take w.2⟩
      ·exact .inl ⟨by omega,w ▸ qP b.k0 k1⟩
   ·intro i;unfold Own;rw [hk.se,hs];have n1:¬ SR y:=fun c=>c.ne dK
    have n2:¬ SR (gr s g):=fun c=>c.ne kx
    simp only [n1,n2,false_and,false_or]
    constructor
    ·intro w;exact ⟨w.1,w.2.1,by omega,w.2.2.2⟩
    ·intro w;exact ⟨w.1,w.2.1,by omega,w.2.2.2⟩
   ·intro i d _ m;rcases m with m | m
    ·exact absurd kx m.1.ne
    ·exact .inr ⟨dK,by rw [hs,hk.aD,hk.order,hk.ch];exact m.2⟩
   ·intro i j q ch a0 b0 hi;have fV:0≤i:=by
     have:i∈(cn s ch).recv∨i∈(cn s ch).send:=by
      unfold up at hi
      split at hi
      ·rename_i c;subst c;exact hi
      ·exact hi
     obtain ⟨o,z⟩:=h.vN (g:=g) a0 b0 this;exact z.i0
    rcases q with q | q
    ·exact absurd kx q.1.ne
    ·obtain ⟨q1,q2,q3,q4,q5⟩:=q;have vU:(gr s g).place=31:=by omega
     have hj:=(b.s4 j q2 q3).2.2 (by omega);refine .inr ⟨dK,q2,by rw [hs];exact q3,by rw [hs];exact q4,?_⟩;rcases hp with hp | hp
     ·exact .inr (.inr (.inr (.inl (by omega))))
     ·refine .inr (.inr (.inr (.inr (.inr ⟨by omega,?_⟩))));rw [hk.order,hp.2.1];simpa using hj
   ·unfold cu;omega
   ·unfold cO;omega
   ·intro q;rw [hw];exact id
  split
  ·rename_i c;exact key _ ⟨rfl,rfl,rfl,rfl,rfl,rfl,rfl,rfl,rfl⟩ rfl rfl rfl (.inr ⟨by simp only;omega,rfl,c⟩)
  ·rename_i c;exact key _ ⟨rfl,rfl,rfl,rfl,rfl,rfl,rfl,rfl,rfl⟩ rfl rfl rfl (.inl ⟨rfl,rfl,by omega⟩)
 ·rw [if_neg hl];simp only [Bool.false_eq_true,if_false];exact h
end Sx
namespace Sx
variable {s t:St} {g:Nat} {nc ns n:Int} {x y:Gr}
end Sx
end Go.Proofs.YtofnbflkhgammaaGreat
