/-
  What the laws need, part CF1.
  Conditions: none.
-/
import Derived.Test.YtdjhhbpedllnhaaGreatB33
import Derived.Laws.StructEq
set_option linter.unusedVariables false
set_option linter.unusedSimpArgs false
set_option linter.unnecessarySimpa false
set_option maxHeartbeats 2000000
namespace Go.Proofs.YtdjhhbpedllnhaaGreat
open Go.RowKit
namespace Fl
open Sx
section
variable {P:Program} {ops:Array Oper} {Q:Exit→Act→World→Prop} {md:Region.Mode} {S:World→Prop} {m:Option Nat}
end
section
variable (P:Program) (c:Cx)
end
section
variable {P:Program} {c:Cx} {k:List Item} {f f0:Fm} {L L0:List aj} {ops:Array Oper} {l:List Oper} {o:Oper} {m:Option Nat} {T:List Nat} {n:Nat} {aU:Array Bool}
theorem JD.skip (i:Nat) {t:Nat} (hi:ops[i]?=some o) (hd:o.dst=some t) (hk:xJ .any ops m aU i=true) (hw:tF ops o f0=true) (ht:t < c.N) (h:JD P c ops m T n (aU.setIfInBounds i true) k ((t,.bp []) :: f) L ((t,.bp []) :: f0) L0):JD P c ops m T (n + 1) aU k f L f0 L0:=⟨fun a w w0 s s0 kp ho=>by
 unfold xJ at hk;simp only [Bool.and_eq_true] at hk;obtain ⟨⟨⟨k1,k2⟩,k3⟩,k4⟩:=hk;refine Gx.first hi (Region.noSelect_spec k1) (fun c a w h=>by cases h.1) k4 n aU a w (Region.free_spec hi k2) (by simpa using k3) (v:=undef) (.inr ⟨tF.run hw s0,rfl⟩) kp ?_
 have:=h.go (a.put o.dst undef) w w0 (by rw [hd];exact s.undef ht) (by rw [hd];exact s0.undef ht) kp ho;exact this⟩
end
end Fl
namespace Fl
open Sx
instance:aG Tryz.prog 28:={}
instance:aG Tryz.prog 29:={}
end Fl
open Go.RowKit
namespace Fl
open Sx
section
variable {α:Type} {E:World→List Value→α→List Nat→Prop} {enc:α→List A}
end
end Fl
open Go.RowKit
namespace Fl
open Sx
set_option maxRecDepth 100000
section
variable {P:Program} {c:Cx} {k:List Item} {f:Fm} {L L2:List aj} {T:TypeId} {ps:String} {af:Array Edge} {gd:Option (Nat × Bool)} {t:Nat}
end
end Fl
open Go.RowKit
namespace Fl
open Sx
set_option maxRecDepth 100000
section
variable {P:Program} {c:Cx} {f:Fm} {L:List aj} {T:TypeId} {ps:String} {af:Array Edge} {gd:Option (Nat × Bool)} {t:Nat}
theorem rY {ok:Nat→Prop} {w:World}:∀ {zs:List Value} {xs:List Value},RC ok w (vs zs) xs→xs=zs
 | [],xs,h=>h.n0
 | z :: zs,xs,h=>by
  obtain ⟨ys,rfl,r⟩:=RC.c1 (fF:=vs zs) h;rw [rY r]
theorem Qt.wS {x y:Operand} {X Y:Nat} (zs:List Value) (h:bg f x=some (.agg (vs zs))) (hy:bg f y=some (.agg (vs zs))) (hr:∀ w,(binOp .neq X (.agg zs.toArray) (.agg zs.toArray)).run P w=.ok (.bool false) w) (hg:P.eqGuardType P.depth X=false):Qt P c [] ⟨t,.binOp .neq X x y Y,T,ps,af,gd⟩ f L (.c (.v (.bool false))):=⟨fun a w s=>by
 have rx:=s.ev h;have ry:=s.ev hy;unfold RD at rx ry;obtain ⟨v1,e1,r1⟩:=rx;obtain ⟨v2,e2,r2⟩:=ry;rw [rY r1] at e1;rw [rY r2] at e2;refine ⟨.bool false,by unfold RD RA;exact ⟨rfl,rfl⟩,fun w' k=>?_⟩;simp [execOp,e1,e2,hr,Sem.run_bind,run_eqGuard_agg _ _ _ _ _ _ _ hg]⟩
end
theorem Cu:Tryz.prog.underlying 45=some (.struct (Tryz.prog.fieldsOf 45)):=by kernel_rfl
theorem Cv:Tryz.prog.stoodInHeld 45=false:=by kernel_rfl
theorem Gi:Tryz.prog.eqGuardType Tryz.prog.depth 45=false:=by kernel_rfl
theorem Cw:∃ f0 f1 f2 f3 f4:Field,(Tryz.prog.fieldsOf 45).toList=[f0,f1,f2,f3,f4]∧(f0.name≠"_"∧f1.name≠"_"∧f2.name≠"_"∧f3.name≠"_"∧f4.name≠"_")∧(f0.type=3∧f1.type=3∧f2.type=2∧f3.type=4∧f4.type=3)∧f0.offset=0∧f1.offset=1∧f2.offset=2∧f3.offset=3∧f4.offset=4:=by
 unfold Program.fieldsOf;rw [Tryz.underlying45];exact ⟨_,_,_,_,_,rfl,⟨by decide,by decide,by decide,by decide,by decide⟩,⟨rfl,rfl,rfl,rfl,rfl⟩,rfl,rfl,rfl,rfl,rfl⟩
theorem Xa (w:World) (x0:Int) (x1:Int) (x2:Int) (x3:Bool) (x4:Int):(binOp .neq 45 (.agg #[.int .i64 x0,.int .i64 x1,.int .i64 x2,.bool x3,.int .i64 x4]) (.agg #[.int .i64 x0,.int .i64 x1,.int .i64 x2,.bool x3,.int .i64 x4])).run Tryz.prog w=.ok (.bool false) w:=by
 obtain ⟨f0,f1,f2,f3,f4,hf,⟨n0,n1,n2,n3,n4⟩,⟨t0,t1,t2,t3,t4⟩,o0,o1,o2,o3,o4⟩:=Cw;rw [run_neq_struct,run_equalIn_struct _ _ _ _ _ Cu Cv,hf];have hi:=Tryz.underlying3;have dM:=Tryz.underlying2;have hb:=Tryz.underlying4;simp [Op.eqFields,n0,t0,o0,n1,t1,o1,n2,t2,o2,n3,t3,o3,n4,t4,o4,go_sem,hi,dM,hb]
end Fl
open Go.RowKit
namespace Fl
open Sx
set_option maxRecDepth 100000
end Fl
end Go.Proofs.YtdjhhbpedllnhaaGreat
set_option maxHeartbeats 2000000
namespace Go.Proofs.YtdjhhbpedllnhaaGreat
namespace Sx
end Sx
namespace Sx
section
variable {x y:Gr}
end
section
variable {n nc ns:Int} {G:Int→Gr} {C:Int→Cn} {S:Int→Su} {P:Int→Prop}
end
end Sx
namespace Sx
section
variable {n nc ns:Int} {G:Int→Gr} {C:Int→Cn} {S:Int→Su} {P:Int→Prop}
end
end Sx
namespace Sx
section
variable {n nc ns:Int} {G:Int→Gr} {C:Int→Cn} {S:Int→Su} {P:Int→Prop}
end
end Sx
namespace Sx
section
variable {n nc ns:Int} {G:Int→Gr} {C:Int→Cn} {S:Int→Su} {P:Int→Prop}
end
end Sx
namespace Sx
section
variable {n nc ns:Int} {G:Int→Gr} {C:Int→Cn} {S:Int→Su} {P:Int→Prop}
end
end Sx
namespace Sx
end Sx
namespace Sx
variable {nc ns n:Int} {x x':Gr}
end Sx
namespace Sx
variable {s:ah} {g:Nat}
theorem Ab:ag s g=aO (aa s g):=rfl
end Sx
namespace Sx
variable {s:ah} {g:Nat} {nc ns n:Int}
end Sx
namespace Sx
variable {s:ah} {g:Nat} {nc ns n:Int}
end Sx
namespace Sx
variable {s t:ah} {g:Nat} {nc ns n:Int}
end Sx
namespace Sx
variable {s t:ah} {g:Nat} {nc ns n:Int}
end Sx
namespace Sx
variable {s t:ah} {g:Nat} {nc ns n:Int}
end Sx
namespace Sx
variable {s t:ah} {g:Nat} {nc ns n:Int}
end Sx
namespace Sx
variable {s t:ah} {g:Nat} {nc ns n:Int}
end Sx
namespace Sx
variable {s t:ah} {g:Nat} {nc ns n:Int}
end Sx
namespace Sx
variable {s t:ah} {g:Nat} {nc ns n:Int}
end Sx
namespace Sx
section
variable {s t u:ah} {g:Nat}
theorem wU {o h:Nat} {x:Gr}:aa (Sx.ai s o x) h=if o=h∧h < s.gs.length then x else aa s h:=by
 unfold aa Sx.ai;rw [List.getD_eq_getElem?_getD,List.getD_eq_getElem?_getD,List.getElem?_set]
 by_cases e:o=h
 ·subst e
  by_cases l:o < s.gs.length
  ·rw [if_pos rfl,if_pos l,if_pos ⟨rfl,l⟩];rfl
  ·rw [if_pos rfl,if_neg l,if_neg (fun q=>l q.2),List.getElem?_eq_none (by omega)]
 ·rw [if_neg e,if_neg (fun q=>e q.1)]
structure Lq (s t:ah):Prop where
 cl:t.av.length=s.av.length
 lk:∀ c,(cn t c).lock=(cn s c).lock
end
end Sx
namespace Sx
def j7 (s:ah) (k:Pn.Cs):Bool :=
 if k.send=true then (cn s k.ch).closed || decide (0 < (cn s k.ch).recv.length) || decide (((cn s k.ch).buf.length:Int) < (cn s k.ch).cap)
 else decide (0 < (cn s k.ch).send.length) || decide (0 < (cn s k.ch).buf.length) || (cn s k.ch).closed
def lQ (s:ah) (o:Pn.Op) (w i:Int):Int:=if w < 0∧j7 s (aH o i)=true then i else w
def pK (s:ah) (o:Pn.Op) (l:List Int):Int:=l.foldl (lQ s o) (-1)
theorem Ml (s:ah) (o:Pn.Op):∀ (l:List Int) (w:Int),0≤w→l.foldl (lQ s o) w=w
 | [],_,_=>rfl
 | i :: l,w,h=>by
  rw [List.foldl_cons,show lQ s o w i=w from az];exact Ml s o l w h
theorem Gm (s:ah) (o:Pn.Op):∀ (l:List Int),(∀ i∈l,j7 s (aH o i)=false)→l.foldl (lQ s o) (-1)=-1
 | [],_=>rfl
 | i :: l,h=>by
  rw [List.foldl_cons,show lQ s o (-1) i=-1 from if_neg (by rw [h i (by simp)];simp)];exact Gm s o l fun j hj=>h j (by simp [hj])
theorem Xb {s:ah} {o:Pn.Op} {a b:List Int} {i:Int} (h:∀ i∈a,j7 s (aH o i)=false) (f:j7 s (aH o i)=true) (i0:0≤i):pK s o (a ++ i :: b)=i:=by
 unfold pK;rw [List.foldl_append,Gm s o a h,List.foldl_cons,show lQ s o (-1) i=i from if_pos ⟨by omega,f⟩];exact Ml s o b i i0
section
variable {s t u:ah} {g:Nat}
structure Oc (t:ah) (g:Nat):Prop where
 gj:Good t
 hg:g < t.gs.length
 st:(aa t g).status=0
structure Ac (s t:ah) (g:Nat):Prop where
 a:0≤pK s (ag s g) (aa s g).order→(aa t g).place=30∧(aa t g).res.cs=pK s (ag s g) (aa s g).order∧((aa t g).res.code=1∨(aa t g).res.code=3)∧(aa t g).bT=s.step
 b:pK s (ag s g) (aa s g).order < 0→(ag s g).de=true→(aa t g).place=30∧(aa t g).res=⟨2,-1,0,false,0⟩
 c:pK s (ag s g) (aa s g).order < 0→(ag s g).de=false→(aa t g).place=28
def iG (g:Nat) (Q:ah→Prop):Nat→ah→Prop
 | 0,t=>((aa t g).place=30∨(aa t g).place=28)∧Q t
 | n + 1,t=>((aa t g).place=30∨(aa t g).place=28)∧Q t∨((aa t g).place≠30∧(aa t g).place≠28)∧Oc t g∧(aR t g).2=true∧iG g Q n (aR t g).1
theorem iG.cases {Q:ah→Prop}:∀ {n:Nat} {t:ah},iG g Q n t→((aa t g).place=30∨(aa t g).place=28)∧Q t∨∃ m,n=m + 1∧((aa t g).place≠30∧(aa t g).place≠28)∧Oc t g∧(aR t g).2=true∧iG g Q m (aR t g).1
 | 0,_,h=>.inl h
 | n + 1,_,h=>h.imp id (fun w=>⟨n,rfl,w⟩)
theorem iG.up {Q:ah→Prop}:∀ {n m:Nat} {t:ah},n≤m→iG g Q n t→iG g Q m t
 | 0,0,t,_,h=>h
 | 0,m + 1,t,_,h=>.inl h
 | n + 1,0,t,l,h=>by omega
 | n + 1,m + 1,t,l,h=>h.imp id fun ⟨a,b,c,d⟩=>⟨a,b,c,d.up (by omega)⟩
theorem Oc.step (o:Oc t g) (e:(aR t g).1=u) (hl:u.gs.length=t.gs.length) (st:(aa u g).status=0):Oc u g:=by
 subst e;exact ⟨⟨o.gj.toMInv.aR o.hg o.st,o.gj.z.aR⟩,by rw [hl];exact o.hg,st⟩
theorem iG.one {Q:ah→Prop} {n:Nat} (o:Oc t g) (p:(aa t g).place≠30∧(aa t g).place≠28) (e:aR t g=(u,true)) (h:iG g Q n u):iG g Q (n + 1) t :=
 .inr ⟨p,o,by rw [e],by rw [e];exact h⟩
theorem rZ (k:(ag t g).kind=9) (e:(aa t g).place=25):aR t g=(fq t g (ag t g),true):=by
 unfold Sx.aR;dsimp only;rw [if_neg (by omega),if_neg (by omega),if_pos e]
theorem Mm (k:(ag t g).kind=9) (e:(aa t g).place=26):aR t g=(dG (cT t g 25 27) g,true):=by
 unfold Sx.aR;dsimp only;rw [if_neg (by omega),if_neg (by omega),if_neg (by omega),if_pos e]
theorem Mn (k:(ag t g).kind=9) (e:(aa t g).place=27):aR t g=(gG t g (ag t g),true):=by
 unfold Sx.aR;dsimp only;rw [if_neg (by omega),if_neg (by omega),if_neg (by omega),if_neg (by omega),if_pos e]
theorem Mo (s:ah) (i:Int):(aZ s i).gs=s.gs:=by unfold aZ;split <;> rfl
theorem Xc (s:ah) (c i:Int):(hand s c i).1.gs=s.gs:=by unfold hand;dsimp only;split <;> rfl
theorem Xd {a b:ah} (e:a.gs=b.gs) (h:Nat):aa a h=aa b h:=by unfold aa;rw [e]
theorem Xe {α:Type} (f:Gr→α) (f1:∀ x p,f { x with param:=p }=f x) (f2:∀ x w p,f { x with au:=w,hold:=p }=f x) (hg:g < s.gs.length) (i:Int) (d:Bool):f (aa (serve s g i d) g)=f (aa s g)∧(serve s g i d).gs.length=s.gs.length:=by
 unfold serve;dsimp only;refine ⟨?_,by simp [ai,aV]⟩;rw [wU,if_pos ⟨rfl,by simpa [ai,aV] using hg⟩,f2]
 show f (aa (ai s (su s i).g.toNat { aa s (su s i).g.toNat with param:=i }) g)=_;rw [wU]
 split
 ·rename_i e;rw [f1,e.1]
 ·rfl
theorem Mp (o:Oc t g) (k:(ag t g).kind=9) (e:(aa t g).place=27):∃ u,aR t g=(u,true)∧Oc u g∧(aa u g).place=30∧(aa u g).res.cs=ax (aa t g).order (aa t g).k∧(aa u g).res.code=1∧(aa u g).bT=(aa t g).bT:=by
 refine ⟨_,Mn k e,?_⟩;have h:∀ (n:ah × Md.aj),n.1.gs=t.gs→n.2.cs=ax (aa t g).order (aa t g).k→n.2.code=1→∀ u,u=unlock (ai (serve n.1 g (aa t g).hold true) g { aa (serve n.1 g (aa t g).hold true) g with res:=n.2 }) g 30 →
   u.gs.length=t.gs.length∧(aa u g).status=0∧(aa u g).place=30∧(aa u g).res.cs=ax (aa t g).order (aa t g).k∧(aa u g).res.code=1∧(aa u g).bT=(aa t g).bT:=by
  intro n e1 e2 e3 u hu;subst hu;have hn:g < n.1.gs.length:=by rw [e1];exact o.hg
  have s1:=Xe (fun x=>(x.status,x.bT)) (fun _ _=>rfl) (fun _ _ _=>rfl) hn (aa t g).hold true;have hl:=s1.2;rw [Xd e1] at s1;have s2:=s1.1;simp only [Prod.mk.injEq] at s2;rw [rS (by rw [hl];exact hn),wU,if_pos ⟨rfl,by rw [hl];exact hn⟩];exact ⟨by rw [eV,hl,e1],s2.1.trans o.st,rfl,e2,e3,s2.2⟩
 have q:=h _ ?_ ?_ ?_ (gG t g (ag t g)) (by unfold Sx.gG;exact rfl)
 ·exact ⟨o.step (by rw [Mn k e]) q.1 q.2.1,q.2.2⟩
 ·split
  ·exact Mo _ _
  ·rw [Xc,Mo]
 ·split <;> rfl
 ·split <;> rfl
theorem Xf (o:Oc t g) (k:(ag t g).kind=9) (e:(aa t g).place=26) (np:(aa t (su t (aa t g).hold).g.toNat).bG=false):∃ u,aR t g=(u,true)∧Oc u g∧(ag u g).kind=9∧(aa u g).place=27∧ax (aa u g).order (aa u g).k=ax (aa t g).order (aa t g).k∧(aa u g).bT=t.step:=by
 refine ⟨_,Mm k e,?_⟩;have h:=o.gj.toMInv;have kx:SE (aa t g):=k;obtain ⟨p,q,c0,c1,hh,hq,jK⟩:=h.yW o.hg (.inr (.inr e));have bV:p≠g:=q.ne h (nZ kx (by omega));have so:=q.g_;have e1:dG (cT t g 25 27) g=ai (ai t p { aa t p with bG:=true,bT:=t.step,wi:=g,dm:=(su t (aa t g).hold).cs }) g { aa t g with t:=t.step,bT:=t.step,wi:=p,place:=27,dm:=ax (aa t g).order (aa t g).k }:=by
  rw [ED o.hg q.o1 so bV (by rw [so,Int.toNat_natCast] at np;exact np),uE (by rw [eV];exact o.hg),if_pos rfl]
 rw [e1];have g1:=wU (s:=ai t p { aa t p with bG:=true,bT:=t.step,wi:=g,dm:=(su t (aa t g).hold).cs }) (o:=g) (h:=g) (x:={ aa t g with t:=t.step,bT:=t.step,wi:=p,place:=27,dm:=ax (aa t g).order (aa t g).k });rw [if_pos ⟨rfl,by rw [eV];exact o.hg⟩] at g1;refine ⟨o.step (by rw [Mm k e,e1]) (by rw [eV,eV]) (by rw [g1];exact o.st),?_,by rw [g1],by rw [g1],by rw [g1]⟩;rw [Ab,g1];exact k
theorem Xg (o:Oc t g) (k:(ag t g).kind=9) (e:(aa t g).place=25) {i:Int} (hi:ax (aa t g).order (aa t g).k=i) (f:j7 t (aH (ag t g) i)=true)
  (ns:∀ d,d∈(cn t (aH (ag t g) i).ch).recv∨d∈(cn t (aH (ag t g) i).ch).send→(aa t (su t d).g.toNat).bG=false) :
  iG g (fun u=>Oc u g∧(aa u g).place=30∧(aa u g).res.cs=i∧((aa u g).res.code=1∨(aa u g).res.code=3)∧(aa u g).bT=t.step) 3 t:=by
 have h:=o.gj.toMInv;have hg:=o.hg;have kx:SE (aa t g):=k;have b:=h.iF hg k (by unfold c9;omega);have hd:=b.hand (by omega);have nq:=nZ kx (x:=aa t g) (by omega);rw [hi] at hd;have nJ:(aH (ag t g) i).ch=cr (aa t g) i:=rfl;obtain ⟨c0,c1⟩:=hd.2.2.2.2;rw [← nJ] at c0 c1;have fin:∀ u,fq t g (ag t g)=u→u.gs.length=t.gs.length→(aa u g).status=0→(aa u g).place=30→(aa u g).res.cs=i→((aa u g).res.code=1∨(aa u g).res.code=3)→(aa u g).bT=t.step→iG g (fun u=>Oc u g∧(aa u g).place=30∧(aa u g).res.cs=i∧((aa u g).res.code=1∨(aa u g).res.code=3)∧(aa u g).bT=t.step) 3 t:=by
  intro u hu a1 a2 a3 a4 a5 a6;exact iG.up (n:=1) (by omega) (.one o (by omega) ((rZ k e).trans (by rw [hu])) ⟨.inl a3,o.step (by rw [rZ k e,hu]) a1 a2,a3,a4,a5,a6⟩)
 have Mq:∀ d,d∈(cn t (aH (ag t g) i).ch).recv∨d∈(cn t (aH (ag t g) i).ch).send→fq t g (ag t g)=dG (taken t g d 26 27) g→iG g (fun u=>Oc u g∧(aa u g).place=30∧(aa u g).res.cs=i∧((aa u g).res.code=1∨(aa u g).res.code=3)∧(aa u g).bT=t.step) 3 t:=by
  intro d hq hp;obtain ⟨p,q⟩:=h.uw (g:=g) c0 c1 hq;have bV:=q.ne h nq;have np:=ns d hq
  by_cases hn:0≤(su t d).cs
  ·rw [EC hg hn,uE hg,if_neg (by simp)] at hp;obtain ⟨u,hu⟩:∃ u,ai t g { aa t g with hold:=d,place:=26 }=u:=⟨_,rfl⟩
   rw [hu] at hp;have gu:∀ h,aa u h=if h=g then { aa t g with hold:=d,place:=26 } else aa t h:=fun h=>by rw [← hu,gy hg]
   have gg:=gu g;rw [if_pos rfl] at gg;have oc:Oc u g:=o.step (by rw [rZ k e,hp]) (by rw [← hu,eV]) (by rw [gg];exact o.st);have Xh:∀ j,su u j=su t j:=fun j=>by rw [← hu];rfl
   have ku:(ag u g).kind=9:=by rw [Ab,gg];exact k
   have Xi:u.step=t.step:=by rw [← hu];rfl
   obtain ⟨v,v1,v2,v3,v4,v5,v6⟩:=Xf oc ku (by rw [gg]) (by rw [gg,Xh,q.g_,Int.toNat_natCast,gu,if_neg bV];rw [q.g_,Int.toNat_natCast] at np;exact np);obtain ⟨w,w1,w2,w3,w4,w5,w6⟩:=Mp v2 v3 v4;exact .one o (by omega) ((rZ k e).trans (by rw [hp])) (.one oc (by rw [gg];simp) v1 (.one v2 (by omega) w1 ⟨.inl w3,w2,w3,by rw [w4,v5,gg];exact hi,.inl w5,by rw [w6,v6,Xi]⟩))
  ·rw [EB hg q.g_ bV q.ch c0 c1 hn,uE (by rw [eV];exact hg),if_pos rfl] at hp;obtain ⟨u,hu⟩:∃ u,ai (ai (aE t (aH (ag t g) i).ch (cC (cn t (aH (ag t g) i).ch) d)) p { aa t p with bT:=t.step,wi:=g,dm:=(su t d).cs }) g { aa t g with hold:=d,t:=t.step,bT:=t.step,wi:=p,place:=27,dm:=ax (aa t g).order (aa t g).k }=u:=⟨_,rfl⟩
   rw [hu] at hp;have gg:aa u g={ aa t g with hold:=d,t:=t.step,bT:=t.step,wi:=p,place:=27,dm:=ax (aa t g).order (aa t g).k }:=by
    rw [← hu,wU,if_pos ⟨rfl,by rw [eV];exact hg⟩]
   have oc:Oc u g:=o.step (by rw [rZ k e,hp]) (by rw [← hu,eV,eV];rfl) (by rw [gg];exact o.st);have ku:(ag u g).kind=9:=by rw [Ab,gg];exact k
   obtain ⟨w,w1,w2,w3,w4,w5,w6⟩:=Mp oc ku (by rw [gg]);exact iG.up (n:=2) (by omega) (.one o (by omega) ((rZ k e).trans (by rw [hp])) (.one oc (by rw [gg];simp) w1 ⟨.inl w3,w2,w3,by rw [w4,gg];exact hi,.inl w5,by rw [w6,gg]⟩))
 have Mr:∀ r:Md.aj,(r.code=1∨r.code=3)→fq t g (ag t g)=cZ t g r i→iG g (fun u=>Oc u g∧(aa u g).place=30∧(aa u g).res.cs=i∧((aa u g).res.code=1∨(aa u g).res.code=3)∧(aa u g).bT=t.step) 3 t:=by
  intro r hr hp;rw [uA hg] at hp;refine fin _ hp (by rw [eV]) ?_ ?_ ?_ ?_ ?_
  all_goals rw [gy hg,if_pos rfl]
  ·exact o.st
  ·exact hr
 have Ms:∀ (c':Cn) (r:Md.aj),(r.code=1∨r.code=3)→fq t g (ag t g)=cZ (aE t (aH (ag t g) i).ch c') g r i→iG g (fun u=>Oc u g∧(aa u g).place=30∧(aa u g).res.cs=i∧((aa u g).res.code=1∨(aa u g).res.code=3)∧(aa u g).bT=t.step) 3 t:=by
  intro c' r hr hp;rw [Jx hg] at hp;refine fin _ hp (by rw [eV];rfl) ?_ ?_ ?_ ?_ ?_
  all_goals rw [wU,if_pos ⟨rfl,by exact hg⟩]
  ·exact o.st
  ·exact hr
 unfold j7 at f
 by_cases sd:(aH (ag t g) i).send=true
 ·rw [if_pos sd] at f;simp only [Bool.or_eq_true,decide_eq_true_eq] at f
  by_cases a1:(cn t (aH (ag t g) i).ch).closed=true
  ·exact Mr ⟨3,0,0,false,0⟩ (.inr rfl) (by unfold Sx.fq fX;simp only [hi,sd,a1,if_true])
  by_cases a2:0 < (cn t (aH (ag t g) i).ch).recv.length
  ·exact Mq _ (.inl (sQ (by omega))) (by unfold Sx.fq fX;simp only [hi,sd,a1,a2,if_true,Bool.false_eq_true,if_false])
  have a3:(fo (cn t (aH (ag t g) i).ch).buf (cn t (aH (ag t g) i).ch).cap (aH (ag t g) i).v).2=true:=by
   unfold fo;rw [if_neg (by have:=f.resolve_left (by simp [a1,a2]);omega)]
  exact Ms { cn t (aH (ag t g) i).ch with buf:=(fo (cn t (aH (ag t g) i).ch).buf (cn t (aH (ag t g) i).ch).cap (aH (ag t g) i).v).1 } ⟨1,0,0,true,0⟩ (.inl rfl) (by unfold Sx.fq fX;simp only [hi,sd,a1,a2,a3,if_true,Bool.false_eq_true,if_false])
 ·rw [if_neg sd] at f;simp only [Bool.or_eq_true,decide_eq_true_eq] at f
  by_cases a1:0 < (cn t (aH (ag t g) i).ch).send.length
  ·exact Mq _ (.inr (sQ (by omega))) (by unfold Sx.fq gE;simp only [hi,sd,a1,if_true,Bool.false_eq_true,if_false])
  by_cases a2:0 < (cn t (aH (ag t g) i).ch).buf.length
  ·have a3:(dF (cn t (aH (ag t g) i).ch).buf).2.2=true:=by unfold dF;rw [if_neg (by omega)]
   exact Ms { cn t (aH (ag t g) i).ch with buf:=(dF (cn t (aH (ag t g) i).ch).buf).1 } (eB (dF (cn t (aH (ag t g) i).ch).buf).2.1 true) (.inl rfl) (by unfold Sx.fq gE;simp only [hi,sd,a1,a3,if_true,Bool.false_eq_true,if_false])
  have a3:¬ (dF (cn t (aH (ag t g) i).ch).buf).2.2=true:=by unfold dF;rw [if_pos (by omega)];simp
  have a4:(cn t (aH (ag t g) i).ch).closed=true:=f.resolve_left (by omega);exact Mr (eB 0 false) (.inl rfl) (by unfold Sx.fq gE;simp only [hi,sd,a1,a3,a4,if_true,Bool.false_eq_true,if_false])
theorem Xj {i:Int} (hi:ax (aa t g).order (aa t g).k=i) (f:j7 t (aH (ag t g) i)=false) :
  fq t g (ag t g)=if (aa t g).k + 1 < (aa t g).order.length then next t g 25 else if (ag t g).de=true then cZ t g ⟨2,0,0,false,0⟩ (-1) else next (ai t g { aa t g with aq:=List.replicate (ag t g).cases.length (-1) }) g 28:=by
 unfold j7 at f;have q:(if (aH (ag t g) i).send=true then fX t g i (aH (ag t g) i) else gE t g i (aH (ag t g) i)).2=false:=by
  by_cases sd:(aH (ag t g) i).send=true
  ·rw [if_pos sd] at f ⊢;simp only [Bool.or_eq_false_iff,decide_eq_false_iff_not] at f;have a3:¬ (fo (cn t (aH (ag t g) i).ch).buf (cn t (aH (ag t g) i).ch).cap (aH (ag t g) i).v).2=true:=by
    unfold fo;rw [if_pos (by omega)];simp
   unfold fX;simp only [f.1.1,f.1.2,a3,Bool.false_eq_true,if_false]
  ·rw [if_neg sd] at f ⊢;simp only [Bool.or_eq_false_iff,decide_eq_false_iff_not] at f;have a3:¬ (dF (cn t (aH (ag t g) i).ch).buf).2.2=true:=by unfold dF;rw [if_pos (by omega)];simp
   unfold gE;simp only [f.1.1,f.2,a3,Bool.false_eq_true,if_false]
 unfold Sx.fq;simp only [hi];rw [if_neg (by rw [q];simp)]
theorem Xk (o0:Oc s g) (k:(ag s g).kind=9) (e:(aa s g).place=25) (ns:∀ i∈(aa s g).order,∀ d,d∈(cn s (aH (ag s g) i).ch).recv∨d∈(cn s (aH (ag s g) i).ch).send→(aa s (su s d).g.toNat).bG=false) :
  ∀ (m j:Nat),m + j=(aa s g).order.length→0 < m→(∀ i∈(aa s g).order.take j,j7 s (aH (ag s g) i)=false)→Oc (ai s g { aa s g with k:=j }) g→iG g (fun u=>Oc u g∧Ac s u g) (m + 2) (ai s g { aa s g with k:=j }):=by
 intro m
 induction m with
 | zero=>intro j _ h;omega
 | succ m ih =>
  intro j hj _ nf o;have hg:=o0.hg;obtain ⟨t,ht⟩:∃ t,ai s g { aa s g with k:=j }=t:=⟨_,rfl⟩
  have gt:∀ h,aa t h=if h=g then { aa s g with k:=j } else aa s h:=fun h=>by rw [← ht,gy hg]
  have gg:=gt g;rw [if_pos rfl] at gg;have et:∀ (x:Gr),ai t g x=ai s g x:=fun x=>by rw [← ht,kS]
  have eo:ag t g=ag s g:=by rw [Ab,Ab,gg];rfl
  have ec:∀ c,cn t c=cn s c:=fun c=>by rw [← ht];rfl
  have ef:∀ c,j7 t c=j7 s c:=fun c=>by unfold j7;rw [ec]
  have es:∀ d,su t d=su s d:=fun d=>by rw [← ht];rfl
  have Xl:t.step=s.step:=by rw [← ht];rfl
  have kt:(ag t g).kind=9:=by rw [eo];exact k
  have pt:(aa t g).place=25:=by rw [gg];exact e
  have b:=o0.gj.toMInv.iF hg k (by unfold c9;omega);have j1:(j:Int) < (aa s g).order.length:=by omega
  have Mt:=oI (l:=(aa s g).order) (k:=(j:Int)) (by omega) j1;have Xm:(aa s g).order=(aa s g).order.take j ++ ax (aa s g).order j :: (aa s g).order.drop (j + 1):=by
   have:=uz (l:=(aa s g).order) (k:=(j:Int)) (by omega) j1;rw [Int.toNat_natCast,show ((j:Int) + 1).toNat=j + 1 by omega] at this;rw [← this,List.take_append_drop]
  have i0:=(b.o1 _ Mt).1;rw [ht] at o ⊢;have hi:ax (aa t g).order (aa t g).k=ax (aa s g).order j:=by rw [gg]
  generalize hI:ax (aa s g).order (j:Int)=i at *;have tl:t.gs.length=s.gs.length:=by rw [← ht,eV]
  cases f:j7 s (aH (ag s g) i) with
  | true =>
   have W:pK s (ag s g) (aa s g).order=i:=by rw [Xm];exact Xb nf f i0
   have h1:=Xg o kt pt hi (by rw [eo,ef];exact f) (fun d hd=>by
    rw [eo,ec] at hd;have:=ns i Mt d hd;rw [es,gt]
    split
    ·rename_i z;rw [z] at this;exact this
    ·exact this)
   have mo:∀ {n:Nat} {v:ah},iG g (fun u=>Oc u g∧(aa u g).place=30∧(aa u g).res.cs=i∧((aa u g).res.code=1∨(aa u g).res.code=3)∧(aa u g).bT=t.step) n v→iG g (fun u=>Oc u g∧Ac s u g) n v:=by
    have q:∀ u,(Oc u g∧(aa u g).place=30∧(aa u g).res.cs=i∧((aa u g).res.code=1∨(aa u g).res.code=3)∧(aa u g).bT=t.step)→Oc u g∧Ac s u g:=fun u ⟨a,b,c,d,e⟩=>⟨a,fun _=>⟨b,by rw [W];exact c,d,by rw [e,Xl]⟩,fun z=>by omega,fun z=>by omega⟩
    intro n
    induction n with
    | zero=>intro v z;exact ⟨z.1,q _ z.2⟩
    | succ n Xn=>intro v z;exact z.imp (fun y=>⟨y.1,q _ y.2⟩) fun ⟨a,b,c,d⟩=>⟨a,b,c,Xn d⟩
   exact (mo h1).up (by omega)
  | false =>
   have hp:=Xj hi (by rw [eo,ef];exact f);have Mu:∀ i∈(aa s g).order.take (j + 1),j7 s (aH (ag s g) i)=false:=by
    intro x hx;have:=sS (l:=(aa s g).order) (k:=(j:Int)) (by omega) j1;rw [Int.toNat_natCast,show ((j:Int) + 1).toNat=j + 1 by omega] at this;rw [this,List.mem_append,List.mem_singleton] at hx;rcases hx with hx | hx
    ·exact nf x hx
    ·rw [hx,hI];exact f
   by_cases lt:j + 1 < (aa s g).order.length
   ·rw [if_pos (by rw [gg];simp only;omega),uD (by rw [tl];exact hg),gg,if_neg (by simp only;omega),et] at hp;have pM:=rZ kt pt;rw [hp] at pM;have o2:Oc (ai s g { aa s g with k:=((j + 1:Nat):Int) }) g:=by
     refine o.step (by rw [pM];rfl) (by rw [eV,tl]) ?_;rw [gy hg,if_pos rfl];exact o0.st
    exact .one o (by omega) pM (ih (j + 1) (by omega) (by omega) Mu o2)
   ·rw [if_neg (by rw [gg];simp only;omega)] at hp;have W:pK s (ag s g) (aa s g).order=-1:=by
     refine Gm s (ag s g) _ fun x hx=>Mu x ?_
     rw [List.take_of_length_le (by omega)];exact hx
    have hl:g < t.gs.length:=by rw [tl];exact hg
    rw [eo] at hp
    cases el:(ag s g).de with
    | true =>
     rw [if_pos el,uA hl,et] at hp;have pM:=rZ kt pt;rw [eo,hp] at pM;refine iG.up (n:=1) (by omega) (.one o (by omega) pM ⟨.inl ?_,o.step (by rw [pM]) (by rw [eV,tl]) ?_,fun z=>by omega,fun _ _=>?_,fun _ z=>by rw [el] at z;cases z⟩)
     all_goals rw [gy hg,if_pos rfl]
     ·rw [gg];exact o0.st
     ·exact ⟨rfl,rfl⟩
    | false =>
     rw [if_neg (by rw [el];simp),oZ hl,if_pos (by rw [gg];simp only;omega),et] at hp;have pM:=rZ kt pt;rw [eo,hp] at pM;refine iG.up (n:=1) (by omega) (.one o (by omega) pM ⟨.inr ?_,o.step (by rw [pM]) (by rw [eV,tl]) ?_,fun z=>by omega,fun _ z=>(by rw [el] at z;cases z),fun _ _=>?_⟩)
     all_goals rw [gy hg,if_pos rfl]
     rw [gg];exact o0.st
theorem Xo (o:Oc s g) (k:(ag s g).kind=9) (e:(aa s g).place=25) (k0:(aa s g).k=0) (ns:∀ i∈(aa s g).order,∀ d,d∈(cn s (aH (ag s g) i).ch).recv∨d∈(cn s (aH (ag s g) i).ch).send→(aa s (su s d).g.toNat).bG=false) :
  iG g (fun u=>Oc u g∧Ac s u g) 39 s:=by
 have b:=o.gj.toMInv.iF o.hg k (by unfold c9;omega);have z:=(o.gj.z g).od;have e1:ai s g { aa s g with k:=((0:Nat):Int) }=s:=by
  have:({ aa s g with k:=((0:Nat):Int) }:Gr)=aa s g:=by
   generalize aa s g=x at k0
   cases x;simp only at k0;subst k0;rfl
  rw [this,Bq o.hg]
 have h:=Xk o k e ns (aa s g).order.length 0 (by omega) (by have:=b.o3;omega) (by simp) (by rw [e1];exact o);rw [e1] at h;exact h.up (by omega)
end
end Sx
open Go.RowKit
namespace Fl
open Sx
set_option maxRecDepth 100000
theorem Mv {s:ah} {k:Nat} (hk:k < s.av.length):(s.av.map eC)[((k:Int)).toNat]?=some (eC (Sx.cn s ((k:Int) + 1))):=by
 rw [Int.toNat_natCast,List.getElem?_map,mY hk];rfl
def Gn (c:Cn) (b:Bool):Bool :=
 if b=true then c.closed || decide ((c.recv.length:Int) > 0) || decide ((c.buf.length:Int) < c.cap)
 else decide ((c.send.length:Int) > 0) || decide ((c.buf.length:Int) > 0) || c.closed
theorem Xp (s:ah) (k:Pn.Cs):j7 s k=Gn (Sx.cn s k.ch) k.send:=by
 have e:∀ l:List Int,decide (0 < l.length)=decide ((l.length:Int) > 0):=fun l=>decide_eq_decide.2 (by omega)
 unfold j7 Gn;rw [e,e,e]
theorem Xq (s:ah) (c:Pn.Cs) (k:Nat) (he:c.ch=(k:Int) + 1) (hk:k < s.av.length) (h8:k < 8) :
  Pure Tryz.prog 29 [.agg (aC s),.agg (mc c)] (.c (bI (j7 s c))):=by
 rw [Xp];have w1:IntKind.i64.wrap (c.ch - 1)=(k:Int):=by rw [dJ (by omega) (by omega)];omega
 have A:=Mv hk;rw [← he] at A;generalize Sx.cn s c.ch=x at A ⊢;obtain ⟨send,ch,v⟩:=c;obtain ⟨a1,a2,a3,a4,a5,a6⟩:=x;simp only at w1;obtain ⟨x1,h1⟩:∃ x,decide ((a5.length:Int) > 0)=x:=⟨_,rfl⟩
 obtain ⟨x2,h2⟩:∃ x,decide ((a2.length:Int) < a1)=x:=⟨_,rfl⟩
 obtain ⟨x3,h3⟩:∃ x,decide ((a6.length:Int) > 0)=x:=⟨_,rfl⟩
 obtain ⟨x4,h4⟩:∃ x,decide ((a2.length:Int) > 0)=x:=⟨_,rfl⟩
 unfold Gn;simp only [h1,h2,h3,h4];refine an.intro Tryz.func29 rfl rfl rfl (fun ok e=>?_)
 repeat (first | (refine K.binOp ?_;refine jq rfl rfl rfl (Qt.cJ rfl rfl rfl w1) ?_) | refine ay ?_ | intro _)
 cases send with
 | true =>
  cases a3
  all_goals
   cases x1
   all_goals
    repeat (refine gn ?_)
    exact aD Tryz.func29
 | false =>
  cases x3
  all_goals
   cases x4
   all_goals
    repeat (refine gn ?_)
    exact aD Tryz.func29
def Ad (s:ah) (o:Pn.Op) (i:Int):Bool:=((Sx.cn s (aH o i).ch).recv ++ (Sx.cn s (aH o i).ch).send).any fun d=>(aa s (Sx.su s d).g.toNat).bG
def tA (s:ah) (o:Pn.Op) (l:List Int):Bool:=l.any (Ad s o)
structure Mw (s:ah) (o:Pn.Op) (l:List Int):Prop where
 ll:l.length≤1000
 c8:s.av.length≤8
 cs:∀ i∈l,0≤i∧i < o.cases.length∧1≤(aH o i).ch∧(aH o i).ch≤s.av.length
 rl:∀ c,(Sx.cn s c).recv.length≤1000∧(Sx.cn s c).send.length≤1000
 su:∀ c d,d∈(Sx.cn s c).recv∨d∈(Sx.cn s c).send→0≤d∧d < s.aA.length∧0≤(Sx.su s d).g∧(Sx.su s d).g < s.gs.length
theorem Xr (s:ah) (x:Gr) (o:Pn.Op) (h:Mw s o x.order) :
  Pure Tryz.prog 28 [.agg (aC s),.agg (eG x),.agg (dH o)] (.c (bI (tA s o x.order))):=by
 have c8:=h.c8;have ll:=h.ll;refine an.intro Tryz.func28 rfl rfl rfl (fun ok e=>?_)
 repeat (first | refine ay ?_ | intro _)
 rename_i b3 b4 b5;refine J.loop (ι:={ n:Nat // n≤x.order.length∧∀ i∈x.order.take n,Ad s o i=false }) (fun q=>[(15,.c (nI q.1)),(14,.c (nI x.order.length)),(13,.c (ints x.order)),(3,.c (.v (pt b3))),(5,.c (.v (pt b5)))]) (fun _=>[.box b5 50 (dH o),.box b4 47 (eG x),.box b3 36 (aC s)]) (fun q=>x.order.length - q.1) ⟨0,Nat.zero_le _,by simp⟩ (fun X h=>h.aW ⟨rfl,rfl,rfl,rfl,rfl,trivial⟩) (fun q ih=>?_);obtain ⟨n,hn,hf⟩:=q;simp only at hn ih ⊢
 by_cases kK:n < x.order.length
 case neg =>
  have t1:(decide ((n:Int) < (x.order.length:Int)))=false:=by simpa using kK
  have e0:tA s o x.order=false:=by
   unfold tA;rw [List.take_of_length_le (by omega)] at hf;rw [List.any_eq_false];intro i hi;rw [hf i hi];simp
  rw [e0]
  repeat (refine gn ?_)
  exact aD Tryz.func28
 have t1:(decide ((n:Int) < (x.order.length:Int)))=true:=by simpa using kK
 obtain ⟨i,hi⟩:∃ i,x.order[n]?=some i:=⟨_,List.getElem?_eq_getElem kK⟩
 have Cy:=List.mem_of_getElem? hi;have A0:(x.order.map fun n=>[nI n])[((n:Nat):Int).toNat]?=some [nI i]:=by rw [Int.toNat_natCast,List.getElem?_map,hi];rfl
 obtain ⟨i0,i1,m0,m1⟩:=h.cs i Cy;obtain ⟨k,hk⟩:∃ k:Nat,(aH o i).ch=(k:Int) + 1:=⟨((aH o i).ch - 1).toNat,by omega⟩
 have w1:IntKind.i64.wrap ((aH o i).ch - 1)=(k:Int):=by rw [dJ (by omega) (by omega)];omega
 have k0:(0:Int)≤(k:Int):=Int.natCast_nonneg k;have A1:=at_case i0 i1;have A2:=Mv (s:=s) (k:=k) (by omega);rw [← hk] at A2;obtain ⟨rl,sl⟩:=h.rl (aH o i).ch;have sU:=h.su (aH o i).ch;have sI:Ad s o i=((Sx.cn s (aH o i).ch).recv ++ (Sx.cn s (aH o i).ch).send).any fun d=>(aa s (Sx.su s d).g.toNat).bG:=rfl
 generalize Sx.cn s (aH o i).ch=c at A2 rl sl sU sI;obtain ⟨a1,a2,a3,a4,rv,sd⟩:=c;simp only at rl sl sU sI;generalize aH o i=cx at A1 w1;obtain ⟨YM,YN,YO⟩:=cx;simp only at w1
 repeat (refine gn ?_)
 refine J.draw (by kernel_rfl) rfl ?_;refine JW.base (some 12) ?_;refine tk 0 ?_;refine tk 1 ?_;refine tk 2 ?_;refine tk 3 ?_;refine tk 4 ?_;refine JD.take 5 rfl rfl (by kernel_rfl) rfl (qb rfl) (Qt.cI rfl rfl i0 A1) rfl ?_;refine tk 6 ?_;refine tk 7 ?_;refine JD.take 8 rfl rfl (by kernel_rfl) rfl (qb rfl) (Qt.cJ rfl rfl rfl w1) rfl ?_;refine JD.take 9 rfl rfl (by kernel_rfl) rfl (qb rfl) (Qt.cI rfl rfl k0 A2) rfl ?_;refine tk 10 ?_;refine jl 11 rfl rfl rfl rfl (Ld.alloc (qb rfl)) .none (fun _=>?_);refine jt 12 rfl rfl (Ld.bq rfl rfl rfl (by exact rfl) (by exact rfl)) (fun _=>?_);refine bR ?_
 repeat ((refine J.seq ?_))
 rename_i b9 _;refine J.draw (by kernel_rfl) rfl ?_;refine JW.base none ?_;refine tk 1 ?_;refine tk 2 ?_;refine tk 4 ?_;refine tk 5 ?_;refine tk 8 ?_;refine jl 0 rfl rfl rfl rfl (Ld.gJ (qb rfl)) .none (fun _=>?_);refine jl 3 rfl rfl rfl rfl (Ld.cy (qb rfl) rfl rfl .read (by (simp;omega))) (by (exact .row (by repeat ((exact .refl))))) (fun _=>?_);refine jl 6 rfl rfl rfl rfl (Ld.fO (qb rfl) rfl rfl .read (by (simp;omega))) (by (exact .row (by repeat ((exact .refl))))) (fun _=>?_);refine jk 7 rfl rfl rfl rfl (Qt.vb rfl) ?_;refine bE ?_
 repeat ((refine J.block ?_))
 refine J.cS 0 ?_;refine J.loop (ι:={ m:Nat // m≤(rv ++ sd).length∧∀ d∈(rv ++ sd).take m,(aa s (Sx.su s d).g.toNat).bG=false }) (fun q=>[(38,.c (nI q.1)),(37,.c (.v (.int .i64 (([] ++ rv.map (fun n=>[nI n]) ++ sd.map (fun n=>[nI n]):List (List A)).length:Nat)))),(36,.c (.r 1 ([] ++ rv.map (fun n=>[nI n]) ++ sd.map (fun n=>[nI n]):List (List A)))),(15,.c (nI n)),(14,.c (nI x.order.length)),(13,.c (ints x.order)),(3,.c (.v (pt b3))),(5,.c (.v (pt b5)))]) (fun _=>[.box b5 50 (dH o),.box b4 47 (eG x),.box b3 36 (aC s)]) (fun q=>(rv ++ sd).length - q.1) ⟨0,Nat.zero_le _,by simp⟩ (fun X h=>h.aW ⟨rfl,rfl,rfl,rfl,rfl,rfl,rfl,rfl,trivial⟩) (fun q fP=>?_);obtain ⟨m,hm,hp⟩:=q;simp only at hm fP ⊢
 by_cases cG:m < (rv ++ sd).length
 case neg =>
  have t4:(decide ((m:Int) < ((([] ++ rv.map (fun n=>[nI n]) ++ sd.map (fun n=>[nI n]):List (List A)).length:Nat):Int)))=false:=decide_eq_false (by simp at cG ⊢;omega);have e0:Ad s o i=false:=by
   rw [sI];rw [List.take_of_length_le (by omega)] at hp;rw [List.any_eq_false];intro d hd;rw [hp d hd];simp
  repeat (refine gn ?_)
  refine (ih ⟨n + 1,by omega,fun j hj=>?_⟩ (by simp only;omega)).aW ⟨rfl,rfl,rfl,rfl,rfl,trivial⟩;rw [List.take_add_one,hi] at hj;rcases List.mem_append.1 hj with hj | hj
  ·exact hf j hj
  ·rw [Option.toList_some,List.mem_singleton] at hj;rw [hj];exact e0
 have t4:(decide ((m:Int) < ((([] ++ rv.map (fun n=>[nI n]) ++ sd.map (fun n=>[nI n]):List (List A)).length:Nat):Int)))=true:=decide_eq_true (by simp at cG ⊢;omega);obtain ⟨d,hd⟩:∃ d,(rv ++ sd)[m]?=some d:=⟨_,List.getElem?_eq_getElem cG⟩
 have Mx:=List.mem_of_getElem? hd;have A3:([] ++ rv.map (fun n=>[nI n]) ++ sd.map (fun n=>[nI n]):List (List A))[((m:Nat):Int).toNat]?=some [nI d]:=by
  rw [Int.toNat_natCast,List.nil_append,← List.map_append,List.getElem?_map,hd];rfl
 have iu:m < 2000:=by rw [List.length_append] at cG;omega
 obtain ⟨d0,d1,g0,g1⟩:=sU d (List.mem_append.1 Mx);have A4:=iC d0 d1;have A5:=iB (s:=s) (g:=(Sx.su s d).g.toNat) (by omega);have My:∀ y,(aa s (Sx.su s d).g.toNat).bG=y→(s.gs.map eG)[((Sx.su s d).g).toNat]?=some (eG { aa s (Sx.su s d).g.toNat with bG:=y }):=fun y hy=>by
  rw [← hy];rw [Int.toNat_natCast] at A5;exact A5
 cases pk:(aa s (Sx.su s d).g.toNat).bG with
 | true =>
  have A6:=My true pk;have e1:tA s o x.order=true:=by
   unfold tA;rw [List.any_eq_true];exact ⟨i,Cy,by rw [sI,List.any_eq_true];exact ⟨d,Mx,pk⟩⟩
  rw [e1]
  repeat (refine gn ?_)
  refine J.draw (by kernel_rfl) rfl ?_;refine JW.base none ?_;refine tk 0 ?_;refine tk 1 ?_;refine tk 2 ?_;refine tk 3 ?_;refine tk 4 ?_;refine JD.take 5 rfl rfl (by kernel_rfl) rfl (qb rfl) (Qt.cI rfl rfl d0 A4) rfl ?_;refine tk 6 ?_;refine tk 7 ?_;refine JD.take 8 rfl rfl (by kernel_rfl) rfl (qb rfl) (Qt.cI rfl rfl g0 A6) rfl ?_;refine tk 9 ?_;refine tk 10 ?_;refine bE ?_
  repeat (refine gn ?_)
  exact aD Tryz.func28
 | false =>
  have A6:=My false pk
  repeat (refine gn ?_)
  refine J.draw (by kernel_rfl) rfl ?_;refine JW.base none ?_;refine tk 0 ?_;refine tk 1 ?_;refine tk 2 ?_;refine tk 3 ?_;refine tk 4 ?_;refine JD.take 5 rfl rfl (by kernel_rfl) rfl (qb rfl) (Qt.cI rfl rfl d0 A4) rfl ?_;refine tk 6 ?_;refine tk 7 ?_;refine JD.take 8 rfl rfl (by kernel_rfl) rfl (qb rfl) (Qt.cI rfl rfl g0 A6) rfl ?_;refine tk 9 ?_;refine tk 10 ?_;refine bE ?_
  repeat (refine gn ?_)
  refine (fP ⟨m + 1,by omega,fun y hy=>?_⟩ (by simp only;omega)).aW ⟨rfl,rfl,rfl,rfl,rfl,rfl,rfl,rfl,trivial⟩;rw [List.take_add_one,hd] at hy;rcases List.mem_append.1 hy with hy | hy
  ·exact hp y hy
  ·rw [Option.toList_some,List.mem_singleton] at hy;rw [hy];exact pk
end Fl
open Go.RowKit
namespace Fl
open Sx
set_option maxRecDepth 100000
theorem Xs {y:Gr} {W c p:Int} (f1:y.place=30) (f2:y.res.cs=W) (f3:y.res.code=c) (f4:y.bT=p):eG y=eG { y with place:=30,bT:=p,res:=⟨c,W,y.res.v,y.res.ok,y.res.n⟩ }:=by
 subst f2 f3 f4;rw [← f1]
theorem Xt {s:ah} {g:Nat} (h:Sx.Good s) (hg:g < s.gs.length) (k:(ag s g).kind=9) (e:(aa s g).place=25):Mw s (ag s g) (aa s g).order:=by
 have h':=h.toMInv;have b:=h'.iF hg k (by unfold c9;omega);refine ⟨by have:=(h.z g).od;omega,h.c8,fun i hi=>?_,fun c=>by have:=Cb h' c;omega,fun c d hd=>?_⟩
 ·obtain ⟨a1,a2,a3⟩:=b.o1 i hi;have:=b.l1 _ a3;exact ⟨a1,a2,this.1,this.2⟩
 ·rcases zD s c with ⟨c',x0,x1,e1⟩ | e1
  ·rw [e1] at hd;obtain ⟨q1,q2,_,_,_,q6,q7,_⟩:=Sx.Inv.q h'.v c' x0 x1 d hd;exact ⟨q1,q2,q6,q7⟩
  ·rw [e1] at hd;simp [oF] at hd
theorem Xu {s:ah} {o:Pn.Op} {l:List Int} (h:tA s o l=false):∀ i∈l,∀ d,d∈(Sx.cn s (aH o i).ch).recv∨d∈(Sx.cn s (aH o i).ch).send→(aa s (Sx.su s d).g.toNat).bG=false:=by
 unfold tA Ad at h;intro i hi d hd;rw [List.any_eq_false] at h;have:=h i hi;rw [Bool.not_eq_true,List.any_eq_false] at this;simpa using this d (List.mem_append.2 hd)
theorem Xv (p:List (List Pn.Op)) (sn cn:Int) (d l:List Int) (hd:∀ x∈d,0≤x∧x < 65536) :
  Pure Tryz.prog 9 [.agg (ng p sn cn d),.c (ints l)] (.c (bI true)):=by
 have CR:=FL p sn cn d l hd;have HG:=FK (p:=p) (sn:=sn) (cn:=cn) (l:=l) hd;generalize j6 p sn cn d l=r at CR HG;obtain ⟨s,o⟩:=r;refine an.intro Tryz.func9 rfl rfl rfl (fun ok e=>?_)
 cases o with
 | false =>
  repeat (first | (refine K.store ?_;refine JO.ld (Ld.bq rfl rfl rfl (by exact rfl) (by exact rfl)) rfl (fun _=>?_)) | refine kN (wR) ?_ | refine ay ?_ | intro _)
  exact aD Tryz.func9
 | true =>
 have G:Sx.Good s:=HG rfl;have g8:=G.n8;have c8:=G.c8;clear HG
 repeat (first | (refine K.store ?_;refine JO.ld (Ld.bq rfl rfl rfl (by exact rfl) (by exact rfl)) rfl (fun _=>?_)) | refine kN (wR) ?_ | refine ay ?_ | intro _)
 rename_i b2 b5 _;refine J.loop (ι:={ k:Nat // k≤s.gs.length }) (fun q=>[(29,.c (nI q.1)),(28,.c (nI s.gs.length)),(27,.c (.r 25 (s.gs.map eG))),(5,.c (.v (pt b5)))]) (fun _=>[.box b5 36 (aC s),.box b2 27 (ng p sn cn d)]) (fun q=>s.gs.length - q.1) ⟨0,Nat.zero_le _⟩ (fun X h=>h.aW ⟨rfl,rfl,rfl,rfl,trivial⟩) (fun q ih=>?_);obtain ⟨g,hk⟩:=q;simp only at hk ih ⊢
 by_cases hg:g < s.gs.length
 case neg =>
  have t1:(decide ((g:Int) < (s.gs.length:Int)))=false:=by simpa using hg
  repeat (refine gn ?_)
  exact aD Tryz.func9
 have t1:(decide ((g:Int) < (s.gs.length:Int)))=true:=by simpa using hg
 have qB:=ih ⟨g + 1,by omega⟩ (by simp only;omega);simp only at qB;have Mz:=dI s g hg (G.toMInv.loc hg).a0;obtain ⟨el,mI⟩:∃ x,(ag s g).de=x:=⟨_,rfl⟩
 have Mz:Pure Tryz.prog 18 [.agg (aC s),.c (nI g)] (.agg (dH { ag s g with de:=el })):=by rw [← mI];exact Mz
 cases st:((aa s g).status != 0) with
 | true =>
  repeat (first | (refine K.store ?_;refine JO.ld (Ld.bq rfl rfl rfl (by exact rfl) (by exact rfl)) rfl (fun _=>?_)) | refine ay ?_ | intro _)
  refine J.cS 0 ?_;refine J.cS 0 ?_;exact qB.aW ⟨rfl,rfl,rfl,rfl,trivial⟩
 | false =>
 cases kd:((ag s g).kind != 9) with
 | true =>
  repeat (first | (refine K.store ?_;refine JO.ld (Ld.bq rfl rfl rfl (by exact rfl) (by exact rfl)) rfl (fun _=>?_)) | refine ay ?_ | intro _)
  refine J.cS 0 ?_;refine J.cS 0 ?_;exact qB.aW ⟨rfl,rfl,rfl,rfl,trivial⟩
 | false =>
 cases pl:((aa s g).place != 25) with
 | true =>
  repeat (first | (refine K.store ?_;refine JO.ld (Ld.bq rfl rfl rfl (by exact rfl) (by exact rfl)) rfl (fun _=>?_)) | refine ay ?_ | intro _)
  refine J.cS 0 ?_;refine J.cS 0 ?_;exact qB.aW ⟨rfl,rfl,rfl,rfl,trivial⟩
 | false =>
 have kG:(aa s g).status=0:=by simpa using st
 have k9:(ag s g).kind=9:=by simpa using kd
 have kI:(aa s g).place=25:=by simpa using pl
 have SO:=Xt G hg k9 kI;have Xw:=Xr s (aa s g) { ag s g with de:=el } ⟨SO.ll,SO.c8,SO.cs,SO.rl,SO.su⟩;obtain ⟨sb,pY⟩:∃ x,tA s { ag s g with de:=el } (aa s g).order=x:=⟨_,rfl⟩
 rw [pY] at Xw;obtain ⟨x1,h1⟩:∃ x,((aa s g).k != 0)=x:=⟨_,rfl⟩
 obtain ⟨x2,h2⟩:∃ x,decide ((aa s g).hold ≥ 0)=x:=⟨_,rfl⟩
 repeat (first | (refine K.store ?_;refine JO.ld (Ld.bq rfl rfl rfl (by exact rfl) (by exact rfl)) rfl (fun _=>?_)) | refine ay ?_ | intro _)
 cases x1 with
 | true =>
  repeat (refine gn ?_)
  refine J.cS 0 ?_;refine J.cS 0 ?_;exact qB.aW ⟨rfl,rfl,rfl,rfl,trivial⟩
 | false =>
 repeat (refine gn ?_)
 cases x2 with
 | true =>
  repeat (refine gn ?_)
  refine J.cS 0 ?_;refine J.cS 0 ?_;exact qB.aW ⟨rfl,rfl,rfl,rfl,trivial⟩
 | false =>
 repeat (refine gn ?_)
 cases sb with
 | true =>
  repeat (refine gn ?_)
  refine J.cS 0 ?_;refine J.cS 0 ?_;exact qB.aW ⟨rfl,rfl,rfl,rfl,trivial⟩
 | false =>
 have k0:(aa s g).k=0:=by simpa using h1
 have NS:=Xu pY;have GO:=Xo (s:=s) (g:=g) ⟨G,hg,kG⟩ k9 kI k0 NS;have ll:=SO.ll
 repeat (refine gn ?_)
 rename_i b8 _ b9 _;refine J.loop (ι:={ n:Nat // n≤(aa s g).order.length }) (fun q=>[(69,.c (nI q.1)),(68,.c (nI (aa s g).order.length)),(67,.c (ints (aa s g).order)),(10,.c (nI (((aa s g).order.take q.1).foldl (lQ s (ag s g)) (-1)))),(29,.c (nI g)),(28,.c (nI s.gs.length)),(27,.c (.r 25 (s.gs.map eG))),(7,.c (nI g)),(8,.c (.v (pt b8))),(9,.c (.v (pt b9))),(5,.c (.v (pt b5)))]) (fun _=>[.box b9 50 (dH { ag s g with de:=el }),.box b8 47 (eG (aa s g)),.box b5 36 (aC s),.box b2 27 (ng p sn cn d)]) (fun q=>(aa s g).order.length - q.1) ⟨0,Nat.zero_le _⟩ (fun X h=>h.aW ⟨rfl,rfl,rfl,rfl,rfl,rfl,rfl,rfl,rfl,rfl,rfl,trivial⟩) (fun q fP=>?_);obtain ⟨n,hn⟩:=q;simp only at hn fP ⊢
 by_cases kK:n < (aa s g).order.length
 ·have t2:(decide ((n:Int) < ((aa s g).order.length:Int)))=true:=by simpa using kK
  obtain ⟨i,hi⟩:∃ i,(aa s g).order[n]?=some i:=⟨_,List.getElem?_eq_getElem kK⟩
  have Cy:=List.mem_of_getElem? hi;have A0:((aa s g).order.map fun n=>[nI n])[((n:Nat):Int).toNat]?=some [nI i]:=by rw [Int.toNat_natCast,List.getElem?_map,hi];rfl
  obtain ⟨i0,i1,m0,m1⟩:=SO.cs i Cy;have A1:=at_case i0 i1;have CF:=Xq s (aH (ag s g) i) ((aH (ag s g) i).ch - 1).toNat (by omega) (by omega) (by omega);have lE:=fP ⟨n + 1,by omega⟩ (by simp only;omega);simp only at lE;have ew:((aa s g).order.take (n + 1)).foldl (lQ s (ag s g)) (-1)=lQ s (ag s g) (((aa s g).order.take n).foldl (lQ s (ag s g)) (-1)) i:=by
   rw [List.take_add_one,hi,Option.toList_some,List.foldl_append];rfl
  rw [ew] at lE;generalize ((aa s g).order.take n).foldl (lQ s (ag s g)) (-1)=w at lE ⊢;obtain ⟨fb,Gp⟩:∃ x,j7 s (aH (ag s g) i)=x:=⟨_,rfl⟩
  rw [Gp] at CF
  cases z:decide (w < 0) with
  | false =>
   have ev:lQ s (ag s g) w i=w:=if_neg (by simp at z;omega);rw [ev] at lE
   repeat (refine gn ?_)
   refine J.draw (by kernel_rfl) rfl ?_;refine JW.base none ?_;refine tk 0 ?_;refine JD.take 1 rfl rfl (by kernel_rfl) rfl (qb rfl) (Qt.cmp rfl rfl (congrArg some z)) rfl ?_;refine tk 2 ?_
   (refine JD.skip 3 rfl rfl (by kernel_rfl) rfl (qb rfl) ?_)
   (refine JD.skip 4 rfl rfl (by kernel_rfl) rfl (qb rfl) ?_)
   (refine JD.skip 5 rfl rfl (by kernel_rfl) rfl (qb rfl) ?_)
   (refine JD.skip 6 rfl rfl (by kernel_rfl) rfl (qb rfl) ?_)
   (refine JD.skip 7 rfl rfl (by kernel_rfl) rfl (qb rfl) ?_)
   (refine JD.skip 8 rfl rfl (by kernel_rfl) rfl (qb rfl) ?_)
   (refine JD.skip 9 rfl rfl (by kernel_rfl) rfl (qb rfl) ?_)
   refine tk 10 ?_;refine bE ?_
   repeat (refine gn ?_)
   exact lE.aW ⟨rfl,rfl,rfl,rfl,rfl,rfl,rfl,rfl,rfl,rfl,rfl,trivial⟩
  | true =>
   repeat (refine gn ?_)
   refine J.draw (by kernel_rfl) rfl ?_;refine JW.base none ?_;refine tk 0 ?_;refine JD.take 1 rfl rfl (by kernel_rfl) rfl (qb rfl) (Qt.cmp rfl rfl (congrArg some z)) rfl ?_;refine tk 2 ?_;refine tk 3 ?_;refine tk 4 ?_;refine tk 5 ?_;refine tk 6 ?_
   (refine JD.take 7 rfl rfl (by kernel_rfl) rfl (qb rfl) (Qt.cI rfl rfl i0 A1) rfl ?_)
   refine tk 8 ?_;refine jl 9 rfl rfl rfl rfl (Ld.pure (CF) (qb rfl) rfl (by repeat (first | exact aJ.nil | refine aJ.cons (dU.agg (by repeat (first | exact .nil | refine .cons .refl ?_))) ?_))) .none (fun _=>?_);refine jk 10 rfl rfl rfl rfl (Qt.pick rfl rfl) ?_;refine bE ?_
   repeat (fail)
   cases fb with
   | false =>
    have ev:lQ s (ag s g) w i=w:=if_neg (by rw [Gp];simp);rw [ev] at lE
    repeat (refine gn ?_)
    exact lE.aW ⟨rfl,rfl,rfl,rfl,rfl,rfl,rfl,rfl,rfl,rfl,rfl,trivial⟩
   | true =>
    have ev:lQ s (ag s g) w i=i:=if_pos ⟨by simpa using z,Gp⟩;rw [ev] at lE
    repeat (refine gn ?_)
    exact lE.aW ⟨rfl,rfl,rfl,rfl,rfl,rfl,rfl,rfl,rfl,rfl,rfl,trivial⟩
 have t2:(decide ((n:Int) < ((aa s g).order.length:Int)))=false:=by simpa using kK
 rw [List.take_of_length_le (show (aa s g).order.length≤n by omega)];have eW:(aa s g).order.foldl (lQ s (ag s g)) (-1)=pK s (ag s g) (aa s g).order:=rfl;rw [eW];have CO:=Cf s (FJ G)
 repeat (first | (refine K.binOp ?_;refine jq rfl rfl rfl (Qt.yI yJ rfl rfl) ?_) | (refine K.call ?_;refine JO.ld (Ld.aY CO (qb rfl) rfl (.cons .refl .nil)) rfl ?_;intro x) | refine gn ?_)
 obtain ⟨⟨nk,u⟩,hu⟩:=x;simp only at hu ⊢;refine J.loop (ι:={ q:(Nat × Nat) × ah × U // q.1.1 + q.1.2≤39∧Sx.iG g (fun u=>Sx.Oc u g∧Ac s u g) q.1.2 q.2.1∧bY q.2.2 q.2.1 }) (fun q=>[(90,.c (nI q.1.1.1)),(13,.c (.v (pt nk))),(10,.c (nI (pK s (ag s g) (aa s g).order))),(29,.c (nI g)),(28,.c (nI s.gs.length)),(27,.c (.r 25 (s.gs.map eG))),(7,.c (nI g)),(9,.c (.v (pt b9))),(5,.c (.v (pt b5)))]) (fun q=>.box b9 50 (dH { ag s g with de:=el }) :: .box b8 47 (eG (aa s g)) :: .box b5 36 (aC s) :: .box b2 27 (ng p sn cn d) :: wd nk q.1.2.2 q.1.2.1) (fun q=>39 - q.1.1.1) ⟨((0,39),s,u),by simp only;omega,GO,hu⟩ (fun X h=>h.aW ⟨rfl,rfl,rfl,rfl,rfl,rfl,rfl,rfl,rfl,trivial⟩) (fun q fP=>?_);obtain ⟨⟨⟨i,m⟩,t,v⟩,hm,MA,hv⟩:=q;simp only at hm MA hv fP ⊢;have t3:(decide ((i:Int) < 40))=true:=decide_eq_true (by omega);rcases MA.cases with ⟨ep,bM,FO⟩ | ⟨m',rfl,np,bM,h2,Xx⟩
 ·haveI:Sx.bJ g t:=⟨bM.hg⟩
  have CT:=AQ nk v t (Bd.fw (zI bM.gj) (by omega));have E1:=iB (s:=t) bM.hg;obtain ⟨W,hW⟩:∃ W,pK s (ag s g) (aa s g).order=W:=⟨_,rfl⟩
  obtain ⟨FA,FB,FC⟩:=FO;rw [hW] at FA FB FC ⊢;rw [mI] at FB FC
  by_cases w0:0≤W
  ·have w1:decide (W ≥ 0)=true:=decide_eq_true w0;have w2:decide (W < 0)=false:=decide_eq_false (by omega);have w3:(W != W)=false:=by simp
   have w4:(s.step != s.step)=false:=by simp
   obtain ⟨f1,f2,f3,f4⟩:=FA w0;have p1:((aa t g).place == 30)=true:=by rw [f1];rfl
   rcases f3 with f3 | f3
   all_goals
    have E2:=E1;rw [Xs f1 f2 f3 f4] at E2
    repeat (first | (refine K.load ?_;((refine jq rfl rfl rfl (Qt.aL rfl (aN) (by exact rfl)) ?_))) | (refine K.store ?_;refine JO.ld (Ld.bq rfl rfl rfl (by exact rfl) (by exact rfl)) rfl (fun _=>?_)) | (refine K.indexAddr ?_;refine jq rfl rfl rfl (Qt.aI rfl rfl cL cM) ?_) | (refine K.call ?_;refine JO.ld (Ld.aY CT (qb rfl) rfl (.cons .refl .nil)) rfl ?_;intro _) | refine ay ?_ | intro _)
    refine J.uI nk ?_;refine J.cS 0 ?_;refine J.cS 0 ?_;refine J.cS 0 ?_;exact qB.aW ⟨rfl,rfl,rfl,rfl,trivial⟩
  ·have w1:decide (W ≥ 0)=false:=decide_eq_false (by omega);have w2:decide (W < 0)=true:=decide_eq_true (by omega)
   cases el with
   | true =>
    obtain ⟨f1,f2⟩:=FB (by omega) rfl;have p1:((aa t g).place == 30)=true:=by rw [f1];rfl
    have E2:(t.gs.map eG)[((g:Int)).toNat]?=some (eG { aa t g with place:=30,res:=⟨2,-1,0,false,0⟩ }):=by rw [← f1,← f2];exact E1
    repeat (first | (refine K.load ?_;((refine jq rfl rfl rfl (Qt.aL rfl (aN) (by exact rfl)) ?_))) | (refine K.store ?_;refine JO.ld (Ld.bq rfl rfl rfl (by exact rfl) (by exact rfl)) rfl (fun _=>?_)) | (refine K.indexAddr ?_;refine jq rfl rfl rfl (Qt.aI rfl rfl cL cM) ?_) | (refine K.binOp ?_;refine jq rfl rfl rfl (Qt.wS [.int .i64 2,.int .i64 (-1),.int .i64 0,.bool false,.int .i64 0] rfl rfl (fun w=>Xa w _ _ _ _ _) Gi) ?_) | (refine K.call ?_;refine JO.ld (Ld.aY CT (qb rfl) rfl (.cons .refl .nil)) rfl ?_;intro _) | refine ay ?_ | intro _)
    refine J.uI nk ?_;refine J.cS 0 ?_;refine J.cS 0 ?_;refine J.cS 0 ?_;exact qB.aW ⟨rfl,rfl,rfl,rfl,trivial⟩
   | false =>
    have f1:=FC (by omega) rfl;have p1:((aa t g).place == 30)=false:=by rw [f1];rfl
    have p2:((aa t g).place == 28)=true:=by rw [f1];rfl
    have E2:(t.gs.map eG)[((g:Int)).toNat]?=some (eG { aa t g with place:=28 }):=by rw [← f1];exact E1
    repeat (first | (refine K.load ?_;((refine jq rfl rfl rfl (Qt.aL rfl (aN) (by exact rfl)) ?_))) | (refine K.store ?_;refine JO.ld (Ld.bq rfl rfl rfl (by exact rfl) (by exact rfl)) rfl (fun _=>?_)) | (refine K.indexAddr ?_;refine jq rfl rfl rfl (Qt.aI rfl rfl cL cM) ?_) | (refine K.call ?_;refine JO.ld (Ld.aY CT (qb rfl) rfl (.cons .refl .nil)) rfl ?_;intro _) | refine ay ?_ | intro _)
    refine J.uI nk ?_;refine J.cS 0 ?_;refine J.cS 0 ?_;refine J.cS 0 ?_;exact qB.aW ⟨rfl,rfl,rfl,rfl,trivial⟩
 ·haveI:Sx.bJ g t:=⟨bM.hg⟩
  have p1:((aa t g).place == 30)=false:=by simpa using np.1
  have p2:((aa t g).place == 28)=false:=by simpa using np.2
  have C1:=Cr nk v t g (Gh bM.gj bM.hg bM.st) hv;rw [h2] at C1
  repeat (first | (refine K.load ?_;((refine jq rfl rfl rfl (Qt.aL rfl (aN) (by exact rfl)) ?_))) | (refine K.indexAddr ?_;refine jq rfl rfl rfl (Qt.aI rfl rfl cL cM) ?_) | (refine K.call ?_;refine JO.ld (Ld.aY C1 (qb rfl) rfl (.cons .refl (.cons .refl .nil))) rfl ?_;intro y) | refine gn ?_)
  exact (fP ⟨((i + 1,m'),(aR t g).1,y.1),by simp only;omega,Xx,y.2⟩ (by simp only;omega)).aW ⟨rfl,rfl,rfl,rfl,rfl,rfl,rfl,rfl,rfl,trivial⟩
theorem Xy (w:World) (cs:Array Value) (a:uq) (U:List Nat) (sz:cs.size=4) (he:sG w cs.toList a U) (oc:∀ y∈cs.toList,y.oneCell'=true) (v:Value) (l:List Int) (S:List Nat) (hl:GV (kY .i64) 1 w v l S) :
  Calls Tryz.prog 9 #[.agg cs,v] w fun e w'=>e=.returned (.bool true)∧aP [] w w' :=
 FP (Xv a.p a.sn a.cn a.d l (FM he)) he hl
end Fl
end Go.Proofs.YtdjhhbpedllnhaaGreat
