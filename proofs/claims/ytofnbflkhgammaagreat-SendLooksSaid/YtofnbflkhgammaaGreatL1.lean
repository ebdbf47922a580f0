/-
  What the laws need, part L1.
  Conditions: none.
-/
import Derived.Test.YtofnbflkhgammaaGreatD50
set_option linter.unusedVariables false
set_option linter.unusedSimpArgs false
set_option linter.unnecessarySimpa false
set_option maxHeartbeats 2000000
namespace Go.Proofs.YtofnbflkhgammaaGreat
open Go.RowKit
namespace Fl
open Sx Go.Proofs.Tryz
section
variable {P:Program} {ops:Array Oper} {Q:Exit→Act→World→Prop} {md:Region.Mode} {S:World→Prop} {m:Option Nat}
end
section
variable (P:Program) (c:Cx)
end
section
variable {P:Program} {c:Cx} {k:List Item} {f f0:Fm} {L L0:List ak} {ops:Array Oper} {l:List Oper} {o:Oper} {m:Option Nat} {T:List Nat} {n:Nat} {aM:Array Bool}
theorem JD.skip (i:Nat) {t:Nat} (hi:ops[i]?=some o) (hd:o.dst=some t) (hk:uF .any ops m aM i=true) (hw:rD ops o f0=true) (ht:t < c.N) (h:JD P c ops m T n (aM.setIfInBounds i true) k ((t,.aZ []) :: f) L ((t,.aZ []) :: f0) L0):JD P c ops m T (n + 1) aM k f L f0 L0:=⟨fun a w w0 s s0 kp ho=>by
 unfold uF at hk;simp only [Bool.and_eq_true] at hk;obtain ⟨⟨⟨k1,k2⟩,k3⟩,k4⟩:=hk;refine Gx.first hi (Region.noSelect_spec k1) (fun c a w h=>by cases h.1) k4 n aM a w (Region.free_spec hi k2) (by simpa using k3) (v:=undef) (.inr ⟨rD.run hw s0,rfl⟩) kp ?_
 have:=h.go (a.put o.dst undef) w w0 (by rw [hd];exact s.undef ht) (by rw [hd];exact s0.undef ht) kp ho;exact this⟩
theorem Since.box {L0 L L':List ak} {b B i:Nat} {cs:List A} [bx:lO L b B cs i] [er:mw L i L'] (ht:rK L0 L'):Since T L0 L [b]:=.any bx.h er.h ht
end
end Fl
open Go.RowKit
namespace Fl
open Sx Go.Proofs.Tryz
set_option maxRecDepth 100000
theorem Iz {o:Pn.Op} (h:Pn.eU o=true):0≤o.ch∧o.ch≤8∧o.cases.length≤6:=by
 unfold Pn.eU at h;rw [decide_eq_true_iff] at h;omega
section
variable {s:ah} {g:Nat}
theorem IA (h:Sx.MInv s) (hg:g < s.gs.length):0≤(ag s g).ch∧(ag s g).ch≤8∧(ag s g).cases.length≤6:=by
 have L:=h.loc hg;unfold ag;rw [List.getD_eq_getElem?_getD]
 cases e:(aa s g).ops[(aa s g).at_.toNat]? with
 | none=>simp [wC]
 | some o=>exact Iz (L.gj o (List.mem_of_getElem? e))
theorem IB (h:Sx.MInv s) (hg:g < s.gs.length) (e:(aa s g).place=12∨(aa s g).place=16):aN s (ag s g).ch=true∧(Sx.cn s (ag s g).ch).lock=g:=by
 have hm:=vO h hg (by omega);have pl:=sX h hg (by omega);obtain ⟨k,hk,aQ⟩:=vI hm;refine ⟨hm,?_⟩;refine (Sx.Inv.iY h.v (g:Int) (by omega) (by omega) (ag s g).ch (by omega) (by omega)).1 ?_;have k1:2≤(ag s g).kind∧(ag s g).kind≤6:=by unfold bF at pl;omega
 exact .inl ⟨k1.1,k1.2,rfl,by show 5≤(aa s g).place∧(aa s g).place≤12∨(aa s g).place=16∨21≤(aa s g).place∧(aa s g).place≤23;omega⟩
theorem IC (h:Sx.Good s) (hg:g < s.gs.length):xT s g:=by
 have h':=h.toMInv;have L:=h'.loc hg;have o:=IA h' hg;have co:=xR h hg;refine ⟨hg,L.a0,by omega,by omega,h.c8,h.f0,fun e=>vO h' hg (.inl e),fun e=>IB h' hg e,fun e=>?_,fun e=>?_⟩
 ·have:=co.At e;exact this.2
 ·obtain ⟨a,l,e1,a0,a1,a2⟩:=co.Au e;have wk:=Sx.Inv.wk h'.v (g:Int) (by omega) (by omega) a (by show a∈(aa s g).an;rw [e1];simp);refine ⟨a.toNat,l,by rw [e1,Int.toNat_of_nonneg a0],by omega,fun e2=>wk.1 (by omega),?_⟩;have:=xO (n:=s.gs.length) L.w4 (fun a ha=>L.w3 a ha);rw [e1] at this;have n8:=h.n8;simp at this;omega
end
theorem ID {F:FuncId} {a:sy} {l:List Int} (h:Pure prog F [.agg (mO a.p a.sn a.cn a.d),.c (ints l)] (.c (bI true))) {w:World} {cs:Array Value} {U:List Nat} {v:Value} {S:List Nat} (he:qP w cs.toList a U) (hl:GV (kf .i64) 1 w v l S):Calls prog F #[.agg cs,v] w fun e w'=>e=.returned (.bool true)∧aq [] w w' :=
 FM h (xs:=[.agg cs,v]) (bU.cons (by unfold RD;exact ⟨cs.toList,by simp,FJ he fun _ _=>trivial⟩) (bU.cons (by unfold RD;exact FI.ra hl fun _ _=>trivial) bU.nil))
end Fl
open Go.RowKit
namespace Fl
open Sx Go.Proofs.Tryz
set_option maxRecDepth 100000
theorem AM {s:ah} {g:Nat} (h:Sx.MInv s) (hg:g < s.gs.length) (hn:∀ i j,¬ Sx.de (aa s g) i j) {c i:Int} (c0:1≤c) (c1:c≤s.au.length) (hi:i∈(Sx.cn s c).recv∨i∈(Sx.cn s c).send):(∃ o,oP s g o i)∧-1≤(su s i).cs:=by
 have q:=Sx.Inv.q h.v c c0 c1 i hi;have sI:=Sx.Inv.su h.v i q.1 q.2.1;obtain ⟨q1,q2,q3,q4,q5,q6,q7,q8,q9⟩:=q;refine ⟨⟨(su s i).g.toNat,q1,q2,by omega,by omega,fun e=>?_⟩,sI.2.2.1⟩;have e2:(su s i).g=(g:Int):=by omega
 rw [e2] at q9;exact hn _ _ q9
theorem bV {s:ah} {g:Nat} (h:Sx.Good s) (hg:g < s.gs.length) (e:(aa s g).place≠0∧(aa s g).place≠18∧(aa s g).place≠19) (k:2≤(ag s g).kind∧(ag s g).kind≤6):∃ k,uq s (ag s g) k:=by
 have h':=h.toMInv;have m:=h'.lZ hg e k;have c8:=h.c8;have c4:=h'.gE (c:=(ag s g).ch) m.1 m.2;refine ⟨((ag s g).ch - 1).toNat,by omega,by omega,by omega,?_,?_⟩
 all_goals
  rw [show ((((ag s g).ch - 1).toNat:Nat):Int) + 1=(ag s g).ch by omega];omega
theorem Dr {s:ah} {g:Nat} (h:Sx.MInv s) (hg:g < s.gs.length) (hn:∀ i j,¬ Sx.de (aa s g) i j) (e:(aa s g).place=7∨(aa s g).place=8):∃ o,oP s g o (aa s g).hold:=by
 rcases e with e | e
 ·have w:=Sx.Inv.cQ h.v (g:Int) (by omega) (by omega) (.inl e);exact (AM h hg hn w.1 w.2.1 w.2.2.2.1).1
 ·have hd:=(h.loc hg).hd (by omega);have w:=Sx.Inv.cl h.v (g:Int) (by omega) (by omega) (.inl e);obtain ⟨w1,w2,w3,w4,w5,w6,w7⟩:=w;have e0:(su s (aa s g).hold).g≠(g:Int):=w6;have e1:0≤(su s (aa s g).hold).g:=w4;have e2:(su s (aa s g).hold).g < s.gs.length:=w5;exact ⟨(su s (aa s g).hold).g.toNat,hd.1,hd.2,by omega,by omega,fun e=>by omega⟩
theorem IE {s:ah} {g:Nat} (h:Sx.MInv s) (hg:g < s.gs.length) (k:(ag s g).kind=2∨(ag s g).kind=3) (e:(aa s g).place=11):0≤(aa s g).aH∧(aa s g).aH < s.aC.length∧∀ c,(aa s g).aH∉(Sx.cn s c).recv∧(aa s g).aH∉(Sx.cn s c).send:=by
 have L:=h.loc hg;have m:=L.mi k (by omega) (by omega);have w:=Sx.Inv.own h.v (g:Int) (by omega) (by omega) (aa s g).aH ⟨m.1,.inl ⟨k,(by show 11≤(aa s g).place;omega),(by show (aa s g).place≤15;omega),rfl⟩⟩;have no:∀ c,1≤c→c≤(s.au.length:Int)→¬ ((aa s g).aH∈(Sx.cn s c).recv∨(aa s g).aH∈(Sx.cn s c).send):=fun c c0 c1 hi=>by
  have q:=(Sx.Inv.q h.v c c0 c1 _ hi).2.2.2.2.2.2.2.2;have e2:(su s (aa s g).aH).g=(g:Int):=w.2.2.1;rw [e2] at q;have q':Sx.de (aa s g) (aa s g).aH (su s (aa s g).aH).cs:=q;have kk:(aG (aa s g)).kind=2∨(aG (aa s g)).kind=3:=k;unfold Sx.de Sx.SR SE at q';rcases q' with ⟨_,a,_⟩ | ⟨a,_⟩ <;> omega
 refine ⟨m.1,m.2,fun c=>?_⟩;rcases Dh s c with ⟨c',a,b,e1⟩ | e1
 ·rw [e1];exact ⟨fun hi=>no c' a b (.inl hi),fun hi=>no c' a b (.inr hi)⟩
 ·rw [e1];simp [lW]
theorem IF {s:ah} {g:Nat} (h:Sx.Good s) (hg:g < s.gs.length) (st:(aa s g).status=0):Dq s g:=by
 have h':=h.toMInv;have wk:=((xV h).gr g).wk;have nq:∀ k:Int,((ag s g).kind=2∨(ag s g).kind=4)→(aa s g).place < 12→∀ i j,¬ Sx.de (aa s g) i j:=fun _ k e i j q=>by
  have kk:(aG (aa s g)).kind=2∨(aG (aa s g)).kind=4:=k;unfold Sx.de Sx.SR SE at q;rcases q with ⟨_,a,_⟩ | ⟨a,_⟩ <;> omega
 have kd:(ag s g).kind=2∨(ag s g).kind=4→(aa s g).place=11→(ag s g).kind=2:=fun k e=>by
  have pl:=sX h' hg (by omega);unfold bF at pl;omega
 refine ⟨IC h hg,h.qs,by omega,fun k a b c=>bV h hg ⟨a,b,c⟩ (by omega),fun k e i r hr=>?_,fun k e=>Dr h' hg (nq 0 k (by omega)) e,fun _=>(AH h' hg).2,fun k e=>IE h' hg (.inl (kd k e)) e,fun _ e=>AI h' hg st e⟩;have m:=h'.lZ hg (by omega) (by omega);have q:=AM (i:=i) h' hg (nq 0 k (by omega)) m.1 m.2 (.inl (by rw [hr];simp));obtain ⟨⟨o,ho⟩,_⟩:=q;exact ⟨ho.h0,ho.h1,.inr ⟨o,ho⟩⟩
theorem IG {s:ah} {g:Nat} (h:Sx.Good s) (hg:g < s.gs.length) (st:(aa s g).status=0):Sx.Good (bu s g).1:=⟨h.toMInv.bu hg st,h.z.bu⟩
end Fl
namespace Sx
structure Lk (c:Int) (g:Nat) (rd:Bool) (s t:ah):Prop where
 gl:t.gs.length=s.gs.length
 cl:t.au.length=s.au.length
 st:t.step=s.step
 dn:t.done.length=s.done.length
 G:∀ h,h≠g→(aa t h).place=(aa s h).place∧(aa t h).at_=(aa s h).at_∧(rd=false→(aa t h).status=(aa s h).status∧(aa t h).token=(aa s h).token)
 C:∀ k:Nat,(k:Int) + 1≠c→cn t ((k:Int) + 1)=cn s ((k:Int) + 1)
section
variable {c:Int} {g:Nat} {rd:Bool} {s t u:ah}
theorem Lk.Dk:Lk c g rd s s:=⟨rfl,rfl,rfl,rfl,fun _ _=>⟨rfl,rfl,fun _=>⟨rfl,rfl⟩⟩,fun _ _=>rfl⟩
theorem Lk.trans (a:Lk c g rd s t) (b:Lk c g rd t u):Lk c g rd s u :=
 ⟨b.gl.trans a.gl,b.cl.trans a.cl,b.st.trans a.st,b.dn.trans a.dn,fun h n=>⟨(b.G h n).1.trans (a.G h n).1,(b.G h n).2.1.trans (a.G h n).2.1,fun r=>⟨((b.G h n).2.2 r).1.trans ((a.G h n).2.2 r).1,((b.G h n).2.2 r).2.trans ((a.G h n).2.2 r).2⟩⟩,fun k n=>(b.C k n).trans (a.C k n)⟩
theorem II {x:Gr} {o h:Nat}:aa (Sx.ai s o x) h=if o=h∧h < s.gs.length then x else aa s h:=by
 unfold aa Sx.ai;rw [List.getD_eq_getElem?_getD,List.getD_eq_getElem?_getD,List.getElem?_set]
 by_cases e:o=h
 ·subst e
  by_cases l:o < s.gs.length
  ·rw [if_pos rfl,if_pos l,if_pos ⟨rfl,l⟩];rfl
  ·rw [if_pos rfl,if_neg l,if_neg (fun q=>l q.2),List.getElem?_eq_none (by omega)]
 ·rw [if_neg e,if_neg (fun q=>e q.1)]
theorem Lk.dy (a:Lk c g rd s t) {x:Gr}:Lk c g rd s (Sx.ai t g x) :=
 a.trans ⟨by simp [Sx.ai],rfl,rfl,rfl,fun h n=>by rw [II,if_neg (fun q=>n q.1.symm)];exact ⟨rfl,rfl,fun _=>⟨rfl,rfl⟩⟩,fun _ _=>rfl⟩
theorem Lk.other (a:Lk c g rd s t) {o:Nat} {x:Gr} (h1:x.place=(aa t o).place) (h2:x.at_=(aa t o).at_) (h3:rd=false→x.status=(aa t o).status∧x.token=(aa t o).token):Lk c g rd s (Sx.ai t o x) :=
 a.trans ⟨by simp [Sx.ai],rfl,rfl,rfl,fun h n=>by
  rw [II]
  split
  ·rename_i q;obtain ⟨rfl,_⟩:=q;exact ⟨h1,h2,h3⟩
  ·exact ⟨rfl,rfl,fun _=>⟨rfl,rfl⟩⟩,fun _ _=>rfl⟩
theorem Lk.fW (a:Lk c g rd s t) {i:Int} {x:Su}:Lk c g rd s (Sx.aR t i x):=⟨a.gl,a.cl,a.st,a.dn,a.G,a.C⟩
theorem Lk.dJ (a:Lk c g rd s t) (h0:1≤c) {x:Cn}:Lk c g rd s (Sx.aE t c x) :=
 a.trans ⟨rfl,by simp [Sx.aE],rfl,rfl,fun _ _=>⟨rfl,rfl,fun _=>⟨rfl,rfl⟩⟩,fun k n=>by
  unfold cn Sx.aE;rw [List.getD_eq_getElem?_getD,List.getD_eq_getElem?_getD,List.getElem?_set_ne (by omega)]⟩
theorem Lk.free (a:Lk c g rd s t) (h0:1≤c):Lk c g rd s (Sx.free t c):=a.dJ h0
theorem Lk.aI (a:Lk c g rd s t) {p:Int}:Lk c g rd s (Sx.aI t g p):=a.dy
theorem Lk.an (a:Lk c g rd s t):Lk c g rd s (Sx.an t g):=by unfold Sx.an;split <;> exact a.aI
theorem Lk.tryLock (a:Lk c g rd s t) (h0:1≤c):Lk c g rd s (Sx.tryLock t g c).1:=by
 unfold Sx.tryLock;split
 ·exact a.dJ h0
 ·exact a
theorem Lk.ez (a:Lk c g rd s t) {k:Nat} {x:Int}:Lk c g rd s (Sx.ez t k x):=by
 unfold Sx.ez;split
 ·exact ⟨a.gl,a.cl,a.st,a.dn,a.G,a.C⟩
 ·exact a
theorem Lk.aS (a:Lk c g rd s t) {k:Nat}:Lk c g rd s (Sx.aS t k).1:=by
 unfold Sx.aS
 split
 ·split
  ·exact ⟨a.gl,a.cl,a.st,a.dn,a.G,a.C⟩
  ·exact a
 ·exact ⟨a.gl,a.cl,a.st,a.dn,a.G,a.C⟩
theorem Lk.fA (a:Lk c g rd s t):Lk c g rd s (Sx.fA t g):=by unfold Sx.fA;exact a.dy
theorem Lk.ready (a:Lk c g true s t) {o:Nat}:Lk c g true s (Sx.ready t o):=by
 unfold Sx.ready;exact a.other (by split <;> (try split) <;> rfl) (by split <;> (try split) <;> rfl) (fun h=>by cases h)
theorem Lk.drop (a:Lk c g rd s t) (h0:1≤c) {i:Int} (hi:(su t i).ch=c):Lk c g rd s (Sx.bq t i):=by
 unfold Sx.bq;rw [hi]
 split
 ·exact a.dJ h0
 ·exact a
theorem Lk.pair (a:Lk c g rd s t) {i:Int}:Lk c g rd s (Sx.pair t g i):=by
 unfold Sx.pair;dsimp only;refine Lk.dy (Lk.other a ?_ ?_ (fun _=>⟨?_,?_⟩)) <;> rfl
theorem Lk.serve (a:Lk c g rd s t) {i:Int} {d:Bool}:Lk c g rd s (Sx.serve t g i d):=by
 unfold Sx.serve;dsimp only;refine Lk.dy (Lk.fW (Lk.other a ?_ ?_ (fun _=>⟨?_,?_⟩))) <;> rfl
theorem Lk.ite {p:Prop} [Decidable p] {β:Type} {x y:ah × β} (h1:p→Lk c g rd s x.1) (h2:¬ p→Lk c g rd s y.1):Lk c g rd s (if p then x else y).1:=by
 split
 ·exact h1 ‹_›
 ·exact h2 ‹_›
theorem Lk.common (h0:1≤(ag s g).ch) (hr:rd=decide ((aa s g).place=17)):Lk (ag s g).ch g rd s (Sx.common s g).1:=by
 have a:Lk (ag s g).ch g rd s s:=.Dk;unfold Sx.common;dsimp only
 split
 ·split
  ·split
   ·exact (a.tryLock h0).aI
   ·exact (a.tryLock h0).aI
  ·exact a
 split
 ·exact (a.free h0).aI
 split
 ·exact a.aI.fA
 split
 ·exact Lk.aI (Lk.dy (by unfold Sx.cq;exact Lk.fW a.ez))
 split
 ·exact (a.free h0).an
 split
 ·rename_i e;have:rd=true:=by rw [hr];exact decide_eq_true e
  subst this;exact Lk.an (Lk.dy (Lk.ready .Dk))
 ·exact a
theorem Lk.taken (a:Lk c g rd s s) (h0:1≤c) {i wn hn:Int} (hi:(su s i).ch=c):Lk c g rd s (Sx.taken s g i wn hn):=by
 unfold Sx.taken
 split
 ·exact (a.dy).aI
 ·exact (Lk.pair (Lk.drop a.dy h0 hi)).aI
theorem Lk.cQ (a:Lk c g rd s s) (h0:1≤c) {bk on:Int} (hi:(su s (aa s g).hold).ch=c) (bO:(su s (aa s g).hold).g.toNat≠g):Lk c g rd s (Sx.cQ s g bk on):=by
 unfold Sx.cQ;dsimp only
 split
 ·exact (a.drop h0 hi).dy
 ·refine Lk.aI (Lk.pair (Lk.other a.dy ?_ ?_ (fun _=>⟨?_,?_⟩)))
  all_goals rw [II,if_neg (fun q=>bO q.1.symm)]
theorem Lk.aH (a:Lk c g rd s s) {d:Su}:Lk c g rd s (Sx.aH s g d):=by
 unfold Sx.aH
 split
 ·exact (Lk.fW a.aS).dy
 ·exact (a.aS).dy
theorem Lk.gL (a:Lk c g rd s s) (h0:1≤c) {v:Int} (hi:(su s (aa s g).hold).ch=c):Lk c g rd s (Sx.gL s g v):=by
 unfold Sx.gL;exact (Lk.fW (a.drop h0 hi)).serve
end
end Sx
namespace Fl
open Sx Go.Proofs.Tryz
theorem Z9 {s:ah} {g:Nat} (h:Sx.Good s) (hg:g < s.gs.length) (st:(aa s g).status=0) (ok:(bu s g).2=true):Sx.Lk (ag s g).ch g (decide ((aa s g).place=17)) s (bu s g).1:=by
 have h':=h.toMInv;have a:Sx.Lk (ag s g).ch g (decide ((aa s g).place=17)) s s:=.Dk
 by_cases hk:(ag s g).kind=2∨(ag s g).kind=4
 case neg =>
  exfalso
  have:bu s g=(s,false):=by unfold bu;dsimp only;rw [if_pos (by omega)]
  rw [this] at ok
  cases ok
 have nq:(aa s g).place < 12→∀ i j,¬ Sx.de (aa s g) i j:=fun e i j q=>by
  have kk:(aG (aa s g)).kind=2∨(aG (aa s g)).kind=4:=hk;unfold Sx.de Sx.SR SE at q;rcases q with ⟨_,a,_⟩ | ⟨a,_⟩ <;> omega
 have mh:∀ c,bE (aa s g) c→c=(ag s g).ch:=fun c hc=>by
  have kk:(aG (aa s g)).kind=2∨(aG (aa s g)).kind=4:=hk;unfold bE SE at hc;rcases hc with ⟨_,_,e,_⟩ | ⟨e,_⟩
  ·exact e
  ·omega
 have hold:(aa s g).place=7∨(aa s g).place=8→(su s (aa s g).hold).ch=(ag s g).ch:=fun e=>by
  rcases e with e | e
  ·exact mh _ (Sx.Inv.cQ h'.v (g:Int) (by omega) (by omega) (.inl e)).2.2.1
  ·exact mh _ (Sx.Inv.cl h'.v (g:Int) (by omega) (by omega) (.inl e)).2.2.1
 by_cases h1:1≤(ag s g).ch
 case neg =>
  exfalso
  have hp:(aa s g).place=0∨(aa s g).place=18∨(aa s g).place=19:=by
   false_or_by_contra
   have:=h'.lZ hg (by omega) (by omega);omega
  have hc:common s g=(s,false):=OU fun p m=>by simp only [List.mem_cons,List.not_mem_nil,or_false] at m;omega
  rw [OV hk (fun p m=>by simp only [List.mem_cons,List.not_mem_nil,or_false] at m;omega),hc] at ok
  cases ok
 have cm:=Sx.Lk.common (s:=s) (g:=g) (rd:=decide ((aa s g).place=17)) h1 rfl;unfold bu;dsimp only;refine .ite (fun _=>a) fun _=>.ite (fun _=>cm) fun _=>.ite (fun _=>a) fun _=>.ite (fun _=>.ite (fun _=>a.aI) fun _=>a.dy) fun _=>.ite (fun _=>.ite (fun _=>a.dy) fun _=>a.dy) fun _=>.ite (fun _=>.ite (fun _=>a.dy) fun _=>a.aI) fun _=>.ite (fun e6=>.ite (fun _=>a.aI) fun hl=>?_) fun _=>.ite (fun e7=>?_) fun _=>.ite (fun e8=>(a.gL h1 (hold (.inr e8))).dy) fun _=>.ite (fun _=>.ite (fun _=>(a.dJ h1).dy) fun _=>.ite (fun _=>a.dy) fun _=>a.aI) fun _=>.ite (fun _=>a.aH) fun _=>.ite (fun _=>(a.dJ h1).dy) fun _=>.ite (fun _=>a.dy) fun _=>a
 ·have m:=h'.lZ hg (by omega) (by omega)
  cases hr:(Sx.cn s (ag s g).ch).recv with
  | nil=>rw [hr] at hl;exact absurd rfl hl
  | cons i r=>exact a.taken h1 (Sx.Inv.q h'.v _ m.1 m.2 i (.inl (by rw [hr];simp))).2.2.1
 ·obtain ⟨o,ho⟩:=Dr h' hg (nq (by omega)) (.inl e7);exact a.cQ h1 (hold (.inl e7)) (fun e=>ho.ne (by have:=ho.e;omega))
end Fl
open Go.RowKit
namespace Fl
open Sx Go.Proofs.Tryz
set_option maxRecDepth 100000
theorem O5 {s:ah} {k:Nat} (hk:k < s.au.length):(s.au.map eC)[((k:Int)).toNat]?=some (eC (Sx.cn s ((k:Int) + 1))):=by
 rw [Int.toNat_natCast,List.getElem?_map,oD hk];rfl
theorem aaa (p:List (List Pn.Op)) (sn cn:Int) (d l:List Int) (hd:∀ x∈d,0≤x∧x < 65536) :
  Pure prog 11 [.agg (mO p sn cn d),.c (ints l)] (.c (bI true)):=by
 have CR:=Hr p sn cn d l hd;have HG:=Hq (p:=p) (sn:=sn) (cn:=cn) (l:=l) hd;generalize j8 p sn cn d l=r at CR HG;obtain ⟨s,o⟩:=r;refine ax.intro func11 rfl rfl rfl (fun ok e=>?_)
 cases o with
 | false =>
  repeat (first | (refine K.store ?_;refine JO.ld (Ld.aX rfl rfl rfl (by exact rfl) (by exact rfl)) rfl (fun _=>?_)) | refine kU (xX) ?_ | refine av ?_ | intro _)
  exact aA func11
 | true =>
 have G:Sx.Good s:=HG rfl;have g8:=G.n8;have c8:=G.c8;clear HG
 repeat (first | (refine K.store ?_;refine JO.ld (Ld.aX rfl rfl rfl (by exact rfl) (by exact rfl)) rfl (fun _=>?_)) | refine kU (xX) ?_ | refine av ?_ | intro _)
 rename_i b2 b5 _;refine J.loop (ι:={ k:Nat // k≤s.gs.length }) (fun q=>[(29,.c (nI q.1)),(28,.c (nI s.gs.length)),(27,.c (.r 25 (s.gs.map eG))),(5,.c (.v (pt b5)))]) (fun _=>[.box b5 36 (az s),.box b2 27 (mO p sn cn d)]) (fun q=>s.gs.length - q.1) ⟨0,Nat.zero_le _⟩ (fun X h=>h.aW ⟨rfl,rfl,rfl,rfl,trivial⟩) (fun q ih=>?_);obtain ⟨g,hk⟩:=q;simp only at hk ih ⊢
 by_cases hg:g < s.gs.length
 case neg =>
  have t1:(decide ((g:Int) < (s.gs.length:Int)))=false:=by simpa using hg
  repeat (refine gn ?_)
  exact aA func11
 have t1:(decide ((g:Int) < (s.gs.length:Int)))=true:=by simpa using hg
 cases st:((aa s g).status != 0) with
 | true =>
  repeat (first | (refine K.store ?_;refine JO.ld (Ld.aX rfl rfl rfl (by exact rfl) (by exact rfl)) rfl (fun _=>?_)) | refine av ?_ | intro _)
  refine J.eP 0 ?_;exact (ih ⟨g + 1,by omega⟩ (by simp only;omega)).aW ⟨rfl,rfl,rfl,rfl,trivial⟩
 | false =>
 have lC:(aa s g).status=0:=by simpa using st
 have CO:=Dm s (Hp G);have GS:=IG G hg lC;have LK:=Z9 G hg lC;have FW:=Bd.fw (xV GS) (by omega);have C0:=fun b u hu=>Hx b u s g (IF G hg lC) hu
 have COP:=dA s g hg (G.toMInv.loc hg).a0;generalize bu s g=r at C0 FW LK GS;obtain ⟨s2,o2⟩:=r;simp only at C0 FW LK GS;obtain ⟨rb,hrd⟩:∃ rb,((aa s g).place == 17)=rb:=⟨_,rfl⟩
 rw [show decide ((aa s g).place=17)=rb from hrd] at LK
 repeat (first | (refine K.store ?_;refine JO.ld (Ld.aX rfl rfl rfl (by exact rfl) (by exact rfl)) rfl (fun _=>?_)) | (refine K.binOp ?_;refine jq rfl rfl rfl (Qt.BX BY rfl rfl) ?_) | (refine K.call ?_;refine JO.ld (Ld.aV CO (qb rfl) rfl (.cons .refl .nil)) rfl ?_;intro x) | refine av ?_ | intro _)
 obtain ⟨⟨b8,u⟩,hu⟩:=x;simp only at hu ⊢;have C1:=C0 b8 u hu
 cases o2 with
 | false =>
  repeat (first | (refine K.call ?_;refine JO.ld (Ld.aV C1 (qb rfl) rfl (.cons .refl (.cons .refl .nil))) rfl ?_;intro y) | refine gn ?_)
  refine J.CH b8 ?_;refine J.eP 0 ?_;exact (ih ⟨g + 1,by omega⟩ (by simp only;omega)).aW ⟨rfl,rfl,rfl,rfl,trivial⟩
 | true =>
 have KE:=LK rfl;have q1:((s2.gs.length:Int) != (s.gs.length:Int))=false:=by rw [KE.gl];simp
 have q2:((s2.au.length:Int) != (s.au.length:Int))=false:=by rw [KE.cl];simp
 have q3:(s2.step != s.step)=false:=by rw [KE.st];simp
 have q4:((s2.done.length:Int) != (s.done.length:Int))=false:=by rw [KE.dn];simp
 repeat (first | (refine K.call ?_;refine JO.ld (Ld.aV C1 (qb rfl) rfl (.cons .refl (.cons .refl .nil))) rfl ?_;intro y) | refine gn ?_)
 have CT:=BP b8 y.1 s2 FW
 repeat (first | (refine K.store ?_;refine JO.ld (Ld.aX rfl rfl rfl (by exact rfl) (by exact rfl)) rfl (fun _=>?_)) | (refine K.call ?_;refine JO.ld (Ld.aV CT (qb rfl) rfl (.cons .refl .nil)) rfl ?_;intro _) | refine av ?_ | intro _)
 rename_i nE _;refine J.CH b8 ?_;refine J.eP 1 ?_;refine J.loop (ι:={ k:Nat // k≤s2.gs.length }) (fun q=>[(85,.c (nI q.1)),(84,.c (nI s2.gs.length)),(29,.c (nI g)),(28,.c (nI s.gs.length)),(27,.c (.r 25 (s.gs.map eG))),(10,.c (bI rb)),(7,.c (nI g)),(11,.c (.v (pt nE))),(5,.c (.v (pt b5)))]) (fun _=>[.box nE 36 (az s2),.box b5 36 (az s),.box b2 27 (mO p sn cn d)]) (fun q=>s2.gs.length - q.1) ⟨0,Nat.zero_le _⟩ (fun X h=>h.aW ⟨rfl,rfl,rfl,rfl,rfl,rfl,rfl,rfl,rfl,trivial⟩) (fun q iX=>?_);obtain ⟨h,hh⟩:=q;simp only at hh iX ⊢
 by_cases zT:h < s2.gs.length
 ·have t3:(decide ((h:Int) < (s2.gs.length:Int)))=true:=by simpa using zT
  have mJ:h < s.gs.length:=by have:=KE.gl;omega
  have E1:=iz (s:=s) mJ
  by_cases hc:h=g
  ·have c1:((h:Int) != (g:Int))=false:=by simp [hc]
   repeat (refine gn ?_)
   refine J.draw (by kernel_rfl) rfl ?_;refine JW.base none ?_;refine tk 0 ?_;refine tk 1 ?_;refine JD.take 2 rfl rfl (by kernel_rfl) rfl (qb rfl) (Qt.cmp rfl rfl (congrArg some c1)) rfl ?_;refine tk 3 ?_
   (refine JD.skip 4 rfl rfl (by kernel_rfl) rfl (qb rfl) ?_)
   (refine JD.skip 5 rfl rfl (by kernel_rfl) rfl (qb rfl) ?_)
   (refine JD.skip 6 rfl rfl (by kernel_rfl) rfl (qb rfl) ?_)
   refine JD.skip 7 rfl rfl (by kernel_rfl) rfl (qb rfl) ?_
   (refine JD.skip 8 rfl rfl (by kernel_rfl) rfl (qb rfl) ?_)
   (refine JD.skip 9 rfl rfl (by kernel_rfl) rfl (qb rfl) ?_)
   (refine JD.skip 10 rfl rfl (by kernel_rfl) rfl (qb rfl) ?_)
   (refine JD.skip 11 rfl rfl (by kernel_rfl) rfl (qb rfl) ?_)
   (refine JD.skip 12 rfl rfl (by kernel_rfl) rfl (qb rfl) ?_)
   refine JD.skip 13 rfl rfl (by kernel_rfl) rfl (qb rfl) ?_
   (refine JD.skip 14 rfl rfl (by kernel_rfl) rfl (qb rfl) ?_)
   (refine JD.skip 15 rfl rfl (by kernel_rfl) rfl (qb rfl) ?_)
   (refine JD.skip 16 rfl rfl (by kernel_rfl) rfl (qb rfl) ?_)
   (refine JD.skip 17 rfl rfl (by kernel_rfl) rfl (qb rfl) ?_)
   (refine JD.skip 18 rfl rfl (by kernel_rfl) rfl (qb rfl) ?_)
   (refine JD.skip 19 rfl rfl (by kernel_rfl) rfl (qb rfl) ?_)
   (refine JD.skip 20 rfl rfl (by kernel_rfl) rfl (qb rfl) ?_)
   refine JD.skip 21 rfl rfl (by kernel_rfl) rfl (qb rfl) ?_
   (refine JD.skip 22 rfl rfl (by kernel_rfl) rfl (qb rfl) ?_)
   (refine JD.skip 23 rfl rfl (by kernel_rfl) rfl (qb rfl) ?_)
   (refine JD.skip 24 rfl rfl (by kernel_rfl) rfl (qb rfl) ?_)
   (refine JD.skip 25 rfl rfl (by kernel_rfl) rfl (qb rfl) ?_)
   (refine JD.skip 26 rfl rfl (by kernel_rfl) rfl (qb rfl) ?_)
   refine JD.skip 27 rfl rfl (by kernel_rfl) rfl (qb rfl) ?_
   (refine JD.skip 28 rfl rfl (by kernel_rfl) rfl (qb rfl) ?_)
   (refine JD.skip 29 rfl rfl (by kernel_rfl) rfl (qb rfl) ?_)
   (refine JD.skip 30 rfl rfl (by kernel_rfl) rfl (qb rfl) ?_)
   (refine JD.skip 31 rfl rfl (by kernel_rfl) rfl (qb rfl) ?_)
   (refine JD.skip 32 rfl rfl (by kernel_rfl) rfl (qb rfl) ?_)
   (refine JD.skip 33 rfl rfl (by kernel_rfl) rfl (qb rfl) ?_)
   (refine JD.skip 34 rfl rfl (by kernel_rfl) rfl (qb rfl) ?_)
   (refine JD.skip 35 rfl rfl (by kernel_rfl) rfl (qb rfl) ?_)
   (refine JD.skip 36 rfl rfl (by kernel_rfl) rfl (qb rfl) ?_)
   (refine JD.skip 37 rfl rfl (by kernel_rfl) rfl (qb rfl) ?_)
   (refine JD.skip 38 rfl rfl (by kernel_rfl) rfl (qb rfl) ?_)
   refine JD.skip 39 rfl rfl (by kernel_rfl) rfl (qb rfl) ?_
   (refine JD.skip 40 rfl rfl (by kernel_rfl) rfl (qb rfl) ?_)
   (refine JD.skip 41 rfl rfl (by kernel_rfl) rfl (qb rfl) ?_)
   (refine JD.skip 42 rfl rfl (by kernel_rfl) rfl (qb rfl) ?_)
   (refine JD.skip 43 rfl rfl (by kernel_rfl) rfl (qb rfl) ?_)
   (refine JD.skip 44 rfl rfl (by kernel_rfl) rfl (qb rfl) ?_)
   refine JD.skip 45 rfl rfl (by kernel_rfl) rfl (qb rfl) ?_
   (refine JD.skip 46 rfl rfl (by kernel_rfl) rfl (qb rfl) ?_)
   (refine JD.skip 47 rfl rfl (by kernel_rfl) rfl (qb rfl) ?_)
   (refine JD.skip 48 rfl rfl (by kernel_rfl) rfl (qb rfl) ?_)
   (refine JD.skip 49 rfl rfl (by kernel_rfl) rfl (qb rfl) ?_)
   (refine JD.skip 50 rfl rfl (by kernel_rfl) rfl (qb rfl) ?_)
   (refine JD.skip 51 rfl rfl (by kernel_rfl) rfl (qb rfl) ?_)
   (refine JD.skip 52 rfl rfl (by kernel_rfl) rfl (qb rfl) ?_)
   refine JD.skip 53 rfl rfl (by kernel_rfl) rfl (qb rfl) ?_
   (refine JD.skip 54 rfl rfl (by kernel_rfl) rfl (qb rfl) ?_)
   (refine JD.skip 55 rfl rfl (by kernel_rfl) rfl (qb rfl) ?_)
   (refine JD.skip 56 rfl rfl (by kernel_rfl) rfl (qb rfl) ?_)
   (refine JD.skip 57 rfl rfl (by kernel_rfl) rfl (qb rfl) ?_)
   (refine JD.skip 58 rfl rfl (by kernel_rfl) rfl (qb rfl) ?_)
   refine JD.skip 59 rfl rfl (by kernel_rfl) rfl (qb rfl) ?_
   (refine JD.skip 60 rfl rfl (by kernel_rfl) rfl (qb rfl) ?_)
   (refine JD.skip 61 rfl rfl (by kernel_rfl) rfl (qb rfl) ?_)
   (refine JD.skip 62 rfl rfl (by kernel_rfl) rfl (qb rfl) ?_)
   (refine JD.skip 63 rfl rfl (by kernel_rfl) rfl (qb rfl) ?_)
   (refine JD.skip 64 rfl rfl (by kernel_rfl) rfl (qb rfl) ?_)
   (refine JD.skip 65 rfl rfl (by kernel_rfl) rfl (qb rfl) ?_)
   refine tk 66 ?_;refine bt ?_
   repeat (refine gn ?_)
   exact (iX ⟨h + 1,by omega⟩ (by simp only;omega)).aW ⟨rfl,rfl,rfl,rfl,rfl,rfl,rfl,rfl,rfl,trivial⟩
  ·have c1:((h:Int) != (g:Int))=true:=by simp;omega
   have GE:=KE.G h hc;have E2:=iz (s:=s2) zT;obtain ⟨G1,G2,G3⟩:=GE
   cases rb with
   | true =>
    have E2:(s2.gs.map eG)[((h:Int)).toNat]?=some (eG { aa s2 h with place:=(aa s h).place,at_:=(aa s h).at_ }):=by rw [← G1,← G2];exact E2
    repeat (refine gn ?_)
    refine J.draw (by kernel_rfl) rfl ?_;refine JW.base none ?_;refine tk 0 ?_;refine tk 1 ?_;refine JD.take 2 rfl rfl (by kernel_rfl) rfl (qb rfl) (Qt.cmp rfl rfl (congrArg some c1)) rfl ?_;refine tk 3 ?_;refine tk 4 ?_;refine tk 5 ?_;refine tk 6 ?_
    (refine JD.take 7 rfl rfl (by kernel_rfl) rfl (qb rfl) (Qt.bw rfl rfl (by omega) E2) rfl ?_)
    refine tk 8 ?_;refine tk 9 ?_;refine tk 10 ?_;refine tk 11 ?_;refine tk 12 ?_
    (refine JD.take 13 rfl rfl (by kernel_rfl) rfl (qb rfl) (Qt.bw rfl rfl (by omega) E1) rfl ?_)
    refine tk 14 ?_;refine tk 15 ?_
    (refine JD.take 16 rfl rfl (by kernel_rfl) rfl (qb rfl) (Qt.iP rfl rfl) rfl ?_)
    refine tk 17 ?_;refine tk 18 ?_;refine tk 19 ?_;refine tk 20 ?_
    (refine JD.take 21 rfl rfl (by kernel_rfl) rfl (qb rfl) (Qt.bw rfl rfl (by omega) E2) rfl ?_)
    refine tk 22 ?_;refine tk 23 ?_;refine tk 24 ?_;refine tk 25 ?_;refine tk 26 ?_
    (refine JD.take 27 rfl rfl (by kernel_rfl) rfl (qb rfl) (Qt.bw rfl rfl (by omega) E1) rfl ?_)
    refine tk 28 ?_;refine tk 29 ?_
    (refine JD.take 30 rfl rfl (by kernel_rfl) rfl (qb rfl) (Qt.iP rfl rfl) rfl ?_)
    refine tk 31 ?_;refine tk 32 ?_;refine tk 33 ?_;refine tk 34 ?_;refine tk 35 ?_
    (refine JD.skip 36 rfl rfl (by kernel_rfl) rfl (qb rfl) ?_)
    (refine JD.skip 37 rfl rfl (by kernel_rfl) rfl (qb rfl) ?_)
    (refine JD.skip 38 rfl rfl (by kernel_rfl) rfl (qb rfl) ?_)
    (refine JD.skip 39 rfl rfl (by kernel_rfl) rfl (qb rfl) ?_)
    (refine JD.skip 40 rfl rfl (by kernel_rfl) rfl (qb rfl) ?_)
    (refine JD.skip 41 rfl rfl (by kernel_rfl) rfl (qb rfl) ?_)
    (refine JD.skip 42 rfl rfl (by kernel_rfl) rfl (qb rfl) ?_)
    (refine JD.skip 43 rfl rfl (by kernel_rfl) rfl (qb rfl) ?_)
    (refine JD.skip 44 rfl rfl (by kernel_rfl) rfl (qb rfl) ?_)
    (refine JD.skip 45 rfl rfl (by kernel_rfl) rfl (qb rfl) ?_)
    (refine JD.skip 46 rfl rfl (by kernel_rfl) rfl (qb rfl) ?_)
    (refine JD.skip 47 rfl rfl (by kernel_rfl) rfl (qb rfl) ?_)
    (refine JD.skip 48 rfl rfl (by kernel_rfl) rfl (qb rfl) ?_)
    (refine JD.skip 49 rfl rfl (by kernel_rfl) rfl (qb rfl) ?_)
    (refine JD.skip 50 rfl rfl (by kernel_rfl) rfl (qb rfl) ?_)
    (refine JD.skip 51 rfl rfl (by kernel_rfl) rfl (qb rfl) ?_)
    (refine JD.skip 52 rfl rfl (by kernel_rfl) rfl (qb rfl) ?_)
    (refine JD.skip 53 rfl rfl (by kernel_rfl) rfl (qb rfl) ?_)
    (refine JD.skip 54 rfl rfl (by kernel_rfl) rfl (qb rfl) ?_)
    (refine JD.skip 55 rfl rfl (by kernel_rfl) rfl (qb rfl) ?_)
    (refine JD.skip 56 rfl rfl (by kernel_rfl) rfl (qb rfl) ?_)
    (refine JD.skip 57 rfl rfl (by kernel_rfl) rfl (qb rfl) ?_)
    (refine JD.skip 58 rfl rfl (by kernel_rfl) rfl (qb rfl) ?_)
    (refine JD.skip 59 rfl rfl (by kernel_rfl) rfl (qb rfl) ?_)
    (refine JD.skip 60 rfl rfl (by kernel_rfl) rfl (qb rfl) ?_)
    (refine JD.skip 61 rfl rfl (by kernel_rfl) rfl (qb rfl) ?_)
    (refine JD.skip 62 rfl rfl (by kernel_rfl) rfl (qb rfl) ?_)
    (refine JD.skip 63 rfl rfl (by kernel_rfl) rfl (qb rfl) ?_)
    refine tk 64 ?_;refine tk 65 ?_;refine tk 66 ?_;refine bt ?_
    repeat (refine gn ?_)
    exact (iX ⟨h + 1,by omega⟩ (by simp only;omega)).aW ⟨rfl,rfl,rfl,rfl,rfl,rfl,rfl,rfl,rfl,trivial⟩
   | false =>
    obtain ⟨G4,G5⟩:=G3 rfl;have E2:(s2.gs.map eG)[((h:Int)).toNat]?=some (eG { aa s2 h with place:=(aa s h).place,at_:=(aa s h).at_,status:=(aa s h).status,token:=(aa s h).token }):=by rw [← G1,← G2,← G4,← G5];exact E2
    repeat (refine gn ?_)
    refine J.draw (by kernel_rfl) rfl ?_;refine JW.base none ?_;refine tk 0 ?_;refine tk 1 ?_;refine JD.take 2 rfl rfl (by kernel_rfl) rfl (qb rfl) (Qt.cmp rfl rfl (congrArg some c1)) rfl ?_;refine tk 3 ?_;refine tk 4 ?_;refine tk 5 ?_;refine tk 6 ?_
    (refine JD.take 7 rfl rfl (by kernel_rfl) rfl (qb rfl) (Qt.bw rfl rfl (by omega) E2) rfl ?_)
    refine tk 8 ?_;refine tk 9 ?_;refine tk 10 ?_;refine tk 11 ?_;refine tk 12 ?_
    (refine JD.take 13 rfl rfl (by kernel_rfl) rfl (qb rfl) (Qt.bw rfl rfl (by omega) E1) rfl ?_)
    refine tk 14 ?_;refine tk 15 ?_
    (refine JD.take 16 rfl rfl (by kernel_rfl) rfl (qb rfl) (Qt.iP rfl rfl) rfl ?_)
    refine tk 17 ?_;refine tk 18 ?_;refine tk 19 ?_;refine tk 20 ?_
    (refine JD.take 21 rfl rfl (by kernel_rfl) rfl (qb rfl) (Qt.bw rfl rfl (by omega) E2) rfl ?_)
    refine tk 22 ?_;refine tk 23 ?_;refine tk 24 ?_;refine tk 25 ?_;refine tk 26 ?_
    (refine JD.take 27 rfl rfl (by kernel_rfl) rfl (qb rfl) (Qt.bw rfl rfl (by omega) E1) rfl ?_)
    refine tk 28 ?_;refine tk 29 ?_
    (refine JD.take 30 rfl rfl (by kernel_rfl) rfl (qb rfl) (Qt.iP rfl rfl) rfl ?_)
    refine tk 31 ?_;refine tk 32 ?_;refine tk 33 ?_;refine tk 34 ?_;refine tk 35 ?_;refine tk 36 ?_;refine tk 37 ?_;refine tk 38 ?_
    (refine JD.take 39 rfl rfl (by kernel_rfl) rfl (qb rfl) (Qt.bw rfl rfl (by omega) E2) rfl ?_)
    refine tk 40 ?_;refine tk 41 ?_;refine tk 42 ?_;refine tk 43 ?_;refine tk 44 ?_
    (refine JD.take 45 rfl rfl (by kernel_rfl) rfl (qb rfl) (Qt.bw rfl rfl (by omega) E1) rfl ?_)
    refine tk 46 ?_;refine tk 47 ?_
    (refine JD.take 48 rfl rfl (by kernel_rfl) rfl (qb rfl) (Qt.iP rfl rfl) rfl ?_)
    refine tk 49 ?_;refine tk 50 ?_;refine tk 51 ?_;refine tk 52 ?_
    (refine JD.take 53 rfl rfl (by kernel_rfl) rfl (qb rfl) (Qt.bw rfl rfl (by omega) E2) rfl ?_)
    refine tk 54 ?_;refine tk 55 ?_;refine tk 56 ?_;refine tk 57 ?_;refine tk 58 ?_
    (refine JD.take 59 rfl rfl (by kernel_rfl) rfl (qb rfl) (Qt.bw rfl rfl (by omega) E1) rfl ?_)
    refine tk 60 ?_;refine tk 61 ?_
    (refine JD.take 62 rfl rfl (by kernel_rfl) rfl (qb rfl) (Qt.wZ rfl rfl) rfl ?_)
    refine tk 63 ?_;refine tk 64 ?_;refine tk 65 ?_;refine tk 66 ?_;refine bt ?_
    repeat (refine gn ?_)
    exact (iX ⟨h + 1,by omega⟩ (by simp only;omega)).aW ⟨rfl,rfl,rfl,rfl,rfl,rfl,rfl,rfl,rfl,trivial⟩
 ·have t3:(decide ((h:Int) < (s2.gs.length:Int)))=false:=by simpa using zT
  repeat (refine gn ?_)
  refine J.loop (ι:={ k:Nat // k≤s2.au.length }) (fun q=>[(159,.c (nI q.1)),(158,.c (nI s2.au.length)),(29,.c (nI g)),(28,.c (nI s.gs.length)),(27,.c (.r 25 (s.gs.map eG))),(7,.c (nI g)),(11,.c (.v (pt nE))),(5,.c (.v (pt b5)))]) (fun _=>[.box nE 36 (az s2),.box b5 36 (az s),.box b2 27 (mO p sn cn d)]) (fun q=>s2.au.length - q.1) ⟨0,Nat.zero_le _⟩ (fun X h=>h.aW ⟨rfl,rfl,rfl,rfl,rfl,rfl,rfl,rfl,trivial⟩) (fun q IJ=>?_);obtain ⟨k,hkc⟩:=q;simp only at hkc IJ ⊢
  by_cases aQ:k < s2.au.length
  ·have t4:(decide ((k:Int) < (s2.au.length:Int)))=true:=by simpa using aQ
   have br:k < s.au.length:=by have:=KE.cl;omega
   have A1:=O5 (s:=s) br;have A2:=O5 (s:=s2) aQ;have w1:IntKind.i64.wrap ((k:Int) + 1)=(k:Int) + 1:=eL (by omega) (by omega)
   cases hc:(((k:Int) + 1) != (ag s g).ch) with
   | true =>
    rw [KE.C k (by simpa using hc)] at A2
    repeat (refine gn ?_)
    refine J.draw (by kernel_rfl) rfl ?_;refine JW.base none ?_;refine tk 0 ?_;refine tk 1 ?_;refine tk 2 ?_;refine JD.take 3 rfl rfl (by kernel_rfl) rfl (qb rfl) (Qt.bw rfl rfl (by omega) A2) rfl ?_;refine tk 4 ?_;refine tk 5 ?_;refine tk 6 ?_;refine tk 7 ?_;refine JD.take 8 rfl rfl (by kernel_rfl) rfl (qb rfl) (Qt.bw rfl rfl (by omega) A1) rfl ?_;refine tk 9 ?_;refine JD.cU (i:=10) (j:=11) (by kernel_rfl) ?_ ?_;refine JS.cz rfl rfl rfl (qb rfl) (Ld.alloc (qb rfl)) .none (fun _=>?_);refine jl 11 rfl rfl rfl rfl (Ld.alloc (qb rfl)) .none (fun _=>?_);refine JD.bJ (i:=12) (by kernel_rfl) ?_
    (refine JS.st rfl rfl rfl (Ld.aX rfl rfl rfl (by exact rfl) (by exact rfl)) (by (exact .box (by repeat (first | exact .refl | refine .cons ?_)))) (fun _=>?_))
    refine JD.bJ (i:=13) (by kernel_rfl) ?_
    (refine JS.st rfl rfl rfl (Ld.aX rfl rfl rfl (by exact rfl) (by exact rfl)) (by (exact .box (by repeat (first | exact .refl | refine .cons ?_)))) (fun _=>?_))
    refine bt ?_
    rotate_left
    refine JS.cz rfl rfl rfl (qb rfl) (Ld.alloc (qb rfl)) .none (fun _=>?_);refine jl 10 rfl rfl rfl rfl (Ld.alloc (qb rfl)) .none (fun _=>?_);refine JD.bJ (i:=12) (by kernel_rfl) ?_
    (refine JS.st rfl rfl rfl (Ld.aX rfl rfl rfl (by exact rfl) (by exact rfl)) (by (exact .box (by repeat (first | exact .refl | refine .cons ?_)))) (fun _=>?_))
    refine JD.bJ (i:=13) (by kernel_rfl) ?_
    (refine JS.st rfl rfl rfl (Ld.aX rfl rfl rfl (by exact rfl) (by exact rfl)) (by (exact .box (by repeat (first | exact .refl | refine .cons ?_)))) (fun _=>?_))
    refine bt ?_
    rotate_left
    all_goals
     repeat (first | (refine K.binOp ?_;first | refine jq rfl rfl rfl ((Qt.dj rfl rfl rfl w1)) ?_ | refine jq rfl rfl rfl (Qt.iP rfl rfl) ?_ | refine jq rfl rfl rfl (Qt.wZ rfl rfl) ?_) | refine gn ?_)
     refine J.eP 0 ?_;refine J.eP 0 ?_;exact (IJ ⟨k + 1,by omega⟩ (by simp only;omega)).aW ⟨rfl,rfl,rfl,rfl,rfl,rfl,rfl,rfl,trivial⟩
   | false =>
    repeat (refine gn ?_)
    refine J.draw (by kernel_rfl) rfl ?_;refine JW.base none ?_;refine tk 0 ?_;refine tk 1 ?_;refine tk 2 ?_;refine JD.take 3 rfl rfl (by kernel_rfl) rfl (qb rfl) (Qt.bw rfl rfl (by omega) A2) rfl ?_;refine tk 4 ?_;refine tk 5 ?_;refine tk 6 ?_;refine tk 7 ?_;refine JD.take 8 rfl rfl (by kernel_rfl) rfl (qb rfl) (Qt.bw rfl rfl (by omega) A1) rfl ?_;refine tk 9 ?_;refine JD.cU (i:=10) (j:=11) (by kernel_rfl) ?_ ?_;refine JS.cz rfl rfl rfl (qb rfl) (Ld.alloc (qb rfl)) .none (fun _=>?_);refine jl 11 rfl rfl rfl rfl (Ld.alloc (qb rfl)) .none (fun _=>?_);refine JD.bJ (i:=12) (by kernel_rfl) ?_
    (refine JS.st rfl rfl rfl (Ld.aX rfl rfl rfl (by exact rfl) (by exact rfl)) (by (exact .box (by repeat (first | exact .refl | refine .cons ?_)))) (fun _=>?_))
    refine JD.bJ (i:=13) (by kernel_rfl) ?_
    (refine JS.st rfl rfl rfl (Ld.aX rfl rfl rfl (by exact rfl) (by exact rfl)) (by (exact .box (by repeat (first | exact .refl | refine .cons ?_)))) (fun _=>?_))
    refine bt ?_
    rotate_left
    refine JS.cz rfl rfl rfl (qb rfl) (Ld.alloc (qb rfl)) .none (fun _=>?_);refine jl 10 rfl rfl rfl rfl (Ld.alloc (qb rfl)) .none (fun _=>?_);refine JD.bJ (i:=12) (by kernel_rfl) ?_
    (refine JS.st rfl rfl rfl (Ld.aX rfl rfl rfl (by exact rfl) (by exact rfl)) (by (exact .box (by repeat (first | exact .refl | refine .cons ?_)))) (fun _=>?_))
    refine JD.bJ (i:=13) (by kernel_rfl) ?_
    (refine JS.st rfl rfl rfl (Ld.aX rfl rfl rfl (by exact rfl) (by exact rfl)) (by (exact .box (by repeat (first | exact .refl | refine .cons ?_)))) (fun _=>?_))
    refine bt ?_
    rotate_left
    all_goals
     repeat (first | (refine K.binOp ?_;refine jq rfl rfl rfl ((Qt.dj rfl rfl rfl w1)) ?_) | refine gn ?_)
     refine J.eP 0 ?_;refine J.eP 0 ?_;exact (IJ ⟨k + 1,by omega⟩ (by simp only;omega)).aW ⟨rfl,rfl,rfl,rfl,rfl,rfl,rfl,rfl,trivial⟩
  ·have t4:(decide ((k:Int) < (s2.au.length:Int)))=false:=by simpa using aQ
   repeat (refine gn ?_)
   refine J.eP 0 ?_;exact (ih ⟨g + 1,by omega⟩ (by simp only;omega)).aW ⟨rfl,rfl,rfl,rfl,trivial⟩
theorem aad (w:World) (cs:Array Value) (a:sy) (U:List Nat) (sz:cs.size=4) (he:qP w cs.toList a U) (oc:∀ y∈cs.toList,y.oneCell'=true) (v:Value) (l:List Int) (S:List Nat) (hl:GV (kf .i64) 1 w v l S) :
  Calls prog 11 #[.agg cs,v] w fun e w'=>e=.returned (.bool true)∧aq [] w w' :=
 ID (aaa a.p a.sn a.cn a.d l (Hs he)) he hl
end Fl
end Go.Proofs.YtofnbflkhgammaaGreat
