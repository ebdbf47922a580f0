/-
  What the laws need, part S2.
  Conditions: none.
-/
import Derived.Test.YtgjpdogjekmemaaGreatS1
import Derived.Laws.CopyRow
import Derived.Laws.OwnMore
import Derived.OwnWalk
import Derived.ProofKit
set_option linter.unusedVariables false
set_option linter.unusedSimpArgs false
set_option linter.unnecessarySimpa false
set_option maxHeartbeats 2000000
namespace Go.Proofs.YtgjpdogjekmemaaGreat
open Go.RowKit
namespace Fl
theorem RX.take {ok:Nat→Prop} {w:World} {sz:Nat}:∀ (n:Nat) {l:List (List A)} {xs:List Value},RX ok w sz l xs→RX ok w sz (l.take n) (xs.take (n * sz))
 | 0,l,xs,h=>by simp [RX]
 | n + 1,[],xs,h=>by unfold RX at h;subst h;simp [RX]
 | n + 1,cs :: l,xs,h=>by
  obtain ⟨vs,ys,rfl,h2,h3,h4⟩:=h;have e1:(vs ++ ys).take ((n + 1) * sz)=vs ++ ys.take (n * sz):=by
   rw [List.take_append,List.take_of_length_le (by rw [h2,Nat.add_mul];omega),h2]
   congr 2;rw [Nat.add_mul];omega
  rw [e1];exact ⟨vs,_,rfl,h2,h3,RX.take n h4⟩
theorem RX.drop {ok:Nat→Prop} {w:World} {sz:Nat}:∀ (n:Nat) {l:List (List A)} {xs:List Value},RX ok w sz l xs→RX ok w sz (l.drop n) (xs.drop (n * sz))
 | 0,l,xs,h=>by simpa using h
 | n + 1,[],xs,h=>by unfold RX at h;subst h;simp [RX]
 | n + 1,cs :: l,xs,h=>by
  obtain ⟨vs,ys,rfl,h2,h3,h4⟩:=h;have e1:(vs ++ ys).drop ((n + 1) * sz)=ys.drop (n * sz):=by
   rw [List.drop_append,List.drop_of_length_le (by rw [h2,Nat.add_mul];omega),h2];simp only [List.nil_append]
   congr 1;rw [Nat.add_mul];omega
  rw [e1];exact RX.drop n h4
section
variable {P:Program} {c:Cx} {k:List Item} {f:Fm} {L:List ak} {ops:Array Oper} {T X:TypeId} {ps:String} {af:Array Edge} {gd:Option (Nat × Bool)} {t:Nat}
theorem Hr {x:Operand} {lo hi:Option Operand} {e sz j:Nat} {v:Value} {l l':List (List A)} {L':List ak} {m n:Int} [i:dQ P X e sz] [bx:eY L v e sz l j] [er:jK L j L'] (ht:t < c.N) (h:aP f x=some (.c (.v v))) (yy:l9 f lo 0=some m) (yz:l9 f hi l.length=some n) (h1:0≤m) (h2:m≤n) (h3:n≤l.length) (hl:(l.take n.toNat).drop m.toNat=l') :
  Ld P c ⟨some t,.slice X x lo hi none,T,ps,af,gd⟩ f L (cH v) (fun v':Value=>(t,.c (.v v')) :: f) (fun v'=>.row v' e sz l' :: L'):=Ld.perm (yF bx.h er.h) ⟨fun a w s K Q hK=>by
 subst hl;have rx:=s.val h;obtain ⟨xs,r1,r2⟩:=s.res _ (List.mem_cons_self ..);have ap:=List.pairwise_cons.1 s.ap;obtain ⟨h0,ao,cap,hx,g1,g2,g3⟩:=r1;have hn:n.toNat≤l.length:=by omega
 have yA:∀ w,(match lo.map a.eval with | some v=>Instr.sliceBound v n.toNat .sliceB | none=>pure 0:Sem Nat).run P w=.ok m.toNat w:=fun w=>by
  rcases l9.run s yy with ⟨rfl,rfl⟩ | ⟨y,kd,rfl,hy⟩
  ·simp
  ·simp only [Option.map_some,hy,Instr.sliceBound,asIntOf,Sem.run_bind,Sem.run_pure,Result.andThen_ok];rw [if_pos ⟨h1,by omega⟩];rfl
 have yB:∀ w,(match hi.map a.eval,(none:Option Value) with | some v,some _=>Instr.sliceBound v cap .slice3B | some v,none=>Instr.sliceBound v cap (if true then .sliceAcap else .sliceAlen) | none,none=>pure l.length | none,some _=>stuck "Slice: max without high":Sem Nat).run P w=.ok n.toNat w:=fun w=>by
  rcases l9.run s yz with ⟨rfl,rfl⟩ | ⟨y,kd,rfl,hy⟩
  ·simp
  ·simp only [Option.map_some,hy,Instr.sliceBound,asIntOf,Sem.run_bind,Sem.run_pure,Result.andThen_ok];rw [if_pos ⟨by omega,by omega⟩];rfl
 have yC:∀ w,(Instr.sliceBounds true l.length cap (lo.map a.eval) (hi.map a.eval) none).run P w=.ok (m.toNat,n.toNat,cap) w:=fun w=>by
  unfold Instr.sliceBounds;simp only [Sem.run_bind,Sem.run_pure,Result.andThen_ok,Option.isSome_none,Bool.false_eq_true,↓reduceIte];have a1:=yB w;have a2:=yA w
  cases yD:hi.map a.eval <;> cases yE:lo.map a.eval <;> rw [yD] at a1 <;> rw [yE] at a2 <;> simp only [↓reduceIte,Sem.run_pure,Result.ok.injEq,and_true] at a1 a2 <;> simp [Sem.run_bind,a1,a2]
 have eL:(execOp a.eval ⟨some t,.slice X x lo hi none,T,ps,af,gd⟩).run P w=.ok (.value (.slice (if cap=m.toNat then ao else ao.map (·.add (m.toNat * sz))) (n.toNat - m.toNat) (cap - m.toNat))) w:=by
  simp only [execOp,Option.map_none,Instr.sliceAt,Instr.slice,rx,hx,Sem.run_bind,run_underlying (kD.jI i.h),Result.andThen_ok,yC,iD.run i.s,Sem.run_pure]
 have hlen:((l.take n.toNat).drop m.toNat).length=n.toNat - m.toNat:=by simp [hn]
 have hf:cH (.slice (if cap=m.toNat then ao else ao.map (·.add (m.toNat * sz))) (n.toNat - m.toNat) (cap - m.toNat))=cH v:=by
  subst hx
  cases ao with
  | none=>simp [cH]
  | some A=>split <;> simp [cH,Addr.add] <;> split <;> rfl
 have hR:(ak.row (.slice (if cap=m.toNat then ao else ao.map (·.add (m.toNat * sz))) (n.toNat - m.toNat) (cap - m.toNat)) e sz ((l.take n.toNat).drop m.toNat)).holds (aZ c (.row v e sz l :: L')) w:=by
  refine ⟨(xs.take (n.toNat * sz)).drop (m.toNat * sz),?_,(r2.take n.toNat).drop m.toNat⟩;rw [hf,hlen];refine ⟨?_,_,_,rfl,by omega,by omega,?_⟩
  ·have:=((r2.take n.toNat).drop m.toNat).len;rw [this,hlen]
  ·rcases g3 with ⟨rfl,g4,g5,g6⟩ | ⟨g,off,cur,rfl,g5,g6,g7,g8⟩
   ·exact .inl ⟨by simp,by omega,by omega,g6⟩
   ·by_cases hc:cap=m.toNat
    ·refine .inr ⟨g,off,cur,by rw [if_pos hc],g5,g6,by rw [hc];have:off≤off + cap * sz:=Nat.le_add_right _ _;simp;omega,fun q hq=>?_⟩;have lZ:=((r2.take n.toNat).drop m.toNat).len;rw [lZ,hlen,show n.toNat - m.toNat=0 by omega] at hq;omega
    ·refine .inr ⟨g,off + m.toNat * sz,cur,by rw [if_neg hc];simp [Addr.add_mid],g5,g6,?_,fun q hq=>?_⟩
     ·have e1:m.toNat * sz + (cap - m.toNat) * sz=cap * sz:=by rw [← Nat.add_mul];congr 1;omega
      omega
     ·have rJ:q < xs.length:=by
       have:=hq;simp only [List.length_drop,List.length_take] at this;omega
      have Hs:m.toNat * sz + q < n.toNat * sz:=by
       have:=hq;simp only [List.length_drop,List.length_take] at this;omega
      have Ht:m.toNat * sz + q < xs.length:=by
       have:=hq;simp only [List.length_drop,List.length_take] at this;omega
      rw [List.getElem?_drop,List.getElem?_take,if_pos Hs,← g8 _ Ht]
      congr 1;omega
 have ho:aZ c (.row (.slice (if cap=m.toNat then ao else ao.map (·.add (m.toNat * sz))) (n.toNat - m.toNat) (cap - m.toNat)) e sz ((l.take n.toNat).drop m.toNat) :: L')=aZ c (.row v e sz l :: L'):=by
  funext x;unfold aZ;simp only [iV,ak.bR,hf]
 unfold Oper.wp;rw [eL];refine hK _ _ w (aE.refl _ _) (s.put ht (by unfold RD RA;exact ⟨rfl,rfl⟩) s.kp (fun q hq=>?_) (fun y hy=>s.ez y ?_) ?_ (by rw [ho];exact Mon.refl _ _)) (fun y hy=>.inl ?_)
 ·rw [ho];rcases List.mem_cons.1 hq with rfl | hq
  ·exact hR
  ·exact s.res q (List.mem_cons_of_mem _ hq)
 ·rw [iV,ak.bR,hf] at hy;exact (iV _ _ _).2 hy
 ·exact List.pairwise_cons.2 ⟨fun q hq y hy Hu=>ap.1 q hq y (by rw [ak.bR,hf] at hy;exact hy) Hu,ap.2⟩
 ·rw [iV,ak.bR,hf] at hy;exact (iV _ _ _).2 hy⟩
theorem J.join {I:Item} {ι:Type} (f':ι→Fm) (L':ι→List ak) (rest:∀ x,J P c k (f' x) (L' x)) (h:(∀ x,J P c k (f' x) (L' x))→J P c (I :: k) f L):J P c (I :: k) f L:=h rest
theorem J.BE (t u n:Nat) {v:Value} {e sz i j b o B:Nat} {ll:List (List A)} {cs:List A} {L1 L2:List ak} [r:eY L v e sz ll i] [bx:j4 L b B cs j] [st:jJ L j (.box b B (cs.set n (.r sz ll))) L1] [er:jK L1 i L2] (h1:look f t=some (.c (.v v))) (h2:look f u=some (.c (.v (.pointer (some ⟨b,o,none⟩))))) (hc:cs[n]?=some (.v v)) (h:J P c k f L2):J P c k f L :=
 J.rH i j n r.h bx.h hc (by rw [st.h,er.h];exact h)
theorem J.BF (t:Nat) {v:Value} {e sz i:Nat} {ll:List (List A)} {L2:List ak} [r:eY L v e sz ll i] [er:jK L i L2] (h1:look f t=some (.c (.v v))) (h:J P c k f (.row v e sz ll :: L2)):J P c k f L :=
 J.pull i r.h (by rw [er.h];exact h)
theorem J.eI (i:Nat) {L2:List ak} [er:jK L i L2] (h:J P c k f L2):J P c k f L:=J.drop i (by rw [er.h];exact h)
end
class tT (L:List ak) (d:D) (j:outParam Nat):Prop where h:True
instance tT.box {L:List ak} {b o B j:Nat} {cs:List A} [j4 L b B cs j]:tT L (.c (.v (.pointer (some ⟨b,o,none⟩)))) j:=⟨trivial⟩
instance tT.row {L:List ak} {v:Value} {e sz j:Nat} {l:List (List A)} [eY L v e sz l j]:tT L (.c (.v v)) j:=⟨trivial⟩
section
variable {P:Program} {c:Cx} {k:List Item} {f:Fm} {L:List ak} {ops:Array Oper} {n:Nat} {aH:Array Bool}
theorem Gx.mono {S S':World→Prop} {md:Region.Mode} {Q:Exit→Act→World→Prop} {m:Option Nat} (hS:∀ w,S' w→S w):∀ (n:Nat) (aH:Array Bool) (a:Act) (w:World),Gx P md ops Q S' m n aH a w→Gx P md ops Q S m n aH a w
 | 0,_,_,_,h=>h
 | n + 1,_,_,_,h=>⟨h.1,fun i hi=>wpOp_mono (fun a' w' h'=>h'.elim .inl (fun h'=>.inr ⟨hS _ h'.1,Gx.mono hS n _ _ _ h'.2⟩)) (h.2 i hi)⟩
theorem JD.jN {m:Option Nat} {T:List Nat} {f0:Fm} {L0:List ak} (h:JD P c ops m [] n aH k f L f L):JD P c ops m T n aH k f L f0 L0:=⟨fun a w w0 s s0 kp ho =>
 Gx.mono (fun w' h'=>kp.trans h' (fun x hx=>by simp [iE] at hx)) _ _ _ _ (h.go a w w s s (aE.refl _ _) (fun x hx=>.inl hx))⟩
theorem JW.tU (m:Option Nat) (x:Operand) {d:D} {j:Nat} (hx:aP f x=some d) [tT L d j] (h:JD P c ops m [j] n aH k f L f L):JW P c ops n aH k f L:=JW.gw _ _ h
end
end Fl
open Go.RowKit
namespace Fl
section
variable {P:Program} {ops:Array Oper} {Q:Exit→Act→World→Prop} {md:Region.Mode} {S:World→Prop}
def reach (md:Region.Mode) (ops:Array Oper) (aH:Array Bool):Nat→Nat→Nat→Bool
 | 0,m,i=>waitsFor md ops m i
 | n + 1,m,i=>waitsFor md ops m i || match ops[m]? with
  | none=>false
  | some o=>o.after.any (fun e=>Region.binds md e && !(aH.getD e.on false) && reach md ops aH n e.on i)
theorem BG {aH:Array Bool} {m i:Nat} (hr:i∈Region.ready md ops aH) (hw:waitsFor md ops m i=true):m∉Region.ready md ops aH:=fun hm=>by
 obtain ⟨_,oj,kX,nM⟩:=mem_ready.1 hm;have mV:=xW hr nM;unfold waitsFor at hw;rw [kX] at hw;obtain ⟨x,hx,hp⟩:=Array.any_eq_true'.1 hw;simp only [Bool.and_eq_true,beq_iff_eq] at hp;exact mV x hx hp.2 hp.1
theorem BH {aH:Array Bool} {i:Nat} (hr:i∈Region.ready md ops aH):∀ (n m:Nat),reach md ops aH n m i=true→m∉Region.ready md ops aH
 | 0,m,h=>BG hr h
 | n + 1,m,h=>fun hm=>by
  unfold reach at h;rw [Bool.or_eq_true] at h;rcases h with h | h
  ·exact BG hr h hm
  ·obtain ⟨_,oj,kX,nM⟩:=mem_ready.1 hm;rw [kX] at h;obtain ⟨x,hx,hp⟩:=Array.any_eq_true'.1 h;simp only [Bool.and_eq_true,Bool.not_eq_true'] at hp;have:=nM x hx hp.1.1;rw [hp.1.2] at this
   cases this
theorem BI {aH:Array Bool} {i j:Nat} (hr:i∈Region.ready md ops aH) (hj:j∈Region.ready md ops aH):∀ (n m:Nat),reach md ops aH n m i=true→reach md ops (aH.setIfInBounds j true) n m i=true
 | 0,m,h=>h
 | n + 1,m,h=>by
  unfold reach at h ⊢;rw [Bool.or_eq_true] at h ⊢;rcases h with h | h
  ·exact .inl h
  ·refine .inr ?_
   cases ho:ops[m]? with
   | none=>rw [ho] at h;cases h
   | some o =>
    rw [ho] at h;obtain ⟨x,hx,hp⟩:=Array.any_eq_true'.1 h;simp only [Bool.and_eq_true,Bool.not_eq_true'] at hp;have cq:j≠x.on:=fun e=>BH hr n x.on hp.2 (e ▸ hj)
    refine Array.any_eq_true'.2 ⟨x,hx,?_⟩;simp only [Bool.and_eq_true,Bool.not_eq_true'];exact ⟨⟨hp.1.1,by rw [getD_set_ne false cq];exact hp.1.2⟩,BI hr hj n x.on hp.2⟩
def yG (md:Region.Mode) (ops:Array Oper) (m:Option Nat) (aH:Array Bool) (i:Nat):Bool:=match m with
 | none=>true
 | some j=>reach md ops aH ops.size j i
theorem Gx.BJ {m:Option Nat} {i:Nat} {oi:Oper} {v:Value} (hi:ops[i]?=some oi) (qh:∀ (j:Nat) (o:Oper) cs b,ops[j]?=some o→o.op≠.select cs b) (hQ:∀ c a w,Q (.panic c) (a.put oi.dst v) w→Q (.panic c) a w) :
  ∀ (n:Nat) (aH:Array Bool) (a:Act) (w:World),yG md ops m aH i=true→(∀ (j:Nat) oj,ops[j]?=some oj→j≠i→aH.getD j true=false→(∀ e∈oj.after,Region.binds md e=true→e.on≠i)→oi.apart ops oj=true) →
   i∈Region.ready md ops aH→YieldsIf P ops S oi v a→S w→Gx P md ops Q S m n (aH.setIfInBounds i true) (a.put oi.dst v) w→Gx P md ops Q S m (n + 1) aH a w
 | n,aH,a,w,hm,tJ,hr,hy,hS,H=>by
  refine ⟨fun h=>(by rw [h] at hr;cases hr),fun j hj=>?_⟩
  by_cases jL:j=i
  ·subst jL;exact hy.wpOp hi hS (.inr ⟨hS,H⟩)
  ·cases n with
   | zero =>
    have:=ready_mono hj jL;rw [H.1] at this
    cases this
   | succ n =>
    obtain ⟨tK,oj,kX,nM⟩:=mem_ready.1 hj;have mV:=xW hr nM;have mW:some j≠m:=fun e=>by
     subst e;exact BH hr _ _ hm hj
    have cu:yG md ops m (aH.setIfInBounds j true) i=true:=by
     cases m with
     | none=>rfl
     | some q=>exact BI hr hj _ _ hm
    have h2:=wpOp_putIf kX (tJ j oj kX jL tK mV) (fun cs b=>qh i oi cs b hi) (fun cs b=>qh j oj cs b kX) hQ hy (H.2 j (ready_mono hj jL));have iX:i∈Region.ready md ops (aH.setIfInBounds j true):=ready_mono hr (Ne.symm jL);refine wpOp_mono (fun a' w' h3=>?_) h2;have yq:=Array.setIfInBounds_comm (xs:=aH) true true jL;obtain ⟨h4,h5⟩:S w'∧_:=h3.2.resolve_left (fun h=>mW h.1);exact .inr ⟨h4,Gx.BJ hi qh hQ n (aH.setIfInBounds j true) a' w' cu (fun k ok hk yt tM mV=>by
     refine tJ k ok hk yt ?_ mV
     by_cases tN:j=k
     ·subst tN;exact tK
     ·rw [getD_set_ne true tN] at tM;exact tM) iX h3.1 h4 (by rw [yq];exact h5)⟩
end
def BK (md:Region.Mode) (ops:Array Oper) (m:Option Nat) (aH:Array Bool) (i:Nat):Bool :=
 Region.noSelect ops && Region.free md ops aH i && (Region.ready md ops aH).contains i && yG md ops m aH i
section
variable {P:Program} {c:Cx} {k:List Item} {f f0:Fm} {L L0:List ak} {ops:Array Oper} {n:Nat} {aH:Array Bool} {m:Option Nat} {T:List Nat} {o:Oper}
theorem JD.j7 (i:Nat) {t:Nat} {d:D} {U:List Nat} (hi:ops[i]?=some o) (hd:o.dst=some t) (hk:BK .any ops m aH i=true) (hw:c7 ops o f0=true) (ht:t < c.N) (q:Qt P c U o f0 L0 d) (hu:(U.all fun j=>!T.contains j)=true) (h:JD P c ops m T n (aH.setIfInBounds i true) k ((t,d) :: f) L ((t,d) :: f0) L0):JD P c ops m T (n + 1) aH k f L f0 L0:=⟨fun a w w0 s s0 kp ho=>by
 obtain ⟨v,h1,h2⟩:=q.go a w0 s0;unfold BK at hk;simp only [Bool.and_eq_true] at hk;obtain ⟨⟨⟨k1,k2⟩,k3⟩,k4⟩:=hk;have m1:Mon (aZ c L0) (aZ c L) w0 w:=Mon.ju kp fun g hg eZ=>⟨⟨eZ.1,fun hx=>by rcases ho g hx with h | h;exact eZ.2 h;omega⟩,fun hm=>eZ.2 (vU hm)⟩
 have yw:∀ w',aE (iE L0 T) w0 w'→nU L0 U w0 w':=fun w' qj=>⟨_,qj,fun x hx=>vU hx,fun x hx j hj r hr n9=>by
  obtain ⟨i,hi,r2,iX,nW⟩:=tO.1 hx;have tI:j≠i:=fun e=>by
   subst e;have:=List.all_eq_true.1 hu j hj;simp [hi] at this
  exact fK.ne s0.ap hr iX tI x n9 nW⟩
 refine Gx.BJ hi (Region.noSelect_spec k1) (fun c a w h=>by cases h.1) n aH a w k4 (Region.free_spec hi k2) (by simpa using k3) (v:=v) (.inl ⟨c7.run hw s0,fun w' qj=>h2 w' (yw w' qj)⟩) kp ?_;have:=h.go (a.put o.dst v) w w0 (by rw [hd];exact s.jZ ht (RD.ck m1 _ _ h1)) (by rw [hd];exact s0.jZ ht h1) kp ho;exact this⟩
end
end Fl
open Go.RowKit
namespace Fl
section
variable {P:Program} {c:Cx} {k:List Item} {f:Fm} {L:List ak} {ops:Array Oper} {n:Nat} {aH:Array Bool} {o:Oper}
structure JT (P:Program) (c:Cx) (ops:Array Oper) (n:Nat) (aH:Array Bool) (k:List Item) (f:Fm) (L:List ak) (i:Nat):Prop where
 go:∀ a w,St c f L a w→wpOp P ops (fun e a' w'=>e=.normal∧iT P c k a' w') i (fun a' w'=>wpAny P .any ops (fun e a' w'=>e=.normal∧iT P c k a' w') n (aH.setIfInBounds i true) a' w') a w
theorem JT.q {i t:Nat} {d:D} {U:List Nat} (hi:ops[i]?=some o) (hd:o.dst=some t) (hw:c7 ops o f=true) (ht:t < c.N) (q:Qt P c U o f L d) (h:JW P c ops n (aH.setIfInBounds i true) k ((t,d) :: f) L):JT P c ops n aH k f L i:=⟨fun a w s=>by
 obtain ⟨v,h1,h2⟩:=q.go a w s;refine wpOp_step hi (fun K hK=>?_);rw [c7.run hw s,if_pos rfl];simp only [Oper.wp,h2 w (nU.now _ _ _),Oper.upon];exact hK _ _ (h.go _ w (by rw [hd];exact s.jZ ht h1))⟩
theorem JT.ld {i:Nat} {ι:Type} {f':ι→Fm} {L':ι→List ak} {S:List Nat} (hi:ops[i]?=some o) (hw:c7 ops o f=true) (q:Ld P c o f L S f' L') (h:∀ x,JW P c ops n (aH.setIfInBounds i true) k (f' x) (L' x)):JT P c ops n aH k f L i:=⟨fun a w s=>by
 refine wpOp_step hi (fun K hK=>?_);rw [c7.run hw s,if_pos rfl];exact q.go a w s K _ fun x v w' kY sx hf=>hK _ _ ((h x).go _ w' sx)⟩
theorem JW.fR {i:Nat} (hr:Region.ready .any ops aH=[i]) (h:JT P c ops n aH k f L i):JW P c ops (n + 1) aH k f L:=⟨fun a w s=>by
 refine ⟨fun h0=>(by rw [hr] at h0;cases h0),fun j hj=>?_⟩;rw [hr] at hj;simp at hj;subst hj;exact h.go a w s⟩
theorem JW.cy {i j:Nat} (hr:Region.ready .any ops aH=[i,j]) (h1:JT P c ops n aH k f L i) (h2:JT P c ops n aH k f L j):JW P c ops (n + 1) aH k f L:=⟨fun a w s=>by
 refine ⟨fun h0=>(by rw [hr] at h0;cases h0),fun j hj=>?_⟩;rw [hr] at hj;simp at hj;rcases hj with rfl | rfl
 ·exact h1.go a w s
 ·exact h2.go a w s⟩
variable {T:TypeId} {ps:String} {af:Array Edge} {gd:Option (Nat × Bool)} {t:Nat}
theorem Ld.Hv {F:FuncId} {args:List Operand} {tys:Array TypeId} {cM ds:List D} {ι:Type} {dd:ι→D} {M:ι→List ak} {Ll:List ak} (Lr:List ak) (L':ι→List ak) [i:aK P F] (hC:aq P F ds Ll (fun x=>(dd x,M x))) (hL:(Ll ++ Lr).Perm L) (rK:∀ x,(L' x).Perm (M x ++ Lr)) (ht:t < c.N) (h:gq f args=some cM) (hle:br cM ds) :
  Ld P c ⟨some t,.call ⟨.value (.func F),args.toArray,tys⟩,T,ps,af,gd⟩ f L (aS Ll) (fun x=>(t,dd x) :: f) L':=⟨fun a w s K Q hK=>by
 have h1:=Ld.call (P:=P) (c:=c) (T:=T) (ps:=ps) (af:=af) (gd:=gd) (L:=Ll ++ Lr) (f:=f) (tys:=tys) hC ht h hle (Ll:=Ll) (Lr:=Lr) rfl;refine h1.go a w (s.perm hL) K Q fun x v w' kp sx hf=>?_
 refine hK x v w' kp (sx.perm (rK x)) fun y hy=>?_
 rcases hf y ((oh (rK x) y).1 hy) with h | h
 ·exact .inl ((oh hL y).1 h)
 ·exact .inr h⟩
end
end Fl
open Go.RowKit
namespace Fl
theorem RX.rep {ok:Nat→Prop} {w:World} {zs:List Value} (h:zs.all (·.oneCell')=true):∀ n:Nat,RX ok w zs.length (List.replicate n (vs zs)) ((List.replicate n ()).flatMap fun _=>zs)
 | 0=>rfl
 | n + 1=>⟨zs,(List.replicate n ()).flatMap fun _=>zs,by rw [List.replicate_succ,List.flatMap_cons],rfl,RC.vs h,RX.rep h n⟩
section
variable {P:Program} {c:Cx} {k:List Item} {f:Fm} {L:List ak} {T X:TypeId} {ps:String} {af:Array Edge} {gd:Option (Nat × Bool)} {t:Nat}
theorem Ld.make {e sz bytes:Nat} {z:Value} {zs:List Value} [E:eK P X e sz bytes z] [Z:aR P e zs] {x y:Operand} {kl kc:IntKind} {N:Int} (n:Nat) (ht:t < c.N) (hx:aP f x=some (.c (.v (.int kl N)))) (hy:aP f y=some (.c (.v (.int kc N)))) (hN:N=(n:Int)) (hb:n * bytes≤281474976710656) :
  Ld P c ⟨some t,.makeSlice X x y,T,ps,af,gd⟩ f L [] (fun b:Nat=>(t,.c (.v (.slice (some ⟨b,0,none⟩) n n))) :: f) (fun b=>.row (.slice (some ⟨b,0,none⟩) n n) e sz (List.replicate n (vs zs)) :: L):=⟨fun a w s K Q hK=>by
 subst hN;obtain ⟨hu,kA,hz,oQ,p9⟩:=E.h;obtain ⟨i,hi,dz,de,gN⟩:=info_parts kA;have AZ:n≤281474976710656:=Nat.le_trans (Nat.le_mul_of_pos_right _ p9) hb;have rx:=s.val hx;have ry:=s.val hy;obtain ⟨w',eL,r1,r2⟩:=run_make_full (P:=P) w 0 X e i z sz hu hi dz de kl kc n (by rw [gN,Nat.mul_comm];exact hb) (by simp only [maxLen];omega) (Nat.zero_le _);have hk:aE [] w w':=(aE.refl [] w).grown r2 (by simp);have hr:=(Row.AV r1).1;have td:z.cells.toList=zs:=by
  have h1:=Z.h;unfold nR at h1;rw [hi] at h1;simpa [dz] using h1
 have hl:zs.length=sz:=by rw [← td];simpa using hz
 have qm:(ak.row (.slice (some ⟨w.heap.size,0,none⟩) n n) e sz (List.replicate n (vs zs))).holds (aZ c (.row (.slice (some ⟨w.heap.size,0,none⟩) n n) e sz (List.replicate n (vs zs)) :: L)) w':=by
  refine ⟨(List.replicate n ()).flatMap fun _=>zs,?_,?_⟩
  ·rw [List.length_replicate,← Gt (f:=fun _=>zs) (fun _=>hl) (x0:=()) td oQ n];exact hr
  ·subst hl;exact RX.rep Z.o n
 have hf:∀ y∈(ak.row (.slice (some ⟨w.heap.size,0,none⟩) n n) e sz (List.replicate n (vs zs))).bR,w.heap.size≤y:=by simp [ak.bR,cH]
 unfold Oper.wp;simp only [execOp,rx,ry,eL,Result.andThen,Sem.run_bind];exact hK w.heap.size _ _ hk (s.new ht hk hf qm (by unfold RD RA;exact ⟨rfl,rfl⟩)) (rB hf)⟩
theorem Ld.vW {e sz bytes:Nat} {z:Value} [E:eK P X e sz bytes z] {x y:Operand} {kl kc:IntKind} {N:Int} (n:Nat) (ht:t < c.N) (hx:aP f x=some (.c (.v (.int kl 0)))) (hy:aP f y=some (.c (.v (.int kc N)))) (hN:N=(n:Int)) (hb:n * bytes≤281474976710656) :
  Ld P c ⟨some t,.makeSlice X x y,T,ps,af,gd⟩ f L [] (fun b:Nat=>(t,.c (.v (.slice (some ⟨b,0,none⟩) 0 n))) :: f) (fun b=>.row (.slice (some ⟨b,0,none⟩) 0 n) e sz [] :: L):=⟨fun a w s K Q hK=>by
 subst hN;obtain ⟨hu,kA,hz,oQ,p9⟩:=E.h;obtain ⟨i,hi,dz,de,gN⟩:=info_parts kA;have AZ:n≤281474976710656:=Nat.le_trans (Nat.le_mul_of_pos_right _ p9) hb;have rx:=s.val hx;have ry:=s.val hy;obtain ⟨w',eL,r1,r2⟩:=run_make_own (P:=P) w 0 X e i z sz hu hi dz de kl kc n (by rw [gN,Nat.mul_comm];exact hb) (by simp only [maxLen];omega) (Nat.zero_le _);have hk:aE [] w w':=(aE.refl [] w).grown r2 (by simp);have hr:=(Row.AV r1).1;have qm:(ak.row (.slice (some ⟨w.heap.size,0,none⟩) 0 n) e sz []).holds (aZ c (.row (.slice (some ⟨w.heap.size,0,none⟩) 0 n) e sz [] :: L)) w':=⟨[],hr,rfl⟩
 have hf:∀ y∈(ak.row (.slice (some ⟨w.heap.size,0,none⟩) 0 n) e sz []).bR,w.heap.size≤y:=by simp [ak.bR,cH]
 unfold Oper.wp;simp only [execOp,rx,ry,eL,Result.andThen,Sem.run_bind];exact hK w.heap.size _ _ hk (s.new ht hk hf qm (by unfold RD RA;exact ⟨rfl,rfl⟩)) (rB hf)⟩
theorem Ld.copy {e bytes:Nat} {z:Value} [E:eK P X e 1 bytes z] {x y:Operand} {v:Value} {l1 l2:List (List A)} {i:Nat} {L':List ak} [bx:eY L v e 1 l1 i] [st:jJ L i (.row v e 1 l2) L'] (ht:t < c.N) (hx:aP f x=some (.c (.v v))) (hy:aP f y=some (.c (.r 1 l2))) (hn:l1.length=l2.length) :
  Ld P c ⟨some t,.call ⟨.builtin .copy,#[x,y],#[X,X]⟩,T,ps,af,gd⟩ f L (cH v) (fun _:Unit=>(t,.c (.v (.int .i64 l2.length))) :: f) (fun _=>L'):=⟨fun a w s K Q hK=>by
 obtain ⟨hu,kA,hz,oQ,p9⟩:=E.h;obtain ⟨ti,hi,dz,de,gN⟩:=info_parts kA;have js:(P.info? e).map (·.size)=some 1:=by rw [hi];simp [de]
 have rx:=s.val hx;have ry:=s.ev hy;unfold RD at ry;obtain ⟨ys,S,v1,v2,v3⟩:=ry.view;obtain ⟨xs,⟨hl,ao,cap,rfl,lT,kV,h4⟩,q2⟩:=s.res _ (List.mem_of_getElem? bx.h);obtain ⟨ia,bo,lW,qn,A0,A3,sW⟩:=v1;have j8:∀ u∈ys,u.oneCell'=true:=v2.one;have eL:∃ w',(execOp a.eval ⟨some t,.call ⟨.builtin .copy,#[x,y],#[X,X]⟩,T,ps,af,gd⟩).run P w=.ok (.value (.int .i64 l2.length)) w'∧aE (cH (.slice ao l1.length cap)) w w'∧Row w' (.slice ao l1.length cap) e 1 l1.length ys (cH (.slice ao l1.length cap)):=by
  by_cases h0:l2.length=0
  ·refine ⟨w,?_,aE.refl _ _,?_⟩
   ·have hr:=run_copy_none (P:=P) w X X T e ao bo l1.length cap l2.length lW hu js (by rw [hn,h0];rfl);rw [h0] at hr qn ⊢;simp [execOp,resolve,invoke,builtin,rx,qn,hr,Sem.run_bind,goInt]
   ·have e1:ys=[]:=List.eq_nil_of_length_eq_zero (by rw [ia,h0]);have e2:xs=[]:=List.eq_nil_of_length_eq_zero (by rw [hl,hn,h0]);rw [e1,← e2];exact ⟨hl,ao,cap,rfl,lT,kV,h4⟩
  ·rcases h4 with ⟨_,h,_⟩ | ⟨g,off,cur,rfl,hS,hb,vH,hc⟩
   ·omega
   ·rcases sW with ⟨h,_⟩ | ⟨ug,sX,rfl,_,A4,sY⟩
    ·omega
    ·have hr:=run_copy_row (P:=P) w X X T e g off l1.length cap ⟨ug,sX,none⟩ l2.length lW cur.toArray e ys hu js hb (by rw [ia,hn];simp) (fun j y hj=>by
      rw [Addr.add_lit,sY j (List.getElem?_eq_some_iff.1 hj).1];exact hj) (by rw [ia,List.size_toArray];omega) j8
     refine ⟨_,?_,(aE.refl _ w).setRow (g:=g) (.inl (by simp [cH])) (cur.toArray.toList.take off ++ ys ++ cur.toArray.toList.drop (off + ys.length)).toArray,?_⟩
     ·simp only [execOp,resolve,invoke,builtin,Sem.run_bind];simp [rx,qn,hr,ia,goInt,Sem.run_bind]
     ·refine ⟨by rw [ia,hn],_,_,rfl,lT,kV,.inr ⟨g,off,_,rfl,hS,setRow_heap w g cur.toArray _ e _ hb,?_,?_⟩⟩
      ·simp only [List.length_append,List.length_take,List.length_drop,ia];omega
      ·intro j hj;have nG:(cur.take off).length=off:=by rw [List.length_take];omega
       rw [List.append_assoc,List.getElem?_append_right (by rw [nG];omega),nG,show off + j - off=j by omega,List.getElem?_append_left hj]
 obtain ⟨w',eL,hk,qm⟩:=eL;unfold Oper.wp;rw [eL];have m:Mon (aZ c L) (aZ c L) w w':=Mon.ju hk fun g hg ho=>⟨ho,fun hm=>ho.2 (cJ.2 ⟨_,List.mem_of_getElem? bx.h,hm⟩)⟩
 have hh:(ak.row (.slice ao l1.length cap) e 1 l2).holds (aZ c L) w':=⟨ys,by rw [← hn];exact qm,RX.ck m _ _ v2⟩
 have s2:=s.set bx.h (r':=.row (.slice ao l1.length cap) e 1 l2) rfl hk hh;rw [st.h] at s2;refine hK () _ w' hk (s2.jZ ht (by unfold RD RA;exact ⟨rfl,rfl⟩)) fun y hy=>?_
 rw [← st.h] at hy;exact .inl ((rC bx.h (r':=.row (.slice ao l1.length cap) e 1 l2) rfl y).1 hy)⟩
theorem Ld.iZ {e sz:Nat} {x:Operand} {d:D} {cs:List A} {zs:List Value} [i:dQ P X e sz] [z:aR P e zs] (ht:t < c.N) (h:aP f x=some d) (hc:gi d=some cs) (hn:cs.length=sz) (h0:Nat.ble 1 sz=true) (hs:Nat.ble sz 1000=true) :
  Ld P c ⟨some t,.buildSlice X 1 #[(0,x)],T,ps,af,gd⟩ f L [] (fun _:Unit=>(t,.c (.r sz [cs])) :: f) (fun _=>L):=⟨fun a w s K Q hK =>
 (Ld.dZ (P:=P) (c:=c) (T:=T) (ps:=ps) (af:=af) (gd:=gd) (f:=f) (L:=L) (e:=e) (sz:=sz) (zs:=zs) (X:=X) (t:=t) ht h hc hn h0 hs).go a w s K Q fun b u w' k' s' hf=>hK () u w' k' s'.freeze fun y hy=>hf y ((iV _ _ _).2 (.inr hy))⟩
theorem Ld.Hw {e sz:Nat} [i:dQ P X e sz] (ht:t < c.N):Ld P c ⟨some t,.buildSlice X 0 #[],T,ps,af,gd⟩ f L [] (fun _:Unit=>(t,.c (.r sz [])) :: f) (fun _=>L):=⟨fun a w s K Q hK =>
 (Ld.fD (P:=P) (c:=c) (T:=T) (ps:=ps) (af:=af) (gd:=gd) (f:=f) (L:=L) (e:=e) (sz:=sz) (X:=X) (t:=t) ht).go a w s K Q fun b u w' k' s' hf=>hK () u w' k' s'.freeze fun y hy=>hf y ((iV _ _ _).2 (.inr hy))⟩
theorem Qt.min {x y:Operand} {tys:Array TypeId} {k1:IntKind} {m n r:Int} (h:aP f x=some (.c (.v (.int k1 m)))) (hy:aP f y=some (.c (.v (.int k1 n)))) (hr:(if n < m then n else m)=r):Qt P c [] ⟨t,.call ⟨.builtin .min,#[x,y],tys⟩,T,ps,af,gd⟩ f L (.c (.v (.int k1 r))):=⟨fun a w s=>by
 have rx:=s.val h;have ry:=s.val hy;subst hr;refine ⟨_,by unfold RD RA;exact ⟨rfl,rfl⟩,fun w' k=>?_⟩;simp only [execOp,resolve,invoke,builtin,Sem.run_bind];simp [rx,ry,Builtin.min_,Builtin.min2,Sem.run_bind]⟩
end
end Fl
namespace Pn
structure Cs where
 send:Bool
 ch:Int
 v:Int
structure Op where
 kind:Int
 ch:Int
 n:Int
 v:Int
 cases:List Cs
 cQ:Bool
theorem Cs.ext {a b:Cs} (h1:a.send=b.send) (h2:a.ch=b.ch) (h3:a.v=b.v):a=b:=by cases a;cases b;simp_all
theorem Op.ext {a b:Op} (h1:a.kind=b.kind) (h2:a.ch=b.ch) (h3:a.n=b.n) (h4:a.v=b.v) (h5:a.cases=b.cases) (h6:a.cQ=b.cQ):a=b:=by cases a;cases b;simp_all
instance:DecidableEq Cs:=fun a b=>decidable_of_iff (a.send=b.send∧a.ch=b.ch∧a.v=b.v) ⟨fun ⟨h1,h2,h3⟩=>Cs.ext h1 h2 h3,fun h=>by subst h;simp⟩
instance:DecidableEq Op:=fun a b=>decidable_of_iff (a.kind=b.kind∧a.ch=b.ch∧a.n=b.n∧a.v=b.v∧a.cases=b.cases∧a.cQ=b.cQ) ⟨fun ⟨h1,h2,h3,h4,h5,h6⟩=>Op.ext h1 h2 h3 h4 h5 h6,fun h=>by subst h;simp⟩
instance:Inhabited Cs:=⟨⟨false,0,0⟩⟩
instance:Inhabited Op:=⟨⟨0,0,0,0,[],false⟩⟩
def fu (k:Int):Bool:=decide (2≤k) && decide (k≤8)
def fy (k:Int):Bool:=(k == 2) || (k == 4)
def jz (c:Cs):Bool:=decide (0≤c.ch∧c.ch≤8∧0≤c.v∧c.v≤255∧(c.send=false→c.v=0))
def cO (o:Op):Bool:=decide (1≤o.kind∧o.kind≤9∧0≤o.ch∧o.ch≤8∧0≤o.n∧o.n≤4∧0≤o.v∧o.v≤255∧o.cases.length≤6 ∧
 (fu o.kind=false→o.ch=0)∧(fy o.kind=false→o.v=0)∧(o.kind≠1→o.n=0)∧(o.kind≠9→o.cases=[]∧o.cQ=false)∧∀ c∈o.cases,jz c=true)
def jA (l:List Op):Bool:=decide (l.length≤16∧∀ o∈l,cO o=true)
def right (p:List (List Op)):Bool:=decide (1≤p.length∧p.length≤8∧∀ l∈p,jA l=true)
section
variable {α:Type} {f:Nat→α × Nat}
end
end Pn
namespace Md
structure Ch where
 cap:Int
 buf:List Int
 closed:Bool
structure St where
 ax:List Ch
 waits:Int→Option Pn.Op
structure Sd where
 ch:Int
 send:Bool
 v:Int
structure ak where
 code:Int
 cs:Int
 v:Int
 ok:Bool
 n:Int
end Md
namespace Sx
structure Gr where
 ops:List Pn.Op
 at_:Int
 place:Int
 status:Int
 token:Bool
 call:Int
 bp:Bool
 param:Int
 bq:Int
 hold:Int
 t:Int
 iF:Int
 cz:Int
 wi:Int
 dc:Int
 res:Md.ak
 order:List Int
 aC:List Int
 au:List Int
 an:List Int
 k:Int
structure Cn where
 cap:Int
 buf:List Int
 closed:Bool
 lock:Int
 recv:List Int
 send:List Int
structure Su where
 live:Bool
 g:Int
 ch:Int
 cs:Int
 send:Bool
 v:Int
 done:Bool
structure Mk where
 g:Int
 op:Int
 call:Int
 iF:Int
 cz:Int
 wi:Int
 dc:Int
 re:Int
 res:Md.ak
structure ah where
 cY:Int
 bM:Int
 step:Int
 gs:List Gr
 ax:List Cn
 aD:List Su
 cache:List (List Int)
 middle:List Int
 fresh:Int
 cD:List Int
 drawn:Int
 done:List Mk
def Hx:Md.ak:=⟨0,-1,0,false,0⟩
def clean (ops:List Pn.Op) (a:Int):Gr:=⟨ops,a,0,0,false,0,false,-1,-1,-1,0,0,0,-1,-1,Hx,[],[],[],[],0⟩
def dX:Su:=⟨false,0,0,0,false,0,false⟩
def oX:ah:=⟨0,0,0,[],[],[],[],[],0,[],0,[]⟩
def can (s g c:Int):Bool:=decide (0≤s∧s≤64∧0≤g∧g≤8∧1≤c∧c≤16)
def start (p:List (List Pn.Op)) (s c:Int) (d:List Int):ah:=⟨s,c,0,p.map (clean · 0),[],List.replicate s.toNat dX,p.map (fun _=>[]),[],0,d,0,[]⟩
def new (p:List (List Pn.Op)) (s c:Int) (d:List Int):ah × Int :=
 if Pn.right p=false then (oX,3) else if can s p.length c=false then (oX,1) else (start p s c d,0)
end Sx
namespace Po
def fits (size cF most:Int):Bool:=decide (0≤size∧size≤64∧0≤cF∧cF≤8∧1≤most∧most≤16)
theorem Hy {size cF most:Int} (h:fits size cF most=true):0≤size∧size≤64∧0≤cF∧cF≤8∧1≤most∧most≤16:=by simpa [fits] using h
end Po
namespace Po
def vX (C:List (List Int)) (g:Int):Bool:=decide (0≤g) && decide (g < C.length)
def live (f:Int) (H:List Bool) (x:Int):Bool:=decide (0≤x) && decide (x < f) && !(H.getD x.toNat false)
def cache (C:List (List Int)) (g:Int):List Int:=if vX C g then C.getD g.toNat [] else []
def outs (H:List Bool) (k:Nat):Nat:=((H.take k).filter (fun t=>!t)).length
theorem Hz (H:List Bool) (k:Nat) (t:Bool) (h:H[k]?=some t):outs H (k + 1)=outs H k + (if t then 0 else 1):=by
 obtain ⟨hk,rfl⟩:=List.getElem?_eq_some_iff.1 h;unfold outs;rw [List.take_succ_eq_append_getElem hk,List.filter_append,List.length_append]
 cases H[k] <;> simp
structure St where
 C:List (List Int)
 M:List Int
 f:Nat
 H:List Bool
def room (most:Nat):Nat:=max 1 (most / 2)
def oo (most:Nat) (c M:List Int):Nat:=if c=[] then min (room most) M.length else 0
def own (most:Nat) (c M:List Int):List Int:=c ++ M.reverse.take (oo most c M)
def aW (most:Nat) (c M:List Int):List Int:=M.take (M.length - oo most c M)
def rL (s:St) (g:Nat) (o m:List Int):St:=⟨s.C.set g o.dropLast,m,s.f,s.H.set (o.getLastD 0).toNat false⟩
def eu (most:Nat) (c:List Int):Nat:=if c.length=most then c.length - most / 2 else 0
def qo (most:Nat) (s:St) (g:Nat) (c:List Int) (x:Int):St:=⟨s.C.set g (c.take (c.length - eu most c) ++ [x]),s.M ++ c.reverse.take (eu most c),s.f,s.H.set x.toNat true⟩
def cR (most:Nat) (s:St) (g x:Int):St × Bool :=
 if vX s.C g && live s.f s.H x then (qo most s g.toNat (s.C.getD g.toNat []) x,true) else (s,false)
def fj (s:St) (a:Int):Nat:=s.M.count a + s.C.flatten.count a
structure Inv (size most:Nat) (s:St):Prop where
 m1:1≤most
 m2:most≤16
 s1:size≤64
 hl:s.H.length=size
 fl:s.f≤size
 one:∀ a,fj s a≤1
 bound:∀ a,1≤fj s a→0≤a∧a < s.f
 home:∀ x:Nat,x < size→s.H.getD x false=decide (1≤fj s (x:Int))
 oY:∀ c∈s.C,c.length≤most
theorem count_set {α:Type} [BEq α] [LawfulBEq α] (a:α):∀ (C:List (List α)) (g:Nat) (c c':List α),C[g]?=some c→(C.set g c').flatten.count a + c.count a=C.flatten.count a + c'.count a
 | [],g,c,c',h=>by simp at h
 | y :: r,0,c,c',h=>by
  simp at h;subst h;simp [List.count_append];omega
 | y :: r,g + 1,c,c',h=>by
  have:=count_set a r g c c' (by simpa using h);simp [List.count_append];omega
theorem BL {α:Type} [BEq α] [LawfulBEq α] (a:α) (l:List α) (k:Nat):(l.take k).count a + (l.drop k).count a=l.count a:=by
 rw [← List.count_append,List.take_append_drop]
theorem BM (M:List Int) (n:Nat):M.reverse.take n=(M.drop (M.length - n)).reverse:=by
 rw [List.take_reverse]
theorem HD (most:Nat) (c M:List Int) (a:Int):(own most c M).count a + (aW most c M).count a=c.count a + M.count a:=by
 unfold own aW;rw [BM,List.count_append,List.count_reverse];have:=BL a M (M.length - oo most c M);omega
theorem BN {most:Nat} (h1:1≤most) {c M:List Int} (h:own most c M=[]):c=[]∧M=[]:=by
 unfold own oo room at h;simp only [List.append_eq_nil_iff] at h;obtain ⟨rfl,h⟩:=h;refine ⟨rfl,?_⟩;rw [if_pos rfl] at h
 cases M with
 | nil=>rfl
 | cons x r =>
  have:=congrArg List.length h;simp at this
theorem HE {s:St} {a:Int}:1≤fj s a↔a∈s.M∨∃ c∈s.C,a∈c:=by
 unfold fj
 constructor
 ·intro h;have h2:0 < s.M.count a∨0 < s.C.flatten.count a:=by omega
  rcases h2 with h2 | h2
  ·exact .inl (List.count_pos_iff.1 h2)
  ·right
   have:=List.count_pos_iff.1 h2;simpa using this
 ·rintro (h | ⟨c,hc,h⟩)
  ·have:=List.count_pos_iff.2 h;omega
  ·have:0 < s.C.flatten.count a:=List.count_pos_iff.2 (List.mem_flatten.2 ⟨c,hc,h⟩);omega
theorem yI {o:List Int} (h:o≠[]):o=o.dropLast ++ [o.getLastD 0]:=by
 have:=List.dropLast_concat_getLast h;rw [List.getLastD_eq_getLast?,List.getLast?_eq_some_getLast h];exact this.symm
theorem mY {α:Type} (l:List α) (i j:Nat) (t d:α) (h:i < l.length):(l.set i t).getD j d=if i=j then t else l.getD j d:=by
 by_cases e:i=j
 ·subst e;simp [h]
 ·simp [List.getD,e]
theorem Inv.last {size most:Nat} {s:St} (v:Inv size most s) {g:Nat} {c:List Int} (hg:s.C[g]?=some c) {o:List Int} (ho:o=own most c s.M) (h0:o≠[]) :
  0≤o.getLastD 0∧o.getLastD 0 < s.f:=by
 have hm:o.getLastD 0∈o:=by
  have:=yI h0;generalize o.getLastD 0=x at *;rw [this];simp
 apply v.bound;apply HE.2;generalize o.getLastD 0=x at *;rw [ho] at hm;unfold own at hm;rcases List.mem_append.1 hm with h | h
 ·exact .inr ⟨c,List.mem_of_getElem? hg,h⟩
 ·left
  have:=List.mem_of_mem_take h;simpa using this
theorem HH {most:Nat} (h1:1≤most) {c M:List Int} (hc:c.length≤most):(own most c M).length≤most:=by
 unfold own oo room
 by_cases h:c=[]
 ·subst h;simp;omega
 ·simp [h];exact hc
def ind (x a:Int):Nat:=if x=a then 1 else 0
theorem HK {o:List Int} (h:o≠[]) (a:Int):o.count a=o.dropLast.count a + ind (o.getLastD 0) a:=by
 conv=>lhs;rw [yI h]
 rw [List.count_append,List.count_singleton];unfold ind
 by_cases e:o.getLastD 0=a <;> simp [e]
theorem yJ {size most:Nat} {s:St} {g:Nat} {c:List Int} (hg:s.C[g]?=some c) (h0:own most c s.M≠[]) (a:Int) :
  fj (rL s g (own most c s.M) (aW most c s.M)) a + ind ((own most c s.M).getLastD 0) a=fj s a:=by
 have e1:=count_set a s.C g c (own most c s.M).dropLast hg;have e2:=HD most c s.M a;have e3:=HK h0 a
 show (aW most c s.M).count a + (s.C.set g (own most c s.M).dropLast).flatten.count a + _=s.M.count a + s.C.flatten.count a;omega
theorem mem_set {α:Type} {l:List α} {g:Nat} {c x:α} (h:x∈l.set g c):x∈l∨x=c:=List.mem_or_eq_of_mem_set h
theorem Inv.rL {size most:Nat} {s:St} (v:Inv size most s) {g:Nat} {c:List Int} (hg:s.C[g]?=some c) (h0:own most c s.M≠[]) :
  Inv size most (rL s g (own most c s.M) (aW most c s.M)):=by
 have hb:=v.last hg rfl h0;have oZ:=yJ (size:=size) hg h0;have tg:=HH v.m1 (M:=s.M) (v.oY c (List.mem_of_getElem? hg));have jw:fj s ((own most c s.M).getLastD 0)≤1:=v.one _;refine ⟨v.m1,v.m2,v.s1,by simpa [Po.rL] using v.hl,v.fl,fun a=>by have:=oZ a;have:=v.one a;omega,fun a ha=>v.bound a (by have:=oZ a;omega),?_,?_⟩
 ·intro x hx;have mc:=oZ (x:Int);have nW:=v.one (x:Int);have tV:=v.home x hx;have nY:=v.fl;have iR:=oZ ((own most c s.M).getLastD 0)
  show (s.H.set ((own most c s.M).getLastD 0).toNat false).getD x false=_;rw [mY _ _ _ _ _ (by rw [v.hl];omega)];unfold ind at mc iR;rw [if_pos rfl] at iR
  by_cases e:((own most c s.M).getLastD 0).toNat=x
  ·rw [if_pos e];have e2:(own most c s.M).getLastD 0=(x:Int):=by omega
   rw [if_pos e2] at mc;simp;omega
  ·rw [if_neg e];have e2:(own most c s.M).getLastD 0≠(x:Int):=by omega
   rw [if_neg e2] at mc;rw [tV];simp only [decide_eq_decide];omega
 ·intro d hd;rcases mem_set hd with h | rfl
  ·exact v.oY d h
  ·simp;omega
theorem Inv.fresh {size most:Nat} {s:St} (v:Inv size most s) (h:s.f < size):Inv size most ⟨s.C,s.M,s.f + 1,s.H⟩ :=
 ⟨v.m1,v.m2,v.s1,v.hl,h,v.one,fun a ha=>by have:=v.bound a ha;exact ⟨this.1,by simp;omega⟩,v.home,v.oY⟩
theorem BO {most:Nat} {s:St} {g:Nat} {c:List Int} (hg:s.C[g]?=some c) (x a:Int):fj (qo most s g c x) a=fj s a + ind x a:=by
 have e1:=count_set a s.C g c (c.take (c.length - eu most c) ++ [x]) hg;have e2:=BL a c (c.length - eu most c);have e3:[x].count a=ind x a:=by unfold ind;rw [List.count_singleton];by_cases e:x=a <;> simp [e]
 show (s.M ++ c.reverse.take (eu most c)).count a + (s.C.set g (c.take (c.length - eu most c) ++ [x])).flatten.count a=s.M.count a + s.C.flatten.count a + _;rw [List.count_append,BM,List.count_reverse];rw [List.count_append,e3] at e1;omega
theorem Inv.live {size most:Nat} {s:St} (v:Inv size most s) (x:Int):live s.f s.H x=(decide (0≤x) && decide (x < s.f) && decide (fj s x=0)):=by
 unfold Po.live
 by_cases h1:0≤x
 ·by_cases h2:x < s.f
  ·have:=v.home x.toNat (by have:=v.fl;omega);rw [this,Int.toNat_of_nonneg h1];simp only [h1,h2,decide_true,Bool.true_and];rw [Bool.eq_iff_iff];simp
  ·simp [h2]
 ·simp [h1]
theorem Inv.qo {size most:Nat} {s:St} (v:Inv size most s) {g:Nat} {c:List Int} (hg:s.C[g]?=some c) {x:Int} (hx:Po.live s.f s.H x=true) :
  Inv size most (qo most s g c x):=by
 rw [v.live] at hx;simp only [Bool.and_eq_true,decide_eq_true_eq] at hx;obtain ⟨⟨rM,mc⟩,nW⟩:=hx;have oZ:=BO (most:=most) hg x;have bU:=v.oY c (List.mem_of_getElem? hg);refine ⟨v.m1,v.m2,v.s1,by simpa [Po.qo] using v.hl,v.fl,?_,?_,?_,?_⟩
 ·intro a;rw [oZ];have:=v.one a;unfold ind
  split
  ·rename_i e;subst e;omega
  ·omega
 ·intro a ha;rw [oZ] at ha;unfold ind at ha
  split at ha
  ·rename_i e;subst e;exact ⟨rM,mc⟩
  ·exact v.bound a (by omega)
 ·intro y hy;rw [oZ];have nY:=v.fl
  show (s.H.set x.toNat true).getD y false=_;rw [mY _ _ _ _ _ (by rw [v.hl];omega),v.home y hy];unfold ind
  by_cases e:x.toNat=y
  ·rw [if_pos e,if_pos (show x=(y:Int) by omega)];simp
  ·rw [if_neg e,if_neg (show x≠(y:Int) by omega)];simp
 ·intro d hd;rcases mem_set hd with h | rfl
  ·exact v.oY d h
  ·have:=v.m1;simp only [List.length_append,List.length_take,List.length_singleton];unfold eu
   split <;> omega
def kH (L:List Int):Nat→Nat
 | 0=>0
 | k + 1=>kH L k + L.count (k:Int)
theorem HL (k:Nat):kH [] k=0:=by induction k with
 | zero=>rfl
 | succ k ih=>simp [kH,ih]
theorem HM (y:Int) (r:List Int) (k:Nat):kH (y :: r) k=kH r k + if 0≤y∧y < k then 1 else 0:=by
 induction k with
 | zero =>
  rw [if_neg (by omega)];rfl
 | succ k ih =>
  have e1:kH (y :: r) (k + 1)=kH (y :: r) k + (y :: r).count (k:Int):=rfl;have e2:kH r (k + 1)=kH r k + r.count (k:Int):=rfl;rw [e1,e2,ih,List.count_cons]
  by_cases e:y=(k:Int)
  ·rw [if_neg (by omega),if_pos (by simpa using e),if_pos (by omega)];omega
  ·have e3:(y == (k:Int))=false:=by simpa using e
   rw [e3,if_neg (show ¬ (false=true) by decide)]
   by_cases h:0≤y∧y < k
   ·rw [if_pos h,if_pos (by omega)];omega
   ·rw [if_neg h,if_neg (by omega)];omega
theorem HT (L:List Int) (k:Nat) (h:∀ a∈L,0≤a∧a < k):kH L k=L.length:=by
 induction L with
 | nil=>exact HL k
 | cons y r ih =>
  rw [HM,ih (fun a ha=>h a (by simp [ha])),if_pos (h y (by simp))];simp
theorem HW (H:List Bool) (L:List Int) (HY:∀ a,L.count a≤1) (k:Nat) (hk:k≤H.length) (hH:∀ x:Nat,x < k→H.getD x false=decide (1≤L.count (x:Int))):outs H k + kH L k=k:=by
 induction k with
 | zero=>simp [outs,kH]
 | succ k ih =>
  have hx:H[k]?=some (H.getD k false):=by rw [List.getD_eq_getElem?_getD,List.getElem?_eq_getElem (by omega)];simp
  rw [Hz H k _ hx,hH k (by omega),kH];have:=ih (by omega) (fun x hx=>hH x (by omega));have:=HY (k:Int)
  by_cases e:1≤L.count (k:Int)
  ·simp [e];omega
  ·simp [e];omega
theorem Inv.outs {size most:Nat} {s:St} (v:Inv size most s):outs s.H s.f + (s.M.length + s.C.flatten.length)=s.f:=by
 have hc:∀ a,(s.M ++ s.C.flatten).count a=fj s a:=fun a=>by rw [List.count_append];rfl
 have h1:=HW s.H (s.M ++ s.C.flatten) (fun a=>by rw [hc];exact v.one a) s.f (by rw [v.hl];exact v.fl) (fun x hx=>by rw [hc];exact v.home x (by have:=v.fl;omega));have h2:=HT (s.M ++ s.C.flatten) s.f (fun a ha=>v.bound a (by rw [← hc];exact List.count_pos_iff.2 ha));rw [h2,List.length_append] at h1;exact h1
theorem Inv.lens {size most:Nat} {s:St} (v:Inv size most s):s.M.length≤64∧s.C.flatten.length≤64:=by
 have:=v.outs;have:=v.fl;have:=v.s1;omega
def new (size cF:Nat):St:=⟨List.replicate cF [],[],0,List.replicate size false⟩
def settle (f:Int):List Bool→List Int→List Bool × Bool
 | H,[]=>(H,true)
 | H,x :: r=>if live f H x then settle f (H.set x.toNat true) r else (H,false)
theorem yK (f:Int) (H:List Bool) (x:Int) (r:List Int):settle f H (x :: r)=if live f H x then settle f (H.set x.toNat true) r else (H,false):=rfl
theorem yL (f:Int):∀ (H:List Bool) (l:List Int),(settle f H l).1.length=H.length
 | H,[]=>rfl
 | H,x :: r=>by
  unfold settle
  split
  ·rw [yL f _ r];simp
  ·rfl
theorem HZ (l:List Int) (k:Nat) (h:k < l.length):l.drop k=l.getD k 0 :: l.drop (k + 1):=by
 rw [List.drop_eq_getElem_cons h,List.getD_eq_getElem?_getD,List.getElem?_eq_getElem h];rfl
theorem BP (f:Int):∀ (H:List Bool) (a b:List Int),settle f H (a ++ b)=if (settle f H a).2 then settle f (settle f H a).1 b else settle f H a
 | H,[],b=>rfl
 | H,x :: r,b=>by
  rw [List.cons_append,yK,yK]
  by_cases h:live f H x=true
  ·rw [if_pos h,if_pos h];exact BP f _ r b
  ·rw [if_neg h,if_neg h];rfl
def of (size most f:Int) (C:List (List Int)) (M:List Int):Bool :=
 fits size C.length most && decide (0≤f) && decide (f≤size) && decide (∀ l∈C,(l.length:Int)≤most) && (settle f (List.replicate size.toNat false) (C.flatten ++ M)).2
end Po
namespace Sx
def qp:Pn.Op:=⟨0,0,0,0,[],false⟩
def rN:Cn:=⟨0,[],false,-1,[],[]⟩
def aa (s:ah) (g:Nat):Gr:=s.gs.getD g (clean [] 0)
def cn (s:ah) (ch:Int):Cn:=s.ax.getD (ch - 1).toNat rN
def su (s:ah) (i:Int):Su:=s.aD.getD i.toNat dX
def ag (s:ah) (g:Nat):Pn.Op:=(aa s g).ops.getD (aa s g).at_.toNat qp
def aM (s:ah) (ch:Int):Bool:=decide (1≤ch∧ch≤s.ax.length)
def ai (s:ah) (g:Nat) (x:Gr):ah:={ s with gs:=s.gs.set g x }
def aF (s:ah) (ch:Int) (c:Cn):ah:={ s with ax:=s.ax.set (ch - 1).toNat c }
def bg (s:ah) (i:Int) (x:Su):ah:={ s with aD:=s.aD.set i.toNat x }
def aO (s:ah) (g:Nat) (p:Int):ah:=ai s g { aa s g with place:=p }
def ja (x:Gr):Gr:={ clean x.ops x.at_ with place:=x.place,status:=x.status,token:=x.token }
def clear (s:ah) (g:Nat):ah:=ai s g (ja (aa s g))
def tryLock (s:ah) (g:Nat) (ch:Int):ah × Bool:=if (cn s ch).lock=-1 then (aF s ch { cn s ch with lock:=g },true) else (s,false)
def free (s:ah) (ch:Int):ah:=aF s ch { cn s ch with lock:=-1 }
def vY (s:ah):List Int:=s.middle ++ s.cache.flatten
def fS (s:ah) (x:Int):Bool:=decide (0≤x) && decide (x < s.fresh) && !(vY s).contains x
def bw (s:ah) (g:Nat):ah × Int × Bool :=
 if Po.own s.bM.toNat (s.cache.getD g []) s.middle=[] then (if s.fresh < s.cY then ({ s with fresh:=s.fresh + 1 },s.fresh,true) else (s,0,false))
 else ({ s with cache:=s.cache.set g (Po.own s.bM.toNat (s.cache.getD g []) s.middle).dropLast,middle:=Po.aW s.bM.toNat (s.cache.getD g []) s.middle },(Po.own s.bM.toNat (s.cache.getD g []) s.middle).getLastD 0,true)
def jO (s:ah) (g:Nat) (x:Int):ah :=
 if fS s x then { s with cache:=s.cache.set g ((s.cache.getD g []).take ((s.cache.getD g []).length - Po.eu s.bM.toNat (s.cache.getD g [])) ++ [x]),middle:=s.middle ++ (s.cache.getD g []).reverse.take (Po.eu s.bM.toNat (s.cache.getD g [])) }
 else s
def cR (s:ah) (g:Nat) (x:Int):ah:=bg (jO s g x) x dX
def fT (s:ah) (g:Nat):ah :=
 ai s g (if (aa s g).status=0∧(aa s g).token=true then { aa s g with token:=false } else if (aa s g).status=0 then { aa s g with status:=1 } else aa s g)
def ready (s:ah) (g:Nat):ah :=
 ai s g (if (aa s g).status=1 then { aa s g with status:=0 } else if (aa s g).status=0 then { aa s g with token:=true } else aa s g)
def pair (s:ah) (g:Nat) (i:Int):ah :=
 let x:=aa s g
 let o:=(su s i).g
 ai (ai s o.toNat { aa s o.toNat with cz:=x.t,wi:=g,dc:=(su s i).cs }) g { x with cz:=x.t,wi:=o }
def serve (s:ah) (g:Nat) (i:Int) (d:Bool):ah :=
 let o:=(su s i).g
 let s2:=bg (ai s o.toNat { aa s o.toNat with param:=i }) i { su s i with done:=d }
 ai s2 g { aa s2 g with an:=(aa s2 g).an ++ [o],hold:=-1 }
def an (s:ah) (g:Nat):ah:=if 0 < (aa s g).an.length then aO s g 17 else aO s g 18
def common (s:ah) (g:Nat):ah × Bool :=
 let x:=aa s g
 let o:=ag s g
 if x.place=4 then
  (if (tryLock s g o.ch).2=true then (if o.kind=6 then (aO (tryLock s g o.ch).1 g 21,true) else (aO (tryLock s g o.ch).1 g 5,true)) else (s,true))
 else if x.place=12 then (aO (free s o.ch) g 13,true)
 else if x.place=13 then (fT (aO s g 14) g,true)
 else if x.place=15 then (aO (ai (cR s g x.bq) g { x with bq:=-1 }) g 18,true)
 else if x.place=16 then (an (free s o.ch) g,true)
 else if x.place=17 then (an (ai (ready s (x.an.headD 0).toNat) g { x with an:=x.an.tail }) g,true)
 else (s,false)
def bG (s:ah) (g:Nat) (r:Md.ak) (p:Int):ah:=ai s g { aa s g with cz:=s.step,res:=r,place:=p }
def dI (v:Int) (ok:Bool):Md.ak:=⟨1,-1,v,ok,0⟩
def res (c:Int):Md.ak:=⟨c,-1,0,false,0⟩
def me:Md.ak:=⟨1,-1,0,true,0⟩
def room (c:Cn):Bool:=if 0 < c.cap then decide ((c.buf.length:Int) < c.cap) else decide (0 < c.recv.length)
def qt (c:Cn):Bool:=if 0 < c.cap then decide (0 < c.buf.length) else decide (0 < c.send.length)
def fU (l:List Int) (x:Int):List Int:=l.filter (· != x)
def bE (s:ah) (i:Int):ah :=
 if aM s (su s i).ch=true then aF s (su s i).ch { cn s (su s i).ch with recv:=fU (cn s (su s i).ch).recv i,send:=fU (cn s (su s i).ch).send i } else s
def taken (s:ah) (g:Nat) (i cX hand:Int):ah :=
 if 0≤(su s i).cs then aO (ai s g { aa s g with hold:=i }) g cX
 else aO (pair (bE (ai s g { aa s g with hold:=i,t:=s.step }) i) g i) g hand
def cX (s:ah) (g:Nat) (back on:Int):ah :=
 let x:=aa s g
 let p:=(su s x.hold).g.toNat
 if (aa s p).bp=true then ai (bE s x.hold) g { x with hold:=-1,place:=back }
 else aO (pair (ai (ai s g { x with t:=s.step }) p { aa s p with bp:=true }) g x.hold) g on
def bq (s:ah) (g:Nat) (d:Su):ah :=
 if (bw s g).2.2=true then ai (bg (bw s g).1 (bw s g).2.1 d) g { aa s g with bq:=(bw s g).2.1,place:=11 }
 else ai (bw s g).1 g { aa s g with res:={ (aa s g).res with code:=6 },place:=16 }
def kI (s:ah) (g:Nat) (v:Int):ah :=
 let h:=(aa s g).hold
 let s1:=bE s h
 serve (bg s1 h { su s1 h with v:=v }) g h true
def gH (l:List Int) (room v:Int):List Int × Bool:=if room≤l.length then (l,false) else (l ++ [v],true)
def fE (l:List Int):List Int × Int × Bool:=if l.length=0 then (l,0,false) else (l.tail,l.headD 0,true)
def fM (l:List Int) (room v:Int):List Int × Int × Bool:=if (l.length:Int) < room∨l.length=0 then (l,0,false) else (l.tail ++ [v],l.headD 0,true)
def bJ (s:ah) (g:Nat):ah × Bool :=
  let x:=aa s g
  let o:=ag s g
  let c:=cn s o.ch
  if o.kind≠2∧o.kind≠4 then (s,false)
  else if (common s g).2=true then ((common s g).1,true)
  else if aM s o.ch=false then (s,false)
  else if x.place=1 then (if room c=true then (aO s g 4,true) else (bG s g x.res 2,true))
  else if x.place=2 then (if c.closed=true then (ai s g { x with cz:=0,place:=4 },true) else (ai s g { x with res:={ x.res with code:=2 },place:=18 },true))
  else if x.place=5 then (if c.closed=true then (bG s g (res 3) 16,true) else (aO s g 6,true))
  else if x.place=6 then (if c.recv.length=0 then (aO s g 9,true) else (taken s g (c.recv.headD 0) 7 8,true))
  else if x.place=7 then (cX s g 6 8,true)
  else if x.place=8 then (ai (kI s g o.v) g { aa (kI s g o.v) g with res:=me,place:=16 },true)
  else if x.place=9 then
    (if (gH c.buf c.cap o.v).2=true then (bG (aF s o.ch { c with buf:=(gH c.buf c.cap o.v).1 }) g me 16,true)
     else if o.kind=4 then (bG s g (res 2) 16,true) else (aO s g 10,true))
  else if x.place=10 then (bq s g ⟨true,g,o.ch,-1,true,o.v,false⟩,true)
  else if x.place=11 then (ai (aF s o.ch { c with send:=c.send ++ [x.bq] }) g { x with iF:=s.step,place:=12 },true)
  else if x.place=14 then (ai s g { x with res:=if (su s x.param).done=true then me else res 3,param:=-1,place:=15 },true)
  else (s,false)
def hand (s:ah) (ch i:Int):ah × Int :=
 let c:=cn s ch
 if c.cap=0 then (s,(su s i).v)
 else (aF s ch { c with buf:=(fM c.buf c.cap (su s i).v).1 },(fM c.buf c.cap (su s i).v).2.1)
def bF (s:ah) (g:Nat):ah × Bool :=
  let x:=aa s g
  let o:=ag s g
  let c:=cn s o.ch
  if o.kind≠3∧o.kind≠5 then (s,false)
  else if (common s g).2=true then ((common s g).1,true)
  else if aM s o.ch=false then (s,false)
  else if x.place=1 then (if qt c=true then (aO s g 4,true) else (bG s g x.res 2,true))
  else if x.place=2 then (if c.closed=true then (aO s g 3,true) else (ai s g { x with res:={ x.res with code:=2 },place:=18 },true))
  else if x.place=3 then (if qt c=true then (ai s g { x with cz:=0,place:=4 },true) else (bG s g (dI 0 false) 18,true))
  else if x.place=5 then
    (if c.closed=true∧c.buf.length=0 then (bG s g (dI 0 false) 16,true) else if c.closed=true then (aO s g 9,true) else (aO s g 6,true))
  else if x.place=6 then (if c.send.length=0 then (aO s g 9,true) else (taken s g (c.send.headD 0) 7 8,true))
  else if x.place=7 then (cX s g 6 8,true)
  else if x.place=8 then
    (let n:=hand (bE s x.hold) o.ch x.hold
     let n2:=serve n.1 g x.hold true
     (ai n2 g { aa n2 g with res:=dI n.2 true,place:=16 },true))
  else if x.place=9 then
    (if (fE c.buf).2.2=true then (bG (aF s o.ch { c with buf:=(fE c.buf).1 }) g (dI (fE c.buf).2.1 true) 16,true)
     else if o.kind=5 then (bG s g (res 2) 16,true) else (aO s g 10,true))
  else if x.place=10 then (bq s g ⟨true,g,o.ch,-1,false,0,false⟩,true)
  else if x.place=11 then (ai (aF s o.ch { c with recv:=c.recv ++ [x.bq] }) g { x with iF:=s.step,place:=12 },true)
  else if x.place=14 then (ai s g { x with res:=if (su s x.param).done=true then dI (su s x.param).v true else dI 0 false,param:=-1,place:=15 },true)
  else (s,false)
def gO (s:ah) (g:Nat):ah :=
 let i:=(aa s g).hold
 let s1:=bE (ai s g { aa s g with t:=s.step }) i
 let d:=su s1 i
 serve (ai s1 d.g.toNat { aa s1 d.g.toNat with cz:=(aa s1 g).t,dc:=d.cs }) g i false
def j9 (s:ah) (g:Nat) (i:Int):ah :=
 let s1:=ai s g { aa s g with hold:=i }
 if 0≤(su s1 i).cs then aO s1 g 23 else gO s1 g
def kZ (s:ah) (g:Nat):ah :=
 let x:=aa s g
 let p:=(su s x.hold).g.toNat
 if (aa s p).bp=true then ai (bE s x.hold) g { x with hold:=-1,place:=22 }
 else aO (gO (ai s p { aa s p with bp:=true }) g) g 22
def dh (s:ah) (g:Nat):ah × Bool :=
 let x:=aa s g
 let o:=ag s g
 let c:=cn s o.ch
 if o.kind≠6 then (s,false)
 else if (common s g).2=true then ((common s g).1,true)
 else if aM s o.ch=false then (s,false)
 else if x.place=21 then (if c.closed=true then (bG s g (res 4) 16,true) else (bG (aF s o.ch { c with closed:=true }) g me 22,true))
 else if x.place=22 then
  (if 0 < c.recv.length then (j9 s g (c.recv.headD 0),true) else if 0 < c.send.length then (j9 s g (c.send.headD 0),true) else (aO s g 16,true))
 else if x.place=23 then (kZ s g,true)
 else (s,false)
def unlock (s:ah) (g:Nat) (p:Int):ah:=ai s g { aa s g with k:=(aa s g).aC.length,place:=p }
def dR (s:ah) (g:Nat) (r:Md.ak) (i:Int):ah :=
 let s1:=bG s g { r with cs:=i } 30
 unlock (ai s1 g { aa s1 g with dc:=i }) g 30
def aB (l:List Int) (k:Int):Int:=l.getD k.toNat 0
def lock (s:ah) (g:Nat) (p:Int):ah :=
 let x:=aa s g
 if (tryLock s g (aB x.aC x.k)).2=true then
  (if x.k + 1=x.aC.length then ai (tryLock s g (aB x.aC x.k)).1 g { x with k:=0,place:=p } else ai (tryLock s g (aB x.aC x.k)).1 g { x with k:=x.k + 1 })
 else s
def next (s:ah) (g:Nat) (p:Int):ah :=
 let x:=aa s g
 if x.k + 1=x.order.length then ai s g { x with k:=0,place:=p } else ai s g { x with k:=x.k + 1 }
def fz (s:ah) (g:Nat):ah :=
 let x:=aa s g
 if x.place=27 then ai s g { x with dc:=aB x.order x.k } else ai s g x
def H6:Pn.Cs:=⟨false,0,0⟩
def bY (o:Pn.Op) (i:Int):Pn.Cs:=o.cases.getD i.toNat H6
def gP (s:ah) (g:Nat) (i:Int) (k:Pn.Cs):ah × Bool :=
 let c:=cn s k.ch
 if c.closed=true then (dR s g ⟨3,0,0,false,0⟩ i,true)
 else if 0 < c.recv.length then (fz (taken s g (c.recv.headD 0) 26 27) g,true)
 else if (gH c.buf c.cap k.v).2=true then (dR (aF s k.ch { c with buf:=(gH c.buf c.cap k.v).1 }) g ⟨1,0,0,true,0⟩ i,true)
 else (s,false)
def iG (s:ah) (g:Nat) (i:Int) (k:Pn.Cs):ah × Bool :=
 let c:=cn s k.ch
 if 0 < c.send.length then (fz (taken s g (c.send.headD 0) 26 27) g,true)
 else if (fE c.buf).2.2=true then (dR (aF s k.ch { c with buf:=(fE c.buf).1 }) g (dI (fE c.buf).2.1 true) i,true)
 else if c.closed=true then (dR s g (dI 0 false) i,true)
 else (s,false)
def jb (s:ah) (g:Nat) (o:Pn.Op):ah :=
 let x:=aa s g
 let i:=aB x.order x.k
 let k:=bY o i
 let r:=if k.send=true then gP s g i k else iG s g i k
 if r.2=true then r.1
 else if x.k + 1 < x.order.length then next s g 25
 else if o.cQ=true then dR s g ⟨2,0,0,false,0⟩ (-1)
 else next (ai s g { x with au:=List.replicate o.cases.length (-1) }) g 28
def jd (s:ah) (g:Nat) (o:Pn.Op):ah :=
 let x:=aa s g
 let i:=aB x.order x.k
 let k:=bY o i
 let s1:=bE s x.hold
 let n:=if k.send=true then (bg s1 x.hold { su s1 x.hold with v:=k.v },(⟨1,i,0,true,0⟩:Md.ak)) else ((hand s1 k.ch x.hold).1,{ dI (hand s1 k.ch x.hold).2 true with cs:=i })
 let s2:=serve n.1 g x.hold true
 unlock (ai s2 g { aa s2 g with res:=n.2 }) g 30
def aD (s:ah) (g:Nat) (o:Pn.Op):ah :=
 let x:=aa s g
 let i:=aB x.order x.k
 let k:=bY o i
 if (bw s g).2.2=true then
  next (ai (bg (bw s g).1 (bw s g).2.1 ⟨true,g,k.ch,i,k.send,k.v,false⟩) g { x with au:=x.au.set i.toNat (bw s g).2.1 }) g 29
 else unlock (ai (bw s g).1 g { x with res:={ x.res with code:=6 } }) g 30
def jP (s:ah) (g:Nat) (o:Pn.Op):ah :=
 let x:=aa s g
 let i:=aB x.order x.k
 let k:=bY o i
 let c:=cn s k.ch
 let s1:=aF s k.ch (if k.send=true then { c with send:=c.send ++ [aB x.au i] } else { c with recv:=c.recv ++ [aB x.au i] })
 if x.k + 1 < x.order.length then next s1 g 29
 else unlock (ai s1 g { x with iF:=s1.step }) g 30
def cK (s:ah) (g:Nat):ah × Bool :=
 let x:=aa s g
 (ai (free s (aB x.aC (x.k - 1))) g { x with k:=x.k - 1 },decide (0 < x.k - 1))
def lf (l:List Int):Bool:=l.any (fun x=>decide (0≤x))
def kJ (s:ah) (g:Nat):ah :=
 let x:=aa s g
 let d:=su s x.param
 let r:Md.ak:=if d.done=true then { dI d.v true with cs:=d.cs } else { dI 0 false with cs:=d.cs }
 let r2:Md.ak:=if d.send=true∧d.done=true then { r with v:=0 } else if d.send=true then ⟨3,d.cs,0,false,0⟩ else r
 ai s g { x with res:=r2,param:=-1,k:=0,place:=31 }
def jQ (s:ah) (g:Nat):ah :=
 let x:=aa s g
 let s1:=bE s (aB x.au (aB x.order x.k))
 if x.k + 1 < x.order.length then next s1 g 32 else unlock s1 g 33
def je (s:ah) (g:Nat):ah :=
 let x:=aa s g
 let i:=aB x.order x.k
 let s1:=if 0≤aB x.au i then cR s g (aB x.au i) else s
 if x.k + 1=x.order.length then an (next (ai s1 g { x with au:=[] }) g 34) g
 else next (ai s1 g { x with au:=x.au.set i.toNat (-1) }) g 34
def bk (s:ah) (g:Nat):ah × Bool :=
  let x:=aa s g
  let o:=ag s g
  if o.kind≠9 then (s,false)
  else if x.place=24 then (lock s g 25,true)
  else if x.place=25 then (jb s g o,true)
  else if x.place=26 then (fz (cX s g 25 27) g,true)
  else if x.place=27 then (jd s g o,true)
  else if x.place=28 then (aD s g o,true)
  else if x.place=29 then (jP s g o,true)
  else if x.place=30 then
    (if (cK s g).2=true then ((cK s g).1,true) else if x.res.code=0 then (aO (cK s g).1 g 13,true)
     else if lf x.au=true then (aO (cK s g).1 g 34,true) else (an (cK s g).1 g,true))
  else if x.place=14 then (kJ s g,true)
  else if x.place=31 then (lock s g 32,true)
  else if x.place=32 then (jQ s g,true)
  else if x.place=33 then (if (cK s g).2=true then ((cK s g).1,true) else (aO (cK s g).1 g 34,true))
  else if x.place=34 then (je s g,true)
  else if x.place=13∨x.place=17 then common s g
  else (s,false)
def never (s:ah) (g:Nat):ah:=fT (aO s g 19) g
def draw (l:List Int) (at_ n:Int):Int × Int:=if n < 1∨(l.length:Int)≤at_ then (0,at_) else ((aB l at_) % n,at_ + 1)
def drawn:ah→Nat→List Int × Int
 | s,0=>([],s.drawn)
 | s,n + 1=>((drawn s n).1 ++ [(draw s.cD (drawn s n).2 (n + 1)).1],(draw s.cD (drawn s n).2 (n + 1)).2)
def swap (l:List Int) (i j:Nat):List Int:=(l.set i (l.getD j 0)).set j (l.getD i 0)
def dA (ds:List Int):Nat→List Int
 | 0=>[]
 | n + 1=>swap (dA ds n ++ [(n:Int)]) (ds.getD n 0 % (n + 1)).toNat n
def insert (x:Int):List Int→List Int
 | []=>[x]
 | y :: l=>if y≤x then y :: insert x l else x :: y :: l
def sort (l:List Int):List Int:=l.foldl (fun acc x=>insert x acc) []
def fV (acc:List Int) (x:Int):List Int:=if x≤0∨(0 < acc.length∧acc.getLastD 0=x) then acc else acc ++ [x]
def aC (l:List Int):List Int:=(sort l).foldl fV []
def jf (s:ah) (g:Nat) (o:Pn.Op):ah :=
 let n:=o.cases.length
 let s1:={ s with drawn:=(drawn s n).2 }
 let ord:=dA (drawn s n).1 n
 let ij:=ord.filter (fun i=>aM s (bY o i).ch)
 let ids:=ij.map (fun i=>(bY o i).ch)
 let s2:=ai s1 g { aa s g with order:=(aa s g).order ++ ij,aC:=aC ids,place:=24 }
 if 0 < ids.length then s2 else if o.cQ=true then bG s2 g (res 2) 18 else never s2 g
def jg (s:ah) (g:Nat):ah :=
 let x:=aa s g
 if (x.ops.length:Int)≤x.at_ then ai s g { x with status:=2,token:=false }
 else
  let s1:=clear s g
  let s2:=ai s1 g { aa s1 g with call:=s1.step }
  let o:=ag s2 g
  let m:=aM s2 o.ch
  if o.kind=1∨o.kind=7∨o.kind=8 then aO s2 g 20
  else if o.kind=2∨o.kind=3 then (if m=true then aO s2 g 4 else never s2 g)
  else if o.kind=4∨o.kind=5 then (if m=true then aO s2 g 1 else bG s2 g (res 2) 18)
  else if o.kind=6 then (if m=true then aO s2 g 4 else bG s2 g (res 5) 18)
  else jf s2 g o
def jh (s:ah) (g:Nat):ah :=
 let o:=ag s g
 if o.kind=1∧8≤s.ax.length then bG s g (res 7) 18
 else if o.kind=1 then bG { s with ax:=s.ax ++ [⟨o.n,[],false,-1,[],[]⟩] } g ⟨1,-1,0,true,s.ax.length + 1⟩ 18
 else if aM s o.ch=true∧o.kind=7 then bG s g ⟨1,-1,0,true,(cn s o.ch).buf.length⟩ 18
 else if aM s o.ch=true then bG s g ⟨1,-1,0,true,(cn s o.ch).cap⟩ 18
 else bG s g ⟨1,-1,0,true,0⟩ 18
def mark (s:ah) (g:Nat) (re:Int):Mk :=
 let x:=aa s g
 ⟨g,x.at_,x.call,x.iF,x.cz,x.wi,x.dc,re,x.res⟩
def answer (s:ah) (g:Nat):ah :=
 let s1:={ s with done:=s.done ++ [mark s g s.step] }
 clear (ai s1 g { aa s1 g with at_:=(aa s1 g).at_ + 1,place:=0 }) g
def gQ (s:ah) (g:Nat):ah × Bool :=
 let x:=aa s g
 if x.place=0 then (jg s g,true) else if x.place=20 then (jh s g,true) else if x.place=18 then (answer s g,true) else (s,false)
def running (s:ah):List Int:=((List.range s.gs.length).filter (fun g=>decide ((aa s g).status=0))).map Int.ofNat
def one (s:ah) (g:Int):ah × Bool :=
 if g < 0∨(s.gs.length:Int)≤g∨(aa s g.toNat).status≠0 then (s,false)
 else
  let n:={ s with step:=s.step + 1 }
  if (gQ n g.toNat).2=true then ((gQ n g.toNat).1,true)
  else if (bJ n g.toNat).2=true then ((bJ n g.toNat).1,true)
  else if (bF n g.toNat).2=true then ((bF n g.toNat).1,true)
  else if (dh n g.toNat).2=true then ((dh n g.toNat).1,true)
  else if (bk n g.toNat).2=true then ((bk n g.toNat).1,true)
  else (s,false)
def pick (s:ah) (p:Int):Int:=if (running s).length=0 then -1 else aB (running s) (p % ((running s).length:Int))
def runs (s:ah):List Int→ah × Int
 | []=>(s,0)
 | p :: r=>if pick s p < 0 then (s,0) else ((runs (one s (pick s p)).1 r).1,(runs (one s (pick s p)).1 r).2 + 1)
end Sx
namespace Fl
open Sx Go.Proofs.Tryz
instance:dN prog 2 1:={}
instance:eE prog 2:={}
instance:aR prog 2 [.int .i64 0]:={}
instance:jv prog 2 .i64:={}
instance:dN prog 3 1:={}
instance:eE prog 3:={}
instance:aR prog 3 [.int .i64 0]:={}
instance:jv prog 3 .i64:={}
instance:dN prog 4 1:={}
instance:eE prog 4:={}
instance:aR prog 4 [.bool false]:={}
instance:tr prog 4:={}
instance:aR prog 5 [.int .u8 0]:={}
instance:jv prog 5 .u8:={}
instance:aR prog 6 [.int .u8 0]:={}
instance:jv prog 6 .u8:={}
instance:aR prog 7 [.int .i64 0,.int .i64 0,.bool false,.int .u8 0]:={}
instance:aR prog 8 [.int .i64 0,.int .i64 0,.bool false,.int .u8 0]:={}
instance:aR prog 9 [.string ⟨#[]⟩]:={}
instance:aR prog 10 [.string ⟨#[]⟩]:={}
instance:aR prog 11 [.string ⟨#[]⟩]:={}
instance:aR prog 12 [.int .u64 0]:={}
instance:jv prog 12 .u64:={}
instance:aR prog 13 [.string ⟨#[]⟩,.int .u64 0]:={}
instance:aR prog 14 [.string ⟨#[]⟩,.int .u64 0]:={}
instance:aR prog 15 [.pointer none]:={}
instance:aR prog 16 [.pointer none]:={}
instance:aR prog 17 [.pointer none]:={}
instance:aR prog 18 [.pointer none]:={}
instance:aR prog 19 [.pointer none]:={}
instance:aR prog 21 [.int .i32 0]:={}
instance:jv prog 21 .i32:={}
instance:eE prog 22:={}
instance:aR prog 22 [.slice none 0 0]:={}
instance:dQ prog 22 53 1:={}
instance:eK prog 22 53 1 24 (.slice none 0 0):=⟨⟨by kernel_rfl,by kernel_rfl,rfl,by decide,by decide⟩⟩
instance:aR prog 23 [.int .i64 0,.int .i64 0]:={}
instance:iU prog 24 2:={}
instance:aR prog 24 [.int .i64 0,.int .i64 0]:={}
instance:aX prog 24 0 0:={}
instance:aX prog 24 1 1:={}
instance:gF prog 24 [(0,1),(1,1)]:={}
instance:eE prog 25:={}
instance:aR prog 25 [.slice none 0 0]:={}
instance:dQ prog 25 109 1:={}
instance:eK prog 25 109 1 2 (.int .u16 0):=⟨⟨by kernel_rfl,by kernel_rfl,rfl,by decide,by decide⟩⟩
instance:aR prog 26 [.slice none 0 0,.int .i64 0,.int .i64 0,.slice none 0 0]:={}
instance:iU prog 27 4:={}
instance:aR prog 27 [.slice none 0 0,.int .i64 0,.int .i64 0,.slice none 0 0]:={}
instance:aX prog 27 0 0:={}
instance:aX prog 27 1 1:={}
instance:aX prog 27 2 3:={}
instance:dN prog 28 1:={}
instance:eE prog 28:={}
instance:aR prog 28 [.slice none 0 0]:={}
instance:dQ prog 28 3 1:={}
instance:eK prog 28 3 1 8 (.int .i64 0):=⟨⟨by kernel_rfl,by kernel_rfl,rfl,by decide,by decide⟩⟩
instance:dN prog 30 1:={}
instance:eE prog 30:={}
instance:aR prog 30 [.slice none 0 0]:={}
instance:dQ prog 30 55 25:={}
instance:eK prog 30 55 25 280 (.agg #[.slice none 0 0,.int .i64 0,.int .i64 0,.int .i64 0,.bool false,.int .i64 0,.bool false,.int .i64 0,.int .i64 0,.int .i64 0,.int .i64 0,.int .i64 0,.int .i64 0,.int .i64 0,.int .i64 0,.int .i64 0,.int .i64 0,.int .i64 0,.bool false,.int .i64 0,.slice none 0 0,.slice none 0 0,.slice none 0 0,.slice none 0 0,.int .i64 0]):=⟨⟨by kernel_rfl,by kernel_rfl,rfl,by decide,by decide⟩⟩
instance:dN prog 31 1:={}
instance:eE prog 31:={}
instance:aR prog 31 [.slice none 0 0]:={}
instance:dQ prog 31 97 6:={}
instance:eK prog 31 97 6 96 (.agg #[.int .i64 0,.slice none 0 0,.bool false,.int .i64 0,.slice none 0 0,.slice none 0 0]):=⟨⟨by kernel_rfl,by kernel_rfl,rfl,by decide,by decide⟩⟩
instance:dN prog 32 1:={}
instance:eE prog 32:={}
instance:aR prog 32 [.slice none 0 0]:={}
instance:dQ prog 32 60 7:={}
instance:eK prog 32 60 7 56 (.agg #[.bool false,.int .i64 0,.int .i64 0,.int .i64 0,.bool false,.int .i64 0,.bool false]):=⟨⟨by kernel_rfl,by kernel_rfl,rfl,by decide,by decide⟩⟩
instance:dN prog 33 1:={}
instance:eE prog 33:={}
instance:aR prog 33 [.slice none 0 0]:={}
instance:dQ prog 33 28 1:={}
instance:eK prog 33 28 1 24 (.slice none 0 0):=⟨⟨by kernel_rfl,by kernel_rfl,rfl,by decide,by decide⟩⟩
instance:dN prog 34 1:={}
instance:eE prog 34:={}
instance:aR prog 34 [.slice none 0 0]:={}
instance:dQ prog 34 46 13:={}
instance:eK prog 34 46 13 104 (.agg #[.int .i64 0,.int .i64 0,.int .i64 0,.int .i64 0,.int .i64 0,.int .i64 0,.int .i64 0,.int .i64 0,.int .i64 0,.int .i64 0,.int .i64 0,.bool false,.int .i64 0]):=⟨⟨by kernel_rfl,by kernel_rfl,rfl,by decide,by decide⟩⟩
instance:aR prog 35 [.int .i64 0,.int .i64 0,.int .i64 0,.slice none 0 0,.slice none 0 0,.slice none 0 0,.slice none 0 0,.slice none 0 0,.int .i64 0,.slice none 0 0,.int .i64 0,.slice none 0 0]:={}
instance:dN prog 36 12:={}
instance:iU prog 36 12:={}
instance:aR prog 36 [.int .i64 0,.int .i64 0,.int .i64 0,.slice none 0 0,.slice none 0 0,.slice none 0 0,.slice none 0 0,.slice none 0 0,.int .i64 0,.slice none 0 0,.int .i64 0,.slice none 0 0]:={}
instance:aX prog 36 0 0:={}
instance:aX prog 36 1 2:={}
instance:aX prog 36 2 3:={}
instance:aX prog 36 3 4:={}
instance:aX prog 36 4 5:={}
instance:aX prog 36 5 6:={}
instance:aX prog 36 6 7:={}
instance:aX prog 36 7 8:={}
instance:aX prog 36 8 9:={}
instance:aX prog 36 9 10:={}
instance:aX prog 36 10 11:={}
instance:gF prog 36 [(0,2),(2,1),(3,1),(4,1),(5,1),(6,1),(7,1),(8,1),(9,1),(10,1),(11,1)]:={}
instance:aR prog 43 [.int .i64 0,.int .i64 0,.int .i64 0,.bool false,.int .i64 0]:={}
instance:dN prog 44 5:={}
instance:iU prog 44 5:={}
instance:aR prog 44 [.int .i64 0,.int .i64 0,.int .i64 0,.bool false,.int .i64 0]:={}
instance:aX prog 44 0 0:={}
instance:aX prog 44 1 1:={}
instance:aX prog 44 2 2:={}
instance:aX prog 44 4 4:={}
instance:gF prog 44 [(0,1),(1,1),(2,1),(3,1),(4,1)]:={}
instance:aR prog 45 [.int .i64 0,.int .i64 0,.int .i64 0,.int .i64 0,.int .i64 0,.int .i64 0,.int .i64 0,.int .i64 0,.int .i64 0,.int .i64 0,.int .i64 0,.bool false,.int .i64 0]:={}
instance:dN prog 46 13:={}
instance:iU prog 46 13:={}
instance:aR prog 46 [.int .i64 0,.int .i64 0,.int .i64 0,.int .i64 0,.int .i64 0,.int .i64 0,.int .i64 0,.int .i64 0,.int .i64 0,.int .i64 0,.int .i64 0,.bool false,.int .i64 0]:={}
instance:aX prog 46 0 0:={}
instance:gF prog 46 [(0,1),(1,1),(2,1),(3,1),(4,1),(5,1),(6,1),(7,1),(8,5)]:={}
instance:aR prog 49 [.pointer none]:={}
instance:dN prog 53 1:={}
instance:eE prog 53:={}
instance:aR prog 53 [.slice none 0 0]:={}
instance:dQ prog 53 58 6:={}
instance:eK prog 53 58 6 64 (.agg #[.int .i64 0,.int .i64 0,.int .i64 0,.int .i64 0,.slice none 0 0,.bool false]):=⟨⟨by kernel_rfl,by kernel_rfl,rfl,by decide,by decide⟩⟩
instance:aR prog 54 [.slice none 0 0,.int .i64 0,.int .i64 0,.int .i64 0,.bool false,.int .i64 0,.bool false,.int .i64 0,.int .i64 0,.int .i64 0,.int .i64 0,.int .i64 0,.int .i64 0,.int .i64 0,.int .i64 0,.int .i64 0,.int .i64 0,.int .i64 0,.bool false,.int .i64 0,.slice none 0 0,.slice none 0 0,.slice none 0 0,.slice none 0 0,.int .i64 0]:={}
instance:dN prog 55 25:={}
instance:iU prog 55 25:={}
instance:aR prog 55 [.slice none 0 0,.int .i64 0,.int .i64 0,.int .i64 0,.bool false,.int .i64 0,.bool false,.int .i64 0,.int .i64 0,.int .i64 0,.int .i64 0,.int .i64 0,.int .i64 0,.int .i64 0,.int .i64 0,.int .i64 0,.int .i64 0,.int .i64 0,.bool false,.int .i64 0,.slice none 0 0,.slice none 0 0,.slice none 0 0,.slice none 0 0,.int .i64 0]:={}
instance:aX prog 55 0 0:={}
instance:aX prog 55 1 1:={}
instance:aX prog 55 2 2:={}
instance:aX prog 55 3 3:={}
instance:aX prog 55 4 4:={}
instance:aX prog 55 5 5:={}
instance:aX prog 55 6 6:={}
instance:aX prog 55 7 7:={}
instance:aX prog 55 8 8:={}
instance:aX prog 55 9 9:={}
instance:aX prog 55 10 10:={}
instance:aX prog 55 11 11:={}
instance:aX prog 55 12 12:={}
instance:aX prog 55 13 13:={}
instance:aX prog 55 14 14:={}
instance:aX prog 55 15 15:={}
instance:aX prog 55 16 20:={}
instance:aX prog 55 17 21:={}
instance:aX prog 55 18 22:={}
instance:aX prog 55 19 23:={}
instance:aX prog 55 20 24:={}
instance:gF prog 55 [(0,1),(1,1),(2,1),(3,1),(4,1),(5,1),(6,1),(7,1),(8,1),(9,1),(10,1),(11,1),(12,1),(13,1),(14,1),(15,5),(20,1),(21,1),(22,1),(23,1),(24,1)]:={}
instance:dN prog 56 1:={}
instance:eE prog 56:={}
instance:aR prog 56 [.slice none 0 0]:={}
instance:dQ prog 56 165 3:={}
instance:eK prog 56 165 3 24 (.agg #[.bool false,.int .i64 0,.int .i64 0]):=⟨⟨by kernel_rfl,by kernel_rfl,rfl,by decide,by decide⟩⟩
instance:aR prog 57 [.int .i64 0,.int .i64 0,.int .i64 0,.int .i64 0,.slice none 0 0,.bool false]:={}
instance:dN prog 58 6:={}
instance:iU prog 58 6:={}
instance:aR prog 58 [.int .i64 0,.int .i64 0,.int .i64 0,.int .i64 0,.slice none 0 0,.bool false]:={}
instance:aX prog 58 0 0:={}
instance:aX prog 58 1 1:={}
instance:aX prog 58 2 2:={}
instance:aX prog 58 3 3:={}
instance:aX prog 58 4 4:={}
instance:aX prog 58 5 5:={}
instance:gF prog 58 [(0,1),(1,1),(2,1),(3,1),(4,1),(5,1)]:={}
instance:aR prog 59 [.bool false,.int .i64 0,.int .i64 0,.int .i64 0,.bool false,.int .i64 0,.bool false]:={}
instance:dN prog 60 7:={}
instance:iU prog 60 7:={}
instance:aR prog 60 [.bool false,.int .i64 0,.int .i64 0,.int .i64 0,.bool false,.int .i64 0,.bool false]:={}
instance:aX prog 60 1 1:={}
instance:aX prog 60 2 2:={}
instance:aX prog 60 3 3:={}
instance:aX prog 60 4 4:={}
instance:aX prog 60 5 5:={}
instance:aX prog 60 6 6:={}
instance:gF prog 60 [(0,1),(1,1),(2,1),(3,1),(4,1),(5,1),(6,1)]:={}
instance:aR prog 61 [.slice none 0 0]:={}
instance:eK prog 61 111 3 24 (.agg #[.int .i64 0,.int .i64 0,.int .i64 0]):=⟨⟨by kernel_rfl,by kernel_rfl,rfl,by decide,by decide⟩⟩
instance:aR prog 63 [.slice none 0 0]:={}
instance:eK prog 63 115 9 72 (.agg #[.int .i64 0,.int .i64 0,.int .i64 0,.bool false,.int .i64 0,.int .i64 0,.int .i64 0,.bool false,.int .i64 0]):=⟨⟨by kernel_rfl,by kernel_rfl,rfl,by decide,by decide⟩⟩
instance:aR prog 73 [.int .i64 0]:={}
instance:jv prog 73 .i64:={}
instance:eE prog 76:={}
instance:aR prog 76 [.pointer none]:={}
instance:eE prog 78:={}
instance:aR prog 78 [.pointer none]:={}
instance:eE prog 80:={}
instance:aR prog 80 [.pointer none]:={}
instance:dN prog 82 1:={}
instance:eE prog 82:={}
instance:aR prog 82 [.slice none 0 0]:={}
instance:dQ prog 82 104 1:={}
instance:eK prog 82 104 1 8 (.pointer none):=⟨⟨by kernel_rfl,by kernel_rfl,rfl,by decide,by decide⟩⟩
instance:dN prog 83 1:={}
instance:eE prog 83:={}
instance:aR prog 83 [.slice none 0 0]:={}
instance:dQ prog 83 4 1:={}
instance:eK prog 83 4 1 1 (.bool false):=⟨⟨by kernel_rfl,by kernel_rfl,rfl,by decide,by decide⟩⟩
instance:dN prog 84 1:={}
instance:eE prog 84:={}
instance:aR prog 84 [.pointer none]:={}
instance:dN prog 85 1:={}
instance:eE prog 85:={}
instance:aR prog 85 [.pointer none]:={}
instance:aR prog 86 [.int .i64 0,.int .i64 0,.int .i64 0,.slice none 0 0,.pointer none,.slice none 0 0,.slice none 0 0,.pointer none,.pointer none,.slice none 0 0,.pointer none,.pointer none,.slice none 0 0,.slice none 0 0]:={}
instance:aR prog 87 [.int .i64 0,.int .i64 0,.int .i64 0,.slice none 0 0,.pointer none,.slice none 0 0,.slice none 0 0,.pointer none,.pointer none,.slice none 0 0,.pointer none,.pointer none,.slice none 0 0,.slice none 0 0]:={}
instance:aX prog 87 0 0:={}
instance:aX prog 87 1 2:={}
instance:aX prog 87 2 3:={}
instance:aX prog 87 3 4:={}
instance:aX prog 87 4 5:={}
instance:aX prog 87 5 6:={}
instance:aX prog 87 6 7:={}
instance:aX prog 87 7 8:={}
instance:aX prog 87 8 9:={}
instance:aX prog 87 9 10:={}
instance:aX prog 87 10 11:={}
instance:aX prog 87 11 12:={}
instance:aX prog 87 12 13:={}
instance:gF prog 87 [(0,2),(2,1),(3,1),(4,1),(5,1),(6,1),(7,1),(8,1),(9,1),(10,1),(11,1),(12,1),(13,1)]:={}
instance:dN prog 95 1:={}
instance:eE prog 95:={}
instance:aR prog 95 [.slice none 0 0]:={}
instance:dQ prog 95 2 1:={}
instance:eK prog 95 2 1 8 (.int .i64 0):=⟨⟨by kernel_rfl,by kernel_rfl,rfl,by decide,by decide⟩⟩
instance:aR prog 96 [.int .i64 0,.slice none 0 0,.bool false,.int .i64 0,.slice none 0 0,.slice none 0 0]:={}
instance:dN prog 97 6:={}
instance:iU prog 97 6:={}
instance:aR prog 97 [.int .i64 0,.slice none 0 0,.bool false,.int .i64 0,.slice none 0 0,.slice none 0 0]:={}
instance:aX prog 97 0 0:={}
instance:aX prog 97 1 1:={}
instance:aX prog 97 2 2:={}
instance:aX prog 97 3 3:={}
instance:aX prog 97 4 4:={}
instance:aX prog 97 5 5:={}
instance:gF prog 97 [(0,1),(1,1),(2,1),(3,1),(4,1),(5,1)]:={}
instance:eE prog 104:={}
instance:aR prog 104 [.pointer none]:={}
instance:eE prog 109:={}
instance:aR prog 109 [.int .u16 0]:={}
instance:jv prog 109 .u16:={}
instance:aR prog 110 [.int .i64 0,.int .i64 0,.int .i64 0]:={}
instance:aR prog 111 [.int .i64 0,.int .i64 0,.int .i64 0]:={}
instance:aR prog 114 [.int .i64 0,.int .i64 0,.int .i64 0,.bool false,.int .i64 0,.int .i64 0,.int .i64 0,.bool false,.int .i64 0]:={}
instance:aR prog 115 [.int .i64 0,.int .i64 0,.int .i64 0,.bool false,.int .i64 0,.int .i64 0,.int .i64 0,.bool false,.int .i64 0]:={}
instance:eE prog 126:={}
instance:aR prog 126 [.slice none 0 0]:={}
instance:dQ prog 126 145 2:={}
instance:eK prog 126 145 2 16 (.agg #[.int .i64 0,.bool false]):=⟨⟨by kernel_rfl,by kernel_rfl,rfl,by decide,by decide⟩⟩
instance:aR prog 127 [.slice none 0 0]:={}
instance:aR prog 128 [.slice none 0 0]:={}
instance:aX prog 128 0 0:={}
instance:gF prog 128 [(0,1)]:={}
instance:aR prog 129 [.slice none 0 0]:={}
instance:aR prog 130 [.slice none 0 0]:={}
instance:aX prog 130 0 0:={}
instance:gF prog 130 [(0,1)]:={}
instance:aR prog 131 [.slice none 0 0,.int .i64 0]:={}
instance:aR prog 132 [.slice none 0 0,.int .i64 0]:={}
instance:aX prog 132 0 0:={}
instance:aX prog 132 1 1:={}
instance:gF prog 132 [(0,1),(1,1)]:={}
instance:eE prog 133:={}
instance:aR prog 133 [.slice none 0 0]:={}
instance:dQ prog 133 138 3:={}
instance:eK prog 133 138 3 24 (.agg #[.int .i64 0,.int .i64 0,.int .i64 0]):=⟨⟨by kernel_rfl,by kernel_rfl,rfl,by decide,by decide⟩⟩
instance:eE prog 134:={}
instance:aR prog 134 [.slice none 0 0]:={}
instance:dQ prog 134 140 3:={}
instance:eK prog 134 140 3 24 (.agg #[.int .i64 0,.int .i64 0,.int .i64 0]):=⟨⟨by kernel_rfl,by kernel_rfl,rfl,by decide,by decide⟩⟩
instance:aR prog 135 [.slice none 0 0,.slice none 0 0]:={}
instance:aR prog 136 [.slice none 0 0,.slice none 0 0]:={}
instance:aX prog 136 0 0:={}
instance:aX prog 136 1 1:={}
instance:gF prog 136 [(0,1),(1,1)]:={}
instance:aR prog 137 [.int .i64 0,.int .i64 0,.int .i64 0]:={}
instance:dN prog 138 3:={}
instance:aR prog 138 [.int .i64 0,.int .i64 0,.int .i64 0]:={}
instance:aX prog 138 0 0:={}
instance:aX prog 138 1 1:={}
instance:gF prog 138 [(0,1),(1,1),(2,1)]:={}
instance:aR prog 139 [.int .i64 0,.int .i64 0,.int .i64 0]:={}
instance:dN prog 140 3:={}
instance:aR prog 140 [.int .i64 0,.int .i64 0,.int .i64 0]:={}
instance:aX prog 140 0 0:={}
instance:aX prog 140 1 1:={}
instance:aX prog 140 2 2:={}
instance:gF prog 140 [(0,1),(1,1),(2,1)]:={}
instance:aR prog 141 [.int .i64 0,.int .i64 0,.slice none 0 0,.slice none 0 0,.int .i64 0,.slice none 0 0]:={}
instance:aR prog 142 [.int .i64 0,.int .i64 0,.slice none 0 0,.slice none 0 0,.int .i64 0,.slice none 0 0]:={}
instance:aX prog 142 2 2:={}
instance:aX prog 142 3 3:={}
instance:aX prog 142 4 4:={}
instance:aX prog 142 5 5:={}
instance:gF prog 142 [(0,1),(1,1),(2,1),(3,1),(4,1),(5,1)]:={}
instance:aR prog 144 [.int .i64 0,.bool false]:={}
instance:dN prog 145 2:={}
instance:aR prog 145 [.int .i64 0,.bool false]:={}
instance:aX prog 145 0 0:={}
instance:aX prog 145 1 1:={}
instance:gF prog 145 [(0,1),(1,1)]:={}
instance:aR prog 149 [.slice none 0 0,.int .i64 0,.int .i64 0]:={}
instance:aR prog 150 [.slice none 0 0,.int .i64 0,.int .i64 0]:={}
instance:aX prog 150 0 0:={}
instance:aX prog 150 1 1:={}
instance:aX prog 150 2 2:={}
instance:gF prog 150 [(0,1),(1,1),(2,1)]:={}
instance:aR prog 159 [.pointer none]:={}
instance:aR prog 160 [.pointer none]:={}
instance:aR prog 164 [.bool false,.int .i64 0,.int .i64 0]:={}
instance:dN prog 165 3:={}
instance:iU prog 165 3:={}
instance:aR prog 165 [.bool false,.int .i64 0,.int .i64 0]:={}
instance:aX prog 165 0 0:={}
instance:aX prog 165 1 1:={}
instance:aX prog 165 2 2:={}
instance:aR prog 187 [.int .u64 0]:={}
instance:jv prog 187 .u64:={}
instance:aR prog 203 [.int .i64 0,.int .i64 0,.slice none 0 0,.slice none 0 0,.int .i64 0]:={}
instance:dN prog 204 5:={}
instance:iU prog 204 5:={}
instance:aR prog 204 [.int .i64 0,.int .i64 0,.slice none 0 0,.slice none 0 0,.int .i64 0]:={}
instance:aX prog 204 0 0:={}
instance:aX prog 204 1 1:={}
instance:aX prog 204 2 2:={}
instance:aX prog 204 3 3:={}
instance:aX prog 204 4 4:={}
instance:gF prog 204 [(0,1),(1,1),(2,1),(3,1),(4,1)]:={}
instance:aR prog 216 [.pointer none,.pointer none,.pointer none,.string ⟨#[]⟩]:={}
instance:aR prog 217 [.pointer none,.pointer none,.pointer none,.string ⟨#[]⟩]:={}
instance:aR prog 218 []:={}
instance:aR prog 219 []:={}
instance:aR prog 220 []:={}
instance:aR prog 221 [.int .u32 0]:={}
instance:jv prog 221 .u32:={}
instance:aR prog 222 [.int .u8 0]:={}
instance:jv prog 222 .u8:={}
instance:aR prog 223 [.int .u8 0]:={}
instance:jv prog 223 .u8:={}
instance:aR prog 225 [.pointer none]:={}
instance:aR prog 226 [.int .i32 0]:={}
instance:jv prog 226 .i32:={}
instance:aR prog 227 [.int .i32 0]:={}
instance:jv prog 227 .i32:={}
instance:aR prog 228 [.int .u64 0,.int .u64 0,.int .u32 0,.int .u8 0,.int .u8 0,.int .u8 0,.int .u8 0,.nilFunc,.pointer none,.int .i32 0,.int .i32 0]:={}
instance:aR prog 229 [.int .u64 0,.int .u64 0,.int .u32 0,.int .u8 0,.int .u8 0,.int .u8 0,.int .u8 0,.nilFunc,.pointer none,.int .i32 0,.int .i32 0]:={}
instance:aK prog 7:={}
instance:aK prog 13:={}
instance:aK prog 14:={}
instance:aK prog 15:={}
instance:aK prog 16:={}
instance:aK prog 19:={}
instance:aK prog 20:={}
instance:aK prog 26:={}
instance:aK prog 27:={}
instance:aK prog 28:={}
instance:aK prog 29:={}
instance:aK prog 30:={}
instance:aK prog 31:={}
instance:aK prog 32:={}
instance:aK prog 33:={}
instance:aK prog 34:={}
instance:aK prog 35:={}
instance:aK prog 36:={}
instance:aK prog 37:={}
instance:aK prog 38:={}
instance:aK prog 39:={}
instance:aK prog 40:={}
instance:aK prog 41:={}
instance:aK prog 42:={}
instance:aK prog 43:={}
instance:aK prog 44:={}
instance:aK prog 45:={}
instance:aK prog 46:={}
instance:aK prog 47:={}
instance:aK prog 48:={}
instance:aK prog 49:={}
instance:aK prog 50:={}
instance:aK prog 51:={}
instance:aK prog 56:={}
instance:aK prog 57:={}
instance:aK prog 58:={}
instance:aK prog 59:={}
instance:aK prog 60:={}
instance:aK prog 63:={}
instance:aK prog 64:={}
instance:aK prog 65:={}
instance:aK prog 66:={}
instance:aK prog 67:={}
instance:aK prog 68:={}
instance:aK prog 69:={}
instance:aK prog 70:={}
instance:aK prog 71:={}
instance:aK prog 72:={}
instance:aK prog 73:={}
instance:aK prog 74:={}
instance:aK prog 75:={}
instance:aK prog 76:={}
instance:aK prog 77:={}
instance:aK prog 83:={}
instance:aK prog 84:={}
instance:aK prog 85:={}
instance:aK prog 86:={}
instance:aK prog 87:={}
instance:aK prog 91:={}
instance:aK prog 92:={}
instance:aK prog 93:={}
instance:aK prog 98:={}
instance:aK prog 99:={}
instance:aK prog 100:={}
instance:aK prog 101:={}
instance:aK prog 102:={}
instance:aK prog 103:={}
instance:aK prog 104:={}
instance:aK prog 105:={}
instance:aK prog 106:={}
instance:aK prog 107:={}
instance:aK prog 108:={}
instance:aK prog 109:={}
instance:aK prog 110:={}
instance:aK prog 111:={}
instance:aK prog 112:={}
instance:aK prog 113:={}
instance:aK prog 114:={}
instance:aK prog 115:={}
instance:aK prog 116:={}
instance:aK prog 117:={}
instance:aK prog 118:={}
instance:aK prog 119:={}
instance:aK prog 120:={}
instance:aK prog 121:={}
instance:aK prog 122:={}
instance:aK prog 123:={}
instance:aK prog 124:={}
instance:aK prog 125:={}
instance:aK prog 126:={}
instance:aK prog 127:={}
instance:aK prog 128:={}
instance:aK prog 129:={}
instance:aK prog 130:={}
instance:aK prog 131:={}
instance:aK prog 132:={}
instance:aK prog 133:={}
instance:aK prog 142:={}
instance:aK prog 143:={}
instance:aK prog 144:={}
instance:aK prog 145:={}
instance:aK prog 146:={}
instance:aK prog 147:={}
instance:aK prog 148:={}
instance:aK prog 149:={}
instance:aK prog 150:={}
instance:aK prog 151:={}
instance:aK prog 152:={}
instance:aK prog 153:={}
instance:aK prog 154:={}
instance:aK prog 155:={}
instance:aK prog 156:={}
instance:aK prog 157:={}
instance:aK prog 158:={}
instance:aK prog 159:={}
instance:aK prog 163:={}
instance:aK prog 164:={}
instance:aK prog 165:={}
instance:aK prog 166:={}
instance:aK prog 167:={}
instance:aK prog 168:={}
instance:aK prog 169:={}
instance:aK prog 172:={}
instance:aK prog 173:={}
instance:aK prog 174:={}
instance:aK prog 175:={}
instance:aK prog 176:={}
instance:aK prog 177:={}
end Fl
open Go.RowKit
namespace Fl
open Sx Go.Proofs.Tryz
def nI (n:Int):A:=.v (.int .i64 n)
def bI (b:Bool):A:=.v (.bool b)
def ints (l:List Int):A:=.r 1 (l.map fun n=>[nI n])
def o9 (c:Pn.Cs):List A:=[bI c.send,nI c.ch,nI c.v]
def cC (o:Pn.Op):List A:=[nI o.kind,nI o.ch,nI o.n,nI o.v,.r 3 (o.cases.map o9),bI o.cQ]
def rO (r:Md.ak):List A:=[nI r.code,nI r.cs,nI r.v,bI r.ok,nI r.n]
def eG (g:Gr):List A :=
  [.r 6 (g.ops.map cC),nI g.at_,nI g.place,nI g.status,bI g.token,nI g.call,bI g.bp,nI g.param,nI g.bq,nI g.hold,nI g.t,nI g.iF,nI g.cz,nI g.wi,nI g.dc,
   nI g.res.code,nI g.res.cs,nI g.res.v,bI g.res.ok,nI g.res.n,ints g.order,ints g.aC,ints g.au,ints g.an,nI g.k]
def eC (c:Cn):List A:=[nI c.cap,ints c.buf,bI c.closed,nI c.lock,ints c.recv,ints c.send]
def eS (s:Su):List A:=[bI s.live,nI s.g,nI s.ch,nI s.cs,bI s.send,nI s.v,bI s.done]
def eM (m:Mk):List A:=[nI m.g,nI m.op,nI m.call,nI m.iF,nI m.cz,nI m.wi,nI m.dc,nI m.re,nI m.res.code,nI m.res.cs,nI m.res.v,bI m.res.ok,nI m.res.n]
def az (s:ah):List A :=
 [nI s.cY,nI s.bM,nI s.step,.r 25 (s.gs.map eG),.r 6 (s.ax.map eC),.r 7 (s.aD.map eS),.r 1 (s.cache.map fun l=>[ints l]),ints s.middle,nI s.fresh,.r 1 (s.cD.map fun n=>[.v (.int .u16 n)]),nI s.drawn,.r 13 (s.done.map eM)]
theorem j5.snoc {l:List Int} {a:Int}:j5 (.r 1 (([] ++ l.map fun n=>[nI n]) ++ [[nI a]])) (ints (l ++ [a])):=by
 have:([] ++ l.map fun n=>[nI n]) ++ [[nI a]]=(l ++ [a]).map fun n=>[nI n]:=by simp
 rw [this];exact .refl
theorem j5.clone {l:List Int}:j5 (.r 1 ([] ++ l.map fun n=>[nI n])) (ints l):=by
 rw [List.nil_append];exact .refl
end Fl
open Go.RowKit
namespace Fl
open Sx Go.Proofs.Tryz
theorem at_map {α β:Type} {l:List α} {h:α→β} {k:Nat} {a:α} (e:l[k]?=some a):(l.map h)[k]?=some (h a):=by rw [List.getElem?_map,e];rfl
theorem J.jR {P:Program} {c:Cx} {k:List Item} {f:Fm} {L L1 L2:List ak} (i j n:Nat) {v:Value} {e:TypeId} {sz:Nat} {ll:List (List A)} {b:Nat} {B:TypeId} {cs:List A} [st:jJ L j (.box b B (cs.set n (.r sz ll))) L1] [er:jK L1 i L2] (hi:L[i]?=some (.row v e sz ll)) (hj:L[j]?=some (.box b B cs)) (hc:cs[n]?=some (.v v)) (h:J P c k f L2):J P c k f L :=
 J.rH i j n hi hj hc (by rw [st.h,er.h];exact h)
def kK:List A:=vs [.int .i64 0,.int .i64 0,.int .i64 0,.slice none 0 0,.slice none 0 0,.slice none 0 0,.slice none 0 0,.slice none 0 0,.int .i64 0,.slice none 0 0,.int .i64 0,.slice none 0 0]
def iu (l:List Int):A:=.r 1 (l.map fun n=>[.v (.int .u16 n)])
theorem H7 {l:List Int} {k:Int} (h0:0≤k) (h:k < l.length):(l.map fun n=>[A.v (.int .u16 n)])[k.toNat]?=some [.v (.int .u16 (aB l k))]:=by
 have:k.toNat < l.length:=by omega
 refine at_map ?_;unfold aB;rw [List.getElem?_eq_getElem this,List.getD_eq_getElem?_getD,List.getElem?_eq_getElem this];rfl
theorem pe {l:List Int} {k:Int} (h0:0≤k) (h:k < l.length):aB l k∈l:=by
 have:k.toNat < l.length:=by omega
 unfold aB;rw [List.getD_eq_getElem?_getD,List.getElem?_eq_getElem this];exact List.getElem_mem _
theorem BQ (s:ah) (g k:Nat) (x:Gr) (hg:g < s.gs.length):aa (ai s g x) k=if k=g then x else aa s k:=by
 unfold aa ai;rw [List.getD_eq_getElem?_getD,List.getD_eq_getElem?_getD,List.getElem?_set]
 by_cases h:g=k
 ·subst h;simp [hg]
 ·rw [if_neg h,if_neg (Ne.symm h)]
end Fl
end Go.Proofs.YtgjpdogjekmemaaGreat
/-
  Moves that need no fact,told once for all (the proofs that follow name them by gn,ga,tk).
  Conditions: none.
-/
namespace Go.Proofs.YtgjpdogjekmemaaGreat
open Go.RowKit
set_option linter.unusedVariables false
theorem ay {c:Prop} [Decidable c] {α:Type} {a b:α} (h:¬ c:=by omega):ite c a b=b:=if_neg h
namespace Fl
open Sx Go.Proofs.Tryz
theorem qb {n m:Nat} (h:Nat.ble n m=true):n≤m:=Nat.le_of_ble_eq_true h
/-- what a function is handed is what it wants -/
theorem lq {ds rF:List D} (h:br ds rF:=by (repeat (first | exact br.nil | refine br.cons (c9.agg (by (repeat (first | exact .nil | refine .cons .refl ?_)) <;> exact .nil)) ?_ | refine br.cons c9.refl ?_)) <;> exact br.nil):br ds rF:=h
section
variable {P:Program} {c:Cx} {kk:List Item} {f:Fm} {L:List ak} {ops:Array Oper} {l:List Oper} {T X Y:TypeId} {ps:String} {af:Array Edge} {gd:Option (Nat × Bool)} {t:Nat}
theorem jq {o:Oper} {d:D} (hd:o.dst=some t) (hw:c7 ops o f=true) (ht:Nat.ble (t + 1) c.N=true) {U:List Nat} (q:Qt P c U o f L d) (h:JO P c ops l kk ((t,d) :: f) L):JO P c ops (o :: l) kk f L:=JO.q hd hw (qb ht) q h
theorem jp {F:FuncId} {args:List Operand} {tys:Array TypeId} {cM ds:List D} {d:D} [i:aK P F] (hC:Pure P F ds d) (hw:c7 ops ⟨some t,.call ⟨.value (.func F),args.toArray,tys⟩,T,ps,af,gd⟩ f=true) (ht:Nat.ble (t + 1) c.N=true) (h:gq f args=some cM) (hle:br cM ds) (hk:JO P c ops l kk ((t,d) :: f) L):JO P c ops (⟨some t,.call ⟨.value (.func F),args.toArray,tys⟩,T,ps,af,gd⟩ :: l) kk f L:=JO.pure hC hw (qb ht) h hle hk
theorem jx {x y:Operand} {e sz:Nat} {kd:IntKind} {n:Int} {r:List (List A)} {cs:List A} [i:dQ P X e sz] (hw:c7 ops ⟨some t,.indexAddr X x y,T,ps,af,gd⟩ f=true) (ht:Nat.ble (t + 1) c.N=true) (h:aP f x=some (.c (.r sz r))) (hy:aP f y=some (.c (.v (.int kd n)))) (hn:0≤n) (hk:r[n.toNat]?=some cs) (k:JO P c ops l kk ((t,.el cs 0) :: f) L):JO P c ops (⟨some t,.indexAddr X x y,T,ps,af,gd⟩ :: l) kk f L:=JO.q rfl hw (qb ht) (Qt.cE h hy hn hk) k
theorem jc {op:BinOp} {x y:Operand} {kd:IntKind} {m n:Int} {b b':Bool} (hw:c7 ops ⟨some t,.binOp op X x y Y,T,ps,af,gd⟩ f=true) (ht:Nat.ble (t + 1) c.N=true) (h:aP f x=some (.c (.v (.int kd m)))) (hy:aP f y=some (.c (.v (.int kd n)))) (hF:b'=b) (hb:rz op m n=some b') (k:JO P c ops l kk ((t,.c (.v (.bool b))) :: f) L):JO P c ops (⟨some t,.binOp op X x y Y,T,ps,af,gd⟩ :: l) kk f L:=JO.q rfl hw (qb ht) (Qt.cmp h hy (hb.trans (congrArg some hF))) k
end
theorem yM {s:ah} {g:Nat} (hg:g < s.gs.length):(s.gs.map eG)[((g:Int)).toNat]?=some (eG (aa s g)):=by
  unfold aa;rw [Int.toNat_natCast,List.getElem?_map,List.getD_eq_getElem?_getD,List.getElem?_eq_getElem hg];rfl
theorem yN {s:ah} {ch:Int} (h:aM s ch=true):(s.ax.map eC)[(ch - 1).toNat]?=some (eC (cn s ch)):=by
  unfold aM at h;simp only [decide_eq_true_eq] at h;unfold cn;rw [List.getElem?_map,List.getD_eq_getElem?_getD,List.getElem?_eq_getElem (show (ch - 1).toNat < s.ax.length by omega)];rfl
theorem yP {l:List Int} {k:Nat} {a:Int} (e:l[k]?=some a):(l.map fun n=>[nI n])[((k:Int)).toNat]?=some [nI a]:=by
  rw [Int.toNat_natCast,List.getElem?_map,e];rfl
section
variable {P:Program} {c:Cx} {kk:List Item} {f:Fm} {L:List ak} {ops:Array Oper} {l:List Oper} {T X Y:TypeId} {ps:String} {af:Array Edge} {gd:Option (Nat × Bool)} {t:Nat}
theorem aI {F:FuncId} {args:List Operand} {tys:Array TypeId} {cM ds:List D} {d:D} [i:aK P F] (hC:Pure P F ds d) (hk:JO P c ops l kk ((t,d) :: f) L) (hw:c7 ops ⟨some t,.call ⟨.value (.func F),args.toArray,tys⟩,T,ps,af,gd⟩ f=true:=by exact rfl) (ht:Nat.ble (t + 1) c.N=true:=by exact rfl) (h:gq f args=some cM:=by exact rfl) (hle:br cM ds:=by exact lq):JO P c ops (⟨some t,.call ⟨.value (.func F),args.toArray,tys⟩,T,ps,af,gd⟩ :: l) kk f L:=jp hC hw ht h hle hk
theorem aJ {op:BinOp} {x y:Operand} {kd:IntKind} {m n:Int} {b b':Bool} (hF:b'=b) (k:JO P c ops l kk ((t,.c (.v (.bool b))) :: f) L) (hw:c7 ops ⟨some t,.binOp op X x y Y,T,ps,af,gd⟩ f=true:=by exact rfl) (ht:Nat.ble (t + 1) c.N=true:=by exact rfl) (h:aP f x=some (.c (.v (.int kd m))):=by exact rfl) (hy:aP f y=some (.c (.v (.int kd n))):=by exact rfl) (hb:rz op m n=some b':=by exact rfl):JO P c ops (⟨some t,.binOp op X x y Y,T,ps,af,gd⟩ :: l) kk f L:=jc hw ht h hy hF hb k
theorem H8 {ds rF:List D} (h:br ds rF:=by (repeat (first | exact br.nil | refine br.cons (c9.agg (by (repeat (first | exact .nil | refine .cons .refl ?_ | refine .cons .nil ?_ | refine .cons .snoc ?_ | refine .cons .clone ?_)) <;> exact .nil)) ?_ | refine br.cons c9.refl ?_ | refine br.cons (c9.c j5.nil) ?_ | refine br.cons (c9.c j5.snoc) ?_ | refine br.cons (c9.c j5.clone) ?_)) <;> exact br.nil):br ds rF:=h
theorem lp {F:FuncId} {args:List Operand} {tys:Array TypeId} {cM ds:List D} {d:D} [i:aK P F] (hC:Pure P F ds d) (hk:JO P c ops l kk ((t,d) :: f) L) (hw:c7 ops ⟨some t,.call ⟨.value (.func F),args.toArray,tys⟩,T,ps,af,gd⟩ f=true:=by exact rfl) (ht:Nat.ble (t + 1) c.N=true:=by exact rfl) (h:gq f args=some cM:=by exact rfl) (hle:br cM ds:=by exact H8):JO P c ops (⟨some t,.call ⟨.value (.func F),args.toArray,tys⟩,T,ps,af,gd⟩ :: l) kk f L:=jp hC hw ht h hle hk
end
structure K0 (B:Prop):Prop where out:B
/-- one move that needs no fact,and names nothing -/
theorem gn {G B:Prop} (k:B) (h:K0 B→G:=by
  intro k
  first
    | (refine K.binOp ?_;refine jc rfl rfl rfl rfl (by assumption) rfl ?_;exact k.out)
    | (refine K.call ?_;refine jp (by assumption) rfl rfl rfl lq ?_;exact k.out)
    | (refine K.indexAddr ?_;refine jx rfl rfl rfl rfl (by omega) (yM (by assumption)) ?_;exact k.out)
    | (refine K.indexAddr ?_;refine jx rfl rfl rfl rfl (by omega) (yN (by assumption)) ?_;exact k.out)
    | (refine K.indexAddr ?_;refine jx rfl rfl rfl rfl (by omega) (yP (by assumption)) ?_;exact k.out)
    | (refine K.indexAddr ?_;refine jx rfl rfl rfl rfl (by omega) (by assumption) ?_;exact k.out)
    | (refine K.fieldAddr ?_;refine JO.q rfl rfl (qb rfl) (Qt.fieldAddr rfl rfl) ?_;exact k.out)
    | (refine K.load ?_;refine JO.q rfl rfl (qb rfl) (Qt.rm rfl .el rfl) ?_;exact k.out)
    | (refine K.load ?_;refine JO.q rfl rfl (qb rfl) (Qt.ru rfl .el rfl) ?_;exact k.out)
    | (refine K.load ?_;refine JO.q rfl rfl (qb rfl) (Qt.rq rfl .el rfl rfl) ?_;exact k.out)
    | (refine K.load ?_;refine JO.q rfl rfl (qb rfl) (Qt.kE rfl (by exact rfl)) ?_;exact k.out)
    | (refine K.load ?_;refine JO.q rfl rfl (qb rfl) (Qt.qc rfl (by exact rfl)) ?_;exact k.out)
    | (refine K.load ?_;refine JO.q rfl rfl (qb rfl) (Qt.vN rfl (by exact rfl) (by exact rfl)) ?_;exact k.out)
    | (refine K.move ?_;refine JO.q rfl rfl (qb rfl) (Qt.move rfl) ?_;exact k.out)
    | (refine K.store ?_;refine JO.ld (Ld.aT rfl rfl rfl (by exact rfl) (by exact rfl)) rfl (fun _=>?_);exact k.out)
    | (refine K.store ?_;refine JO.ld (Ld.cr rfl rfl (by exact rfl)) rfl (fun _=>?_);exact k.out)
    | (refine K.store ?_;refine JO.ld (Ld.oa rfl rfl rfl (by exact rfl) (by exact rfl)) rfl (fun _=>?_);exact k.out)
    | (refine K.assign ?_;refine JO.q rfl rfl (qb rfl) (Qt.assign rfl) ?_;exact k.out)
    | (refine K.binOp ?_;refine JO.q rfl rfl (qb rfl) (Qt.cmp rfl rfl rfl) ?_;exact k.out)
    | (refine K.binOp ?_;refine JO.q rfl rfl (qb rfl) (Qt.tw rfl rfl) ?_;exact k.out)
    | (refine K.binOp ?_;refine JO.q rfl rfl (qb rfl) (Qt.tA rfl rfl) ?_;exact k.out)
    | (refine K.unOp ?_;refine JO.q rfl rfl (qb rfl) (Qt.not rfl) ?_;exact k.out)
    | (refine K.bi ?_;refine JO.q rfl rfl (qb rfl) (Qt.rA rfl) ?_;exact k.out)
    | (refine K.bi ?_;refine JO.q rfl rfl (qb rfl) (Qt.tC rfl) ?_;exact k.out)
    | (refine K.bi ?_;refine JO.q rfl rfl (qb rfl) (Qt.vO rfl) ?_;exact k.out)
    | (refine K.bi ?_;refine JO.q rfl rfl (qb rfl) (Qt.tD rfl) ?_;exact k.out)
    | (refine K.extract ?_;refine JO.q rfl rfl (qb rfl) (Qt.extract rfl rfl) ?_;exact k.out)
    | (refine K.pick ?_;refine JO.q rfl rfl (qb rfl) (Qt.pick rfl rfl) ?_;exact k.out)
    | (refine K.build ?_;refine JO.q rfl rfl (qb rfl) (Qt.build rfl (by kernel_rfl)) ?_;exact k.out)
    | (refine K.nilCheck ?_;refine JO.q rfl rfl (qb rfl) (Qt.nilCheck rfl rfl) ?_;exact k.out)
    | (refine K.field ?_;refine JO.q rfl rfl (qb rfl) (Qt.field rfl rfl (by kernel_rfl) rfl) ?_;exact k.out)
    | (refine K.convert ?_;refine JO.q rfl rfl (qb rfl) (Qt.conv rfl rfl) ?_;exact k.out)
    | (refine JO.nil ?_;exact k.out)
    | (refine J.seq ?_;exact k.out)
    | (refine J.region ?_;exact k.out)
    | (refine J.block ?_;exact k.out)
    | (refine J.inBlock ?_;exact k.out)
    | (refine J.skip ?_;exact k.out)
    | (refine J.exit rfl ?_;exact k.out)
    | (refine J.fI rfl ?_;exact k.out)
    | (refine J.eW rfl ?_;exact k.out)
    | (refine K.binOp ?_;refine jq rfl rfl rfl (Qt.dy rfl rfl rfl (fq (by omega) (by omega))) ?_;exact k.out)
    | (refine JO.no rfl rfl (qb rfl) ?_;exact k.out)):G:=h ⟨k⟩
/-- the same,or a block is made (then its number is to be named) -/
theorem av {G B:Prop} (k:B) (h:K0 B→G:=by
  intro k
  first
    | (refine K.binOp ?_;refine jc rfl rfl rfl rfl (by assumption) rfl ?_;exact k.out)
    | (refine K.call ?_;refine jp (by assumption) rfl rfl rfl lq ?_;exact k.out)
    | (refine K.indexAddr ?_;refine jx rfl rfl rfl rfl (by omega) (yM (by assumption)) ?_;exact k.out)
    | (refine K.indexAddr ?_;refine jx rfl rfl rfl rfl (by omega) (yN (by assumption)) ?_;exact k.out)
    | (refine K.indexAddr ?_;refine jx rfl rfl rfl rfl (by omega) (yP (by assumption)) ?_;exact k.out)
    | (refine K.indexAddr ?_;refine jx rfl rfl rfl rfl (by omega) (by assumption) ?_;exact k.out)
    | (refine K.fieldAddr ?_;refine JO.q rfl rfl (qb rfl) (Qt.fieldAddr rfl rfl) ?_;exact k.out)
    | (refine K.load ?_;refine JO.q rfl rfl (qb rfl) (Qt.rm rfl .el rfl) ?_;exact k.out)
    | (refine K.load ?_;refine JO.q rfl rfl (qb rfl) (Qt.ru rfl .el rfl) ?_;exact k.out)
    | (refine K.load ?_;refine JO.q rfl rfl (qb rfl) (Qt.rq rfl .el rfl rfl) ?_;exact k.out)
    | (refine K.load ?_;refine JO.q rfl rfl (qb rfl) (Qt.kE rfl (by exact rfl)) ?_;exact k.out)
    | (refine K.load ?_;refine JO.q rfl rfl (qb rfl) (Qt.qc rfl (by exact rfl)) ?_;exact k.out)
    | (refine K.load ?_;refine JO.q rfl rfl (qb rfl) (Qt.vN rfl (by exact rfl) (by exact rfl)) ?_;exact k.out)
    | (refine K.move ?_;refine JO.q rfl rfl (qb rfl) (Qt.move rfl) ?_;exact k.out)
    | (refine K.store ?_;refine JO.ld (Ld.aT rfl rfl rfl (by exact rfl) (by exact rfl)) rfl (fun _=>?_);exact k.out)
    | (refine K.store ?_;refine JO.ld (Ld.cr rfl rfl (by exact rfl)) rfl (fun _=>?_);exact k.out)
    | (refine K.store ?_;refine JO.ld (Ld.oa rfl rfl rfl (by exact rfl) (by exact rfl)) rfl (fun _=>?_);exact k.out)
    | (refine K.assign ?_;refine JO.q rfl rfl (qb rfl) (Qt.assign rfl) ?_;exact k.out)
    | (refine K.binOp ?_;refine JO.q rfl rfl (qb rfl) (Qt.cmp rfl rfl rfl) ?_;exact k.out)
    | (refine K.binOp ?_;refine JO.q rfl rfl (qb rfl) (Qt.tw rfl rfl) ?_;exact k.out)
    | (refine K.binOp ?_;refine JO.q rfl rfl (qb rfl) (Qt.tA rfl rfl) ?_;exact k.out)
    | (refine K.unOp ?_;refine JO.q rfl rfl (qb rfl) (Qt.not rfl) ?_;exact k.out)
    | (refine K.bi ?_;refine JO.q rfl rfl (qb rfl) (Qt.rA rfl) ?_;exact k.out)
    | (refine K.bi ?_;refine JO.q rfl rfl (qb rfl) (Qt.tC rfl) ?_;exact k.out)
    | (refine K.bi ?_;refine JO.q rfl rfl (qb rfl) (Qt.vO rfl) ?_;exact k.out)
    | (refine K.bi ?_;refine JO.q rfl rfl (qb rfl) (Qt.tD rfl) ?_;exact k.out)
    | (refine K.extract ?_;refine JO.q rfl rfl (qb rfl) (Qt.extract rfl rfl) ?_;exact k.out)
    | (refine K.pick ?_;refine JO.q rfl rfl (qb rfl) (Qt.pick rfl rfl) ?_;exact k.out)
    | (refine K.build ?_;refine JO.q rfl rfl (qb rfl) (Qt.build rfl (by kernel_rfl)) ?_;exact k.out)
    | (refine K.nilCheck ?_;refine JO.q rfl rfl (qb rfl) (Qt.nilCheck rfl rfl) ?_;exact k.out)
    | (refine K.field ?_;refine JO.q rfl rfl (qb rfl) (Qt.field rfl rfl (by kernel_rfl) rfl) ?_;exact k.out)
    | (refine K.convert ?_;refine JO.q rfl rfl (qb rfl) (Qt.conv rfl rfl) ?_;exact k.out)
    | (refine JO.nil ?_;exact k.out)
    | (refine J.seq ?_;exact k.out)
    | (refine J.region ?_;exact k.out)
    | (refine J.block ?_;exact k.out)
    | (refine J.inBlock ?_;exact k.out)
    | (refine J.skip ?_;exact k.out)
    | (refine J.exit rfl ?_;exact k.out)
    | (refine J.fI rfl ?_;exact k.out)
    | (refine J.eW rfl ?_;exact k.out)
    | (refine K.binOp ?_;refine jq rfl rfl rfl (Qt.dy rfl rfl rfl (fq (by omega) (by omega))) ?_;exact k.out)
    | (refine JO.alloc rfl (qb rfl) ?_;exact k.out)
    | (refine JO.box rfl (qb rfl) rfl rfl ?_;exact k.out)
    | (refine JO.fD rfl (qb rfl) ?_;exact k.out)
    | (refine JO.dZ rfl (qb rfl) rfl rfl rfl rfl rfl ?_;exact k.out)
    | (refine JO.no rfl rfl (qb rfl) ?_;exact k.out)):G:=h ⟨k⟩
/-- one move that needs no fact,and stays in the region -/
theorem tW {G B:Prop} (k:B) (h:K0 B→G:=by
  intro k
  first
    | (refine K.binOp ?_;refine jc rfl rfl rfl rfl (by assumption) rfl ?_;exact k.out)
    | (refine K.call ?_;refine jp (by assumption) rfl rfl rfl lq ?_;exact k.out)
    | (refine K.indexAddr ?_;refine jx rfl rfl rfl rfl (by omega) (yM (by assumption)) ?_;exact k.out)
    | (refine K.indexAddr ?_;refine jx rfl rfl rfl rfl (by omega) (yN (by assumption)) ?_;exact k.out)
    | (refine K.indexAddr ?_;refine jx rfl rfl rfl rfl (by omega) (yP (by assumption)) ?_;exact k.out)
    | (refine K.indexAddr ?_;refine jx rfl rfl rfl rfl (by omega) (by assumption) ?_;exact k.out)
    | (refine K.fieldAddr ?_;refine JO.q rfl rfl (qb rfl) (Qt.fieldAddr rfl rfl) ?_;exact k.out)
    | (refine K.load ?_;refine JO.q rfl rfl (qb rfl) (Qt.rm rfl .el rfl) ?_;exact k.out)
    | (refine K.load ?_;refine JO.q rfl rfl (qb rfl) (Qt.ru rfl .el rfl) ?_;exact k.out)
    | (refine K.load ?_;refine JO.q rfl rfl (qb rfl) (Qt.rq rfl .el rfl rfl) ?_;exact k.out)
    | (refine K.load ?_;refine JO.q rfl rfl (qb rfl) (Qt.kE rfl (by exact rfl)) ?_;exact k.out)
    | (refine K.load ?_;refine JO.q rfl rfl (qb rfl) (Qt.qc rfl (by exact rfl)) ?_;exact k.out)
    | (refine K.load ?_;refine JO.q rfl rfl (qb rfl) (Qt.vN rfl (by exact rfl) (by exact rfl)) ?_;exact k.out)
    | (refine K.move ?_;refine JO.q rfl rfl (qb rfl) (Qt.move rfl) ?_;exact k.out)
    | (refine K.store ?_;refine JO.ld (Ld.aT rfl rfl rfl (by exact rfl) (by exact rfl)) rfl (fun _=>?_);exact k.out)
    | (refine K.store ?_;refine JO.ld (Ld.cr rfl rfl (by exact rfl)) rfl (fun _=>?_);exact k.out)
    | (refine K.store ?_;refine JO.ld (Ld.oa rfl rfl rfl (by exact rfl) (by exact rfl)) rfl (fun _=>?_);exact k.out)
    | (refine K.assign ?_;refine JO.q rfl rfl (qb rfl) (Qt.assign rfl) ?_;exact k.out)
    | (refine K.binOp ?_;refine JO.q rfl rfl (qb rfl) (Qt.cmp rfl rfl rfl) ?_;exact k.out)
    | (refine K.binOp ?_;refine JO.q rfl rfl (qb rfl) (Qt.tw rfl rfl) ?_;exact k.out)
    | (refine K.binOp ?_;refine JO.q rfl rfl (qb rfl) (Qt.tA rfl rfl) ?_;exact k.out)
    | (refine K.unOp ?_;refine JO.q rfl rfl (qb rfl) (Qt.not rfl) ?_;exact k.out)
    | (refine K.bi ?_;refine JO.q rfl rfl (qb rfl) (Qt.rA rfl) ?_;exact k.out)
    | (refine K.bi ?_;refine JO.q rfl rfl (qb rfl) (Qt.tC rfl) ?_;exact k.out)
    | (refine K.bi ?_;refine JO.q rfl rfl (qb rfl) (Qt.vO rfl) ?_;exact k.out)
    | (refine K.bi ?_;refine JO.q rfl rfl (qb rfl) (Qt.tD rfl) ?_;exact k.out)
    | (refine K.extract ?_;refine JO.q rfl rfl (qb rfl) (Qt.extract rfl rfl) ?_;exact k.out)
    | (refine K.pick ?_;refine JO.q rfl rfl (qb rfl) (Qt.pick rfl rfl) ?_;exact k.out)
    | (refine K.build ?_;refine JO.q rfl rfl (qb rfl) (Qt.build rfl (by kernel_rfl)) ?_;exact k.out)
    | (refine K.nilCheck ?_;refine JO.q rfl rfl (qb rfl) (Qt.nilCheck rfl rfl) ?_;exact k.out)
    | (refine K.field ?_;refine JO.q rfl rfl (qb rfl) (Qt.field rfl rfl (by kernel_rfl) rfl) ?_;exact k.out)
    | (refine K.convert ?_;refine JO.q rfl rfl (qb rfl) (Qt.conv rfl rfl) ?_;exact k.out)
    | (refine K.binOp ?_;refine jq rfl rfl rfl (Qt.dy rfl rfl rfl (fq (by omega) (by omega))) ?_;exact k.out)
    | (refine JO.no rfl rfl (qb rfl) ?_;exact k.out)):G:=h ⟨k⟩
/-- a block is made -/
theorem ga {G:Prop} {B:Nat→Prop} (k:∀ b,B b) (h:(∀ b,B b)→G:=by
  intro k
  first
    | (refine JO.alloc rfl (qb rfl) ?_;intro b;exact k b)
    | (refine JO.box rfl (qb rfl) rfl rfl ?_;intro b;exact k b)
    | (refine JO.fD rfl (qb rfl) ?_;intro b;exact k b)
    | (refine JO.dZ rfl (qb rfl) rfl rfl rfl rfl rfl ?_;intro b;exact k b)):G:=h k
/-- number i of a region that draws,which looks -/
def Tk (i:Nat) (B:Prop):Prop:=B
section
variable {P:Program} {c:Cx} {k:List Item} {f f0:Fm} {L L0:List ak} {ops:Array Oper} {o:Oper} {m:Option Nat} {T:List Nat} {n t:Nat} {d:D} {aH:Array Bool} {U:List Nat}
theorem JD.fW {i:Nat} {B:Prop} (kk:Tk i B) (hi:ops[i]?=some o) (hd:o.dst=some t) (hk:yu .any ops m aH i=true) (hw:c7 ops o f0=true) (ht:t < c.N) (q:Qt P c U o f0 L0 d) (hu:(U.all fun j=>!T.contains j)=true) (hB:B=JD P c ops m T n (aH.setIfInBounds i true) k ((t,d) :: f) L ((t,d) :: f0) L0):JD P c ops m T (n + 1) aH k f L f0 L0 :=
  JD.take i hi hd hk hw ht q hu (hB ▸ kk)
end
theorem tk (i:Nat) {G B:Prop} (k:Tk i B) (h:Tk i B→G:=by
  intro k
  first
    | exact JD.fW k rfl rfl (by kernel_rfl) rfl (qb rfl) (Qt.move rfl) rfl rfl
    | exact JD.fW k rfl rfl (by kernel_rfl) rfl (qb rfl) (Qt.assign rfl) rfl rfl
    | exact JD.fW k rfl rfl (by kernel_rfl) rfl (qb rfl) (Qt.fieldAddr rfl rfl) rfl rfl
    | exact JD.fW k rfl rfl (by kernel_rfl) rfl (qb rfl) (Qt.nilCheck rfl rfl) rfl rfl
    | exact JD.fW k rfl rfl (by kernel_rfl) rfl (qb rfl) (Qt.rm rfl .el rfl) rfl rfl
    | exact JD.fW k rfl rfl (by kernel_rfl) rfl (qb rfl) (Qt.ru rfl .el rfl) rfl rfl
    | exact JD.fW k rfl rfl (by kernel_rfl) rfl (qb rfl) (Qt.rq rfl .el rfl rfl) rfl rfl
    | exact JD.fW k rfl rfl (by kernel_rfl) rfl (qb rfl) (Qt.kE rfl (by exact rfl)) rfl rfl
    | exact JD.fW k rfl rfl (by kernel_rfl) rfl (qb rfl) (Qt.qc rfl (by exact rfl)) rfl rfl
    | exact JD.fW k rfl rfl (by kernel_rfl) rfl (qb rfl) (Qt.vN rfl (by exact rfl) (by exact rfl)) rfl rfl
    | exact JD.fW k rfl rfl (by kernel_rfl) rfl (qb rfl) (Qt.extract rfl rfl) rfl rfl
    | exact JD.fW k rfl rfl (by kernel_rfl) rfl (qb rfl) (Qt.pick rfl rfl) rfl rfl
    | exact JD.fW k rfl rfl (by kernel_rfl) rfl (qb rfl) (Qt.not rfl) rfl rfl
    | exact JD.fW k rfl rfl (by kernel_rfl) rfl (qb rfl) (Qt.rA rfl) rfl rfl
    | exact JD.fW k rfl rfl (by kernel_rfl) rfl (qb rfl) (Qt.tC rfl) rfl rfl
    | exact JD.fW k rfl rfl (by kernel_rfl) rfl (qb rfl) (Qt.vO rfl) rfl rfl
    | exact JD.fW k rfl rfl (by kernel_rfl) rfl (qb rfl) (Qt.tD rfl) rfl rfl
    | exact JD.fW k rfl rfl (by kernel_rfl) rfl (qb rfl) (Qt.cmp rfl rfl rfl) rfl rfl
    | exact JD.fW k rfl rfl (by kernel_rfl) rfl (qb rfl) (Qt.tw rfl rfl) rfl rfl
    | exact JD.fW k rfl rfl (by kernel_rfl) rfl (qb rfl) (Qt.tA rfl rfl) rfl rfl
    | exact JD.fW k rfl rfl (by kernel_rfl) rfl (qb rfl) (Qt.build rfl (by kernel_rfl)) rfl rfl
    | exact JD.fW k rfl rfl (by kernel_rfl) rfl (qb rfl) (Qt.field rfl rfl (by kernel_rfl) rfl) rfl rfl
    | exact JD.fW k rfl rfl (by kernel_rfl) rfl (qb rfl) (Qt.conv rfl rfl) rfl rfl):G:=h k
theorem Tk.mk {i:Nat} {B:Prop} (h:B):Tk i B:=h
theorem la {cs ds:List A} (h:iW cs ds:=by (repeat (first | exact .nil | refine .cons .refl ?_)) <;> exact .nil):c9 (.agg cs) (.agg ds):=.agg h
section
variable {P:Program} {c:Cx} {k:List Item} {f f0:Fm} {L L0:List ak} {ops:Array Oper} {o:Oper} {m:Option Nat} {T:List Nat} {n t:Nat} {d:D} {aH:Array Bool} {U S:List Nat}
theorem jl (i:Nat) {ι:Type} {g:ι→D} {L':ι→List ak} (hi:ops[i]?=some o) (hd:o.dst=some t) (hw:c7 ops o f=true) (ht:Nat.ble (t + 1) c.N=true) (q:Ld P c o f L S (fun x=>(t,g x) :: f) L') (hS:Since T L0 L S) (h:∀ x,JD P c ops m T n (aH.setIfInBounds i true) k ((t,g x) :: f) (L' x) ((t,stays (g x)) :: f0) L0) (hr:Region.ready .any ops aH=[i]:=by kernel_rfl):JD P c ops m T (n + 1) aH k f L f0 L0:=JD.fR hr (JS.bt hi hd hw (qb ht) q hS h)
theorem jk (i:Nat) (hi:ops[i]?=some o) (hd:o.dst=some t) (hw:c7 ops o f=true) (ht:Nat.ble (t + 1) c.N=true) (q:Qt P c U o f L d) (h:JD P c ops m T n (aH.setIfInBounds i true) k ((t,d) :: f) L ((t,stays d) :: f0) L0) (hr:Region.ready .any ops aH=[i]:=by kernel_rfl):JD P c ops m T (n + 1) aH k f L f0 L0:=JD.fR hr (JS.q hi hd hw (qb ht) q h)
theorem jt (i:Nat) {ι:Type} {f':ι→Fm} {L':ι→List ak} (hi:ops[i]?=some o) (hw:c7 ops o f=true) (q:Ld P c o f L S f' L') (h:∀ x,JW P c ops n (aH.setIfInBounds i true) k (f' x) (L' x)) (hr:Region.ready .any ops aH=[i]:=by kernel_rfl):JD P c ops (some i) T (n + 1) aH k f L f0 L0:=JD.fR hr (JS.last hi hw q h)
theorem cI (i:Nat) {F:FuncId} {args:List Operand} {tys:Array TypeId} {cM ds:List D} {X:TypeId} {ps:String} {af:Array Edge} {gd:Option (Nat × Bool)} [aK P F] (hC:Pure P F ds d) (h:JD P c ops m T n (aH.setIfInBounds i true) k ((t,d) :: f) L ((t,stays d) :: f0) L0) (hi:ops[i]?=some ⟨some t,.call ⟨.value (.func F),args.toArray,tys⟩,X,ps,af,gd⟩:=by exact rfl) (hw:c7 ops ⟨some t,.call ⟨.value (.func F),args.toArray,tys⟩,X,ps,af,gd⟩ f=true:=by exact rfl) (ht:Nat.ble (t + 1) c.N=true:=by exact rfl) (he:gq f args=some cM:=by exact rfl) (hle:br cM ds:=by exact lq) (hr:Region.ready .any ops aH=[i]:=by kernel_rfl):JD P c ops m T (n + 1) aH k f L f0 L0:=jl i hi rfl hw ht (Ld.pure hC (qb ht) he hle) .none (fun _=>h) hr
theorem bP (h:J P c k f L) (hl:Region.ready .any ops aH=[]:=by kernel_rfl):JD P c ops m T n aH k f L f0 L0:=JD.done hl h
theorem bz (h:J P c k f L) (hl:Region.ready .any ops aH=[]:=by kernel_rfl):JW P c ops n aH k f L:=JW.done hl h
end
section
variable {P:Program} {F:FuncId} {fn:Func} {ok:Nat→Prop} {e:World} {L0 L:List ak} {post:Unit→D × List ak} {N:Nat} {k:List Item} {f:Fm}
theorem aA (hf:P.funcs[F]?=some fn) {rs:List ResultVar} {ds:List D} {d:D} (kG:fn.results=rs.toArray:=by exact rfl) (h:gj P f L rs ds:=by
  repeat (first | exact .nil | apply gj.cons (.tmp rfl) | apply gj.cons (.cell 0 rfl rfl rfl) | apply gj.cons (.cell 1 rfl rfl rfl) | apply gj.cons (.cell 2 rfl rfl rfl) | apply gj.cons (.cell 3 rfl rfl rfl) | apply gj.cons (.cell 4 rfl rfl rfl) | apply gj.cons (.cell 5 rfl rfl rfl) | apply gj.cons (.cell 6 rfl rfl rfl) | apply gj.cons (.cell 7 rfl rfl rfl) | apply gj.cons (.cell 8 rfl rfl rfl))) (hp:post ()=(d,[]):=by exact rfl) (hle:c9 (nX ds) d:=by first | exact .refl | exact la):J P (cx F ok e L0 post N) (.code .ret :: k) f L:=J.ret hf kG h () hle [] .nil rfl hp
end
end Fl
open Go.RowKit Go.ChangeShapes Go.WideShapes Go.Deep
namespace Fl
open Sx Go.Proofs.Tryz
section
variable {α:Type} {E:World→List Value→α→List Nat→Prop} {enc:α→List A}
def Si (enc:α→List A) (E:World→List Value→α→List Nat→Prop):Prop :=
 ∀ (ok:Nat→Prop) (w:World) (cs:List Value) (a:α) (U:List Nat),E w cs a U→(∀ x∈U,ok x)→RC ok w (enc a) cs
theorem Si.rx (h:Si enc E) {ok:Nat→Prop} {w:World} {sz:Nat} {S:List Nat} (hS:∀ x∈S,ok x):∀ {l:List α} {xs:List Value},xs.length=l.length * sz→nJ E sz w xs l S→RX ok w sz (l.map enc) xs
 | [],xs,hl,r=>by simp at hl;subst hl;rfl
 | a :: l,xs,hl,r=>by
  have vP:xs.length=l.length * sz + sz:=by rw [hl,List.length_cons,Nat.add_mul];omega
  refine ⟨xs.take sz,xs.drop sz,(List.take_append_drop sz xs).symm,by rw [List.length_take];omega,?_,Si.rx h hS (by rw [List.length_drop];omega) fun k b hk=>?_⟩
  ·obtain ⟨U,u1,u2⟩:=r 0 a rfl;have:chunk xs sz 0=xs.take sz:=by unfold chunk;simp
   rw [this] at u1;exact h ok w _ a U u1 fun x hx=>hS x (u2 x hx)
  ·obtain ⟨U,u1,u2⟩:=r (k + 1) b (by simpa using hk);have:chunk xs sz (k + 1)=chunk (xs.drop sz) sz k:=by
    unfold chunk;rw [List.drop_drop,show (k + 1) * sz=sz + k * sz by rw [Nat.add_mul];omega]
   rw [this] at u1;exact ⟨U,u1,u2⟩
theorem Si.ra (h:Si enc E) {ok:Nat→Prop} {w:World} {sz:Nat} {v:Value} {l:List α} {S:List Nat} (r:GV E sz w v l S) (hS:∀ x∈S,ok x):RA ok w (.r sz (l.map enc)) v:=by
 obtain ⟨xs,T,v1,v2,v3,v4,v5⟩:=r;exact RA.vQ (ys:=xs) (S:=T) (by rw [List.length_map];exact v1) (h.rx hS v1.len v2) fun g hg=>hS g (v3 g hg)
theorem Si.row (h:Si enc E) {sz:Nat}:Si (fun l:List α=>[A.r sz (l.map enc)]) (mT E sz):=fun ok w cs l U r hS=>by
 obtain ⟨v,rfl,g⟩:=r;exact RC.cons (h.ra g hS) RC.nil
end
theorem RA.w {ok:Nat→Prop} {w:World} {v:Value} (h:v.oneCell'=true):RA ok w (.v v) v:=by unfold RA;exact ⟨rfl,h⟩
theorem RD.v {ok:Nat→Prop} {w:World} {v:Value} (h:v.oneCell'=true):RD ok w (.c (.v v)) v:=by unfold RD RA;exact ⟨rfl,h⟩
theorem H9 {P:Program} {F:FuncId} {ds:List D} (h:Pure P F ds (.c (bI true))) {w:World} {xs:List Value} (hd:bO (fun _=>True) w ds xs):Calls P F xs.toArray w fun e w'=>e=.returned (.bool true)∧aE [] w w':=by
 refine Calls.mono (h.go (fun _=>True) w xs hd (by simp) List.Pairwise.nil (by simp [aS])) ?_
 rintro en w' ⟨i,x,rfl,kp,_,_,_,r⟩
 unfold RD bI RA at r;exact ⟨by rw [r.1],by simpa [aS] using kp⟩
end Fl
open Go.RowKit
namespace Fl
open Sx Go.Proofs.Tryz
theorem set_perm {r r':ak}:∀ {L:List ak} {j:Nat},L[j]?=some r→(L.set j r').Perm (r' :: L.eraseIdx j)
 | [],j,h=>by simp at h
 | q :: L,0,h=>by simp
 | q :: L,j + 1,h=>by
  simp at h;simp only [List.set_cons_succ,List.eraseIdx_cons_succ];exact ((set_perm h).cons q).trans (List.Perm.swap r' q _)
section
variable {P:Program} {c:Cx} {k:List Item} {f:Fm} {L:List ak} {ops:Array Oper} {l:List Oper} {o:Oper} {T:TypeId} {ps:String} {af:Array Edge} {gd:Option (Nat × Bool)} {t:Nat}
theorem Ld.Ia (j:Nat) {F:FuncId} {args:List Operand} {tys:Array TypeId} {cM ds:List D} {r:ak} {ι:Type} {dd:ι→D} {r':ι→ak} {L':ι→List ak} [i:aK P F] (hC:aq P F ds [r] (fun x=>(dd x,[r' x]))) (hj:L[j]?=some r) (ht:t < c.N) (h:gq f args=some cM) (hle:br cM ds) (hL:∀ x,L.set j (r' x)=L' x) :
  Ld P c ⟨some t,.call ⟨.value (.func F),args.toArray,tys⟩,T,ps,af,gd⟩ f L r.bR (fun x=>(t,dd x) :: f) L':=⟨fun a w s K Q hK=>by
 have hp:=nN L j hj;have h1:=Ld.call (P:=P) (c:=c) (T:=T) (ps:=ps) (af:=af) (gd:=gd) (L:=r :: L.eraseIdx j) (f:=f) (tys:=tys) hC ht h hle (Ll:=[r]) (Lr:=L.eraseIdx j) rfl;refine h1.go a w (s.perm hp) K Q fun x v w' kp sx hf=>?_
 have hq:=set_perm (r':=r' x) hj;rw [hL] at hq;refine hK x v w' (by simpa [aS] using kp) (sx.perm hq) fun y hy=>?_
 rcases hf y ((oh hq y).1 hy) with h | h
 ·exact .inl ((oh hp y).1 h)
 ·exact .inr h⟩
end
class qu (L:List ak) (r:ak) (j:outParam Nat):Prop where h:L[j]?=some r
instance qu.succ {q r:ak} {M:List ak} {j:Nat} [h:qu M r j]:qu (q :: M) r (j + 1):=⟨by simpa using h.h⟩
instance qu.zero {r:ak} {M:List ak}:qu (r :: M) r 0:=⟨rfl⟩
section
variable {P:Program} {c:Cx} {k:List Item} {f:Fm} {L:List ak} {ops:Array Oper} {l:List Oper} {o:Oper} {T:TypeId} {ps:String} {af:Array Edge} {gd:Option (Nat × Bool)} {t:Nat}
theorem Ld.cT {F:FuncId} {args:List Operand} {tys:Array TypeId} {cM ds:List D} {r:ak} {j:Nat} {ι:Type} {dd:ι→D} {r':ι→ak} {L':ι→List ak} [i:aK P F] (hC:aq P F ds [r] (fun x=>(dd x,[r' x]))) [hj:qu L r j] [hL:∀ x,jJ L j (r' x) (L' x)] (ht:t < c.N) (h:gq f args=some cM) (hle:br cM ds) :
  Ld P c ⟨some t,.call ⟨.value (.func F),args.toArray,tys⟩,T,ps,af,gd⟩ f L r.bR (fun x=>(t,dd x) :: f) L':=Ld.Ia j hC hj.h ht h hle fun x=>(hL x).h
theorem Ld.gy {F:FuncId} {args:List Operand} {tys:Array TypeId} {cM ds:List D} {ι:Type} {dd:ι→D} {L':ι→List ak} [i:aK P F] (hC:aq P F ds L (fun x=>(dd x,L' x))) (ht:t < c.N) (h:gq f args=some cM) (hle:br cM ds) :
  Ld P c ⟨some t,.call ⟨.value (.func F),args.toArray,tys⟩,T,ps,af,gd⟩ f L (aS L) (fun x=>(t,dd x) :: f) L':=⟨fun a w s K Q hK =>
 (Ld.call (P:=P) (c:=c) (T:=T) (ps:=ps) (af:=af) (gd:=gd) (tys:=tys) hC ht h hle (Ll:=L) (Lr:=[]) (by simp)).go a w s K Q fun x v w' kp sx hf=>hK x v w' kp (by simpa using sx) (by simpa using hf)⟩
end
section
variable {P:Program} {F:FuncId} {ok:Nat→Prop} {e:World} {L0 L:List ak} {ι:Type} {post:ι→D × List ak} {fn:Func} {N:Nat} {f:Fm} {k:List Item}
theorem yQ (L:List ak):(List.range L.length).map (fun i=>L[i]?)=L.map some:=by
 apply List.ext_getElem?;intro i;rw [List.getElem?_map,List.getElem?_map]
 by_cases h:i < L.length
 ·rw [List.getElem?_range h,List.getElem?_eq_getElem h];simp [List.getElem?_eq_getElem h]
 ·rw [List.getElem?_eq_none (by simpa using h),List.getElem?_eq_none (by omega)];rfl
theorem J.perm {c:Cx} {L2:List ak} (hp:L2.Perm L) (h:J P c k f L2):J P c k f L:=⟨fun a w s=>h.go a w (s.perm hp)⟩
theorem J.cS (hf:P.funcs[F]?=some fn) {rs:List ResultVar} {ds:List D} (kG:fn.results=rs.toArray) (h:gj P f L rs ds) {d:D} (i:ι) (hle:c9 (nX ds) d) (hp:post i=(d,L)):J P (cx F ok e L0 post N) (.code .ret :: k) f L :=
 J.ret hf kG h i hle (List.range L.length) List.nodup_range (yQ L) hp
theorem J.yR (hf:P.funcs[F]?=some fn) {rs:List ResultVar} {ds:List D} (kG:fn.results=rs.toArray) (h:gj P f L rs ds) {d:D} (i:ι) (hle:c9 (nX ds) d) (hp:post i=(d,L)):J P (cx F ok e L0 post N) [] f L :=
 J.fin hf kG h i hle (List.range L.length) List.nodup_range (yQ L) hp
theorem Ib (E L:List ak):((List.range L.length).map (· + E.length)).map (fun i=>(E ++ L)[i]?)=L.map some:=by
 rw [List.map_map,← yQ L];refine List.map_congr_left fun i _=>?_
 simp only [Function.comp];rw [List.getElem?_append_right (by omega)]
 congr 1;omega
theorem J.rP (E:List ak) {L':List ak} (hL:L=E ++ L') (hf:P.funcs[F]?=some fn) {rs:List ResultVar} {ds:List D} (kG:fn.results=rs.toArray) (h:gj P f L rs ds) {d:D} (i:ι) (hle:c9 (nX ds) d) (hp:post i=(d,L')):J P (cx F ok e L0 post N) (.code .ret :: k) f L:=by
 subst hL;exact J.ret hf kG h i hle ((List.range L'.length).map (· + E.length)) (List.pairwise_map.2 (List.nodup_range.imp (fun h e=>h (by omega)))) (Ib E L') hp
end
structure rQ (Φ:World→List Nat→Prop):Prop where
 gf:∀ {w w':World} {S T:List Nat},Φ w S→aE T w w'→(∀ x∈S,x∉T)→Φ w' S
 lt:∀ {w:World} {S:List Nat},Φ w S→∀ x∈S,x < w.heap.size
def aL (Φ:World→List Nat→Prop) (S:List Nat):ak:=.obj S (fun w=>Φ w S)
theorem aL.holds {Φ:World→List Nat→Prop} (h:rQ Φ) {ok:Nat→Prop} {w:World} {S:List Nat}:(aL Φ S).holds ok w↔Φ w S:=by
 constructor
 ·rintro ⟨h1,h2⟩;exact h2 w [] (aE.refl _ _) (by simp)
 ·intro h1;exact ⟨h.lt h1,fun w' S' k hn=>h.gf h1 k hn⟩
def kL:A→Bool
 | .v _=>true
 | .r _ _=>false
def lu:ak→Bool
 | .box _ _ cs=>cs.all kL
 | .row _ _ _ l=>l.all (·.all kL)
 | .obj _ _=>true
theorem RC.flat {ok dL:Nat→Prop} {w:World}:∀ {cs:List A} {vs:List Value},cs.all kL=true→RC ok w cs vs→RC dL w cs vs
 | [],vs,_,h=>by unfold RC at h ⊢;exact h
 | .v y :: cs,vs,hf,h=>by
  unfold RC at h ⊢;obtain ⟨x,xs,e,h1,h2⟩:=h;refine ⟨x,xs,e,?_,RC.flat (by simpa [kL] using hf) h2⟩;unfold RA at h1 ⊢;exact h1
 | .r _ _ :: cs,vs,hf,h=>by simp [kL] at hf
theorem RX.flat {ok dL:Nat→Prop} {w:World} {sz:Nat}:∀ {l:List (List A)} {xs:List Value},l.all (·.all kL)=true→RX ok w sz l xs→RX dL w sz l xs
 | [],xs,_,h=>h
 | cs :: l,xs,hf,h=>by
  obtain ⟨vs,ys,h1,h2,h3,h4⟩:=h;simp only [List.all_cons,Bool.and_eq_true] at hf;exact ⟨vs,ys,h1,h2,h3.flat hf.1,RX.flat hf.2 h4⟩
theorem ak.holds.flat {ok dL:Nat→Prop} {w:World}:∀ {r:ak},lu r=true→r.holds ok w→r.holds dL w
 | .box _ _ _,hf,⟨vs,h1,h2⟩=>⟨vs,h1,h2.flat hf⟩
 | .row _ _ _ _,hf,⟨xs,h1,h2⟩=>⟨xs,h1,h2.flat hf⟩
 | .obj _ _,_,h=>h
def dP {ι:Type} (M:ι→List ak) (w:World) (S:List Nat):Prop:=∃ x,aS (M x)=S∧fK (M x)∧∀ r∈M x,r.holds (fun _=>False) w
theorem dP.ok {ι:Type} {M:ι→List ak}:rQ (dP M):=⟨fun ⟨x,e,a,h⟩ k hn=>⟨x,e,a,fun r hr=>(h r hr).ck k ⟨k.size,fun _ _ z=>z.elim⟩ fun y hy=>hn y (by rw [← e];exact cJ.2 ⟨r,hr,hy⟩)⟩,fun ⟨x,e,_,h⟩ y hy=>by
 rw [← e] at hy;obtain ⟨r,hr,hy⟩:=cJ.1 hy;exact (h r hr).lt y hy⟩
section
variable {P:Program} {F:FuncId} {ds:List D} {ι κ:Type} {M:ι→List ak} {M':κ→List ak}
theorem iw (Φ:World→List Nat→Prop) (S:List Nat):aS [aL Φ S]=S:=by simp [aS,aL,ak.bR]
theorem aq.rR {d:D} {S:List Nat} (fl:∀ x,(M' x).all lu=true) (h:∀ x,∃ (Z:Type) (e:Z→κ),(∀ z,aS (M' (e z))=aS (M x))∧aq P F ds (M x) (fun z:Z=>(d,M' (e z)))) :
  aq P F ds [aL (dP M) S] (fun _:Unit=>(d,[aL (dP M') S])):=⟨fun ok e xs hd hr _ hn=>by
 obtain ⟨x,eS,ap,hh⟩:=(aL.holds dP.ok).1 (hr _ (List.mem_singleton.2 rfl));rw [iw] at hn;subst eS;obtain ⟨Z,ee,ef,C⟩:=h x;refine (C.go ok e xs hd (fun r hr=>(hh r hr).ck (aE.refl [] e) ⟨Nat.le_refl _,fun _ _ z=>z.elim⟩ (by simp)) ap hn).mono ?_
 rintro en w' ⟨z,y,rfl,kp,hs,yS,yT,hx⟩
 rw [ef] at hs;have eq:fL ok e [aL (dP M) (aS (M x))] [aL (dP M') (aS (M x))]=fL ok e (M x) (M' (ee z)):=by
  funext k;unfold fL;rw [iw,iw,ef]
 refine ⟨(),y,rfl,by rw [iw];exact kp,by rw [iw,iw];exact fun _ h=>.inl h,List.pairwise_singleton _ _,fun r hr=>?_,by rw [eq];exact hx⟩;rw [List.mem_singleton.1 hr];refine (aL.holds dP.ok).2 ⟨ee z,ef z,yS,fun r hr=>(yT r hr).flat ?_⟩;exact List.all_eq_true.1 (fl _) r hr⟩
theorem aq.rS {Y:Type} {d:Y→D} {κ:Y→Type} {N:∀ y,κ y→List ak} (fl:∀ y x,(N y x).all lu=true) {Z:Type} (e:Z→Σ y,κ y) (h:aq P F ds [] (fun z:Z=>(d (e z).1,N (e z).1 (e z).2))) :
  aq P F ds [] (fun q:Y × List Nat=>(d q.1,[aL (dP (N q.1)) q.2])):=⟨fun ok w0 xs hd hr ha hn=>by
 refine (h.go ok w0 xs hd hr ha hn).mono ?_
 rintro en w' ⟨z,y,rfl,kp,hs,yS,yT,hx⟩
 have eq:fL ok w0 [] [aL (dP (N (e z).1)) (aS (N (e z).1 (e z).2))]=fL ok w0 [] (N (e z).1 (e z).2):=by
  funext k;unfold fL;rw [iw]
 refine ⟨((e z).1,aS (N (e z).1 (e z).2)),y,rfl,kp,by rw [iw];exact hs,List.pairwise_singleton _ _,fun r hr=>?_,by rw [eq];exact hx⟩;rw [List.mem_singleton.1 hr];refine (aL.holds dP.ok).2 ⟨(e z).2,rfl,yS,fun r hr=>(yT r hr).flat ?_⟩;exact List.all_eq_true.1 (fl _ _) r hr⟩
end
section
variable {P:Program} {F:FuncId} {ds:List D} {L Ll Lr:List ak}
theorem aq.frame {ι:Type} {dd:ι→D} {M L':ι→List ak} (Lr:List ak) (hC:aq P F ds Ll (fun x=>(dd x,M x))) (hL:(Ll ++ Lr).Perm L) (rK:∀ x,(L' x).Perm (M x ++ Lr)):aq P F ds L (fun x=>(dd x,L' x)):=⟨fun ok e xs hd hr ha hf=>by
 have Ic:fK (Ll ++ Lr):=(hL.pairwise_iff (fun {x y} kC z hz nQ=>kC z nQ hz)).2 ha;have qf:=List.pairwise_append.1 Ic;have hm:∀ x,x∈aS L↔x∈aS Ll∨x∈aS Lr:=fun x=>by rw [← oh hL x,lX]
 have yU:∀ r∈Ll,r∈L:=fun r h=>hL.mem_iff.1 (List.mem_append_left _ h)
 have BR:∀ r∈Lr,r∈L:=fun r h=>hL.mem_iff.1 (List.mem_append_right _ h)
 have lY:∀ x,x∈aS Ll→x∉aS Lr:=fun x hx eH=>by
  obtain ⟨q,hq,h1⟩:=cJ.1 hx;obtain ⟨r,hr,h2⟩:=cJ.1 eH;exact qf.2.2 q hq r hr x h1 h2
 have fo:∀ x,x∈aS Lr→x < e.heap.size:=fun x hx=>by
  obtain ⟨r,h1,h2⟩:=cJ.1 hx;exact (hr r (BR r h1)).lt x h2
 refine Calls.mono (hC.go ok e xs hd (fun r h=>hr r (yU r h)) qf.1 (fun x hx=>hf x ((hm x).2 (.inl hx)))) ?_
 rintro en w' ⟨i,x,rfl,kp,g1,g2,g3,g4⟩
 have lA:∀ y,y∈aS (L' i)↔y∈aS (M i)∨y∈aS Lr:=fun y=>by rw [oh (rK i) y,lX]
 have qd:∀ g,g < w'.heap.size→fL ok e Ll (M i) g→fL ok e L (L' i) g:=fun g _ hg=>by
  obtain ⟨hg,hn⟩:=hg;refine ⟨?_,fun hx=>?_⟩
  ·rcases hg with hg | hg | hg
   ·exact .inl hg
   ·exact .inr (.inl ((hm g).2 (.inl hg)))
   ·exact .inr (.inr hg)
  ·rcases (lA g).1 hx with hx | hx
   ·exact hn hx
   ·rcases hg with hg | hg | hg
    ·exact hf g ((hm g).2 (.inr hx)) hg
    ·exact lY g hg hx
    ·have:=fo g hx;omega
 have m1:Mon (fL ok e Ll (M i)) (fL ok e L (L' i)) w' w':=⟨Nat.le_refl _,fun g hg ho=>⟨qd g hg ho,rfl⟩⟩
 have m2:Mon ok (fL ok e L (L' i)) e w':=Mon.ju kp fun g hg ho=>⟨⟨.inl ho,fun hx=>by
  rcases (lA g).1 hx with hx | hx
  ·rcases g1 g hx with h | h
   ·exact hf g ((hm g).2 (.inl h)) ho
   ·omega
  ·exact hf g ((hm g).2 (.inr hx)) ho⟩,fun hx=>hf g ((hm g).2 (.inl hx)) ho⟩
 refine ⟨i,x,rfl,kp.mono (fun y hy=>.inl ((hm y).2 (.inl hy))),fun y hy=>?_,?_,fun r yj=>?_,RD.ck m1 _ _ g4⟩
 ·rcases (lA y).1 hy with hy | hy
  ·rcases g1 y hy with h | h
   ·exact .inl ((hm y).2 (.inl h))
   ·exact .inr h
  ·exact .inl ((hm y).2 (.inr hy))
 ·refine ((rK i).pairwise_iff (fun {x y} kC z hz nQ=>kC z nQ hz)).2 ?_;refine List.pairwise_append.2 ⟨g2,qf.2.1,fun q hq r hr x hx eH=>?_⟩;have n9:x∈aS Lr:=cJ.2 ⟨r,hr,eH⟩;rcases g1 x (cJ.2 ⟨q,hq,hx⟩) with h | h
  ·exact lY x h n9
  ·have:=fo x n9;omega
 ·rcases List.mem_append.1 ((rK i).mem_iff.1 yj) with h | h
  ·exact (g3 r h).ck (aE.refl [] w') m1 (by simp)
  ·exact (hr r (BR r h)).ck kp m2 (fun x hx eH=>lY x eH (cJ.2 ⟨r,h,hx⟩))⟩
end
class qv {ι:Type} (L Ll:List ak) (M:ι→List ak) (L':outParam (ι→List ak)):Prop where h:∃ E,L=E ++ Ll∧L'=fun x=>E ++ M x
instance qv.succ {ι:Type} {q:ak} {L Ll:List ak} {M L':ι→List ak} [h:qv L Ll M L']:qv (q :: L) Ll M (fun x=>q :: L' x):=⟨by
 obtain ⟨E,h1,h2⟩:=h.h;exact ⟨q :: E,by rw [h1];rfl,by rw [h2];rfl⟩⟩
instance qv.zero {ι:Type} {L:List ak} {M:ι→List ak}:qv L L M M:=⟨⟨[],rfl,rfl⟩⟩
class Qg (L:List ak) (b:Nat) (L0:outParam (List ak)):Prop where h:∃ B,L=L0 ++ B
class Qh (L:List ak) (b:Nat) (B:outParam (List ak)) (mk:outParam (List ak→List ak)):Prop where
 h:L=mk B
 e:∃ E,∀ X,mk X=E ++ X
section
variable {P:Program} {c:Cx} {k:List Item} {f:Fm} {L L2:List ak} {T X:TypeId} {ps:String} {af:Array Edge} {gd:Option (Nat × Bool)} {t:Nat}
theorem Ld.mg {F:FuncId} {args:List Operand} {tys:Array TypeId} {cM ds:List D} {ι:Type} {dd:ι→D} {Ll:List ak} {M L':ι→List ak} [i:aK P F] (hC:aq P F ds Ll (fun x=>(dd x,M x))) [hs:qv L Ll M L'] (ht:t < c.N) (h:gq f args=some cM) (hle:br cM ds) :
  Ld P c ⟨some t,.call ⟨.value (.func F),args.toArray,tys⟩,T,ps,af,gd⟩ f L (aS Ll) (fun x=>(t,dd x) :: f) L':=by
 obtain ⟨E,h1,h2⟩:=hs.h;subst h1 h2;exact Ld.Hv E _ hC List.perm_append_comm (fun x=>List.perm_append_comm) ht h hle
theorem Ld.yV {F:FuncId} {args:List Operand} {tys:Array TypeId} {cM ds:List D} {ι:Type} {dd:ι→D} {M L':ι→List ak} [i:aK P F] (hC:aq P F ds [] (fun x=>(dd x,M x))) (hL:∀ x,L' x=M x ++ L) (ht:t < c.N) (h:gq f args=some cM) (hle:br cM ds) :
  Ld P c ⟨some t,.call ⟨.value (.func F),args.toArray,tys⟩,T,ps,af,gd⟩ f L [] (fun x=>(t,dd x) :: f) L':=by
 obtain rfl:L'=fun x=>M x ++ L:=funext hL
 exact Ld.call (P:=P) (c:=c) (T:=T) (ps:=ps) (af:=af) (gd:=gd) (L:=L) (f:=f) (tys:=tys) hC ht h hle (Ll:=[]) (Lr:=L) rfl
end
def tX (L:List ak):List Nat:=List.range L.length
theorem Ie {L:List ak} {x:Nat} (h:x∈aS L):x∈iE L (tX L):=by
 obtain ⟨r,hr,hx⟩:=cJ.1 h;obtain ⟨i,hi⟩:=List.getElem?_of_mem hr;exact tO.2 ⟨i,List.mem_range.2 (List.getElem?_eq_some_iff.1 hi).1,r,hi,hx⟩
def kM (S:List Nat) (L:List ak):Prop:=∀ x∈S,x∈aS L
theorem kM.nil {L:List ak}:kM [] L:=fun x hx=>by cases hx
theorem kM.row {v:Value} {e sz:Nat} {l:List (List A)} {L:List ak}:kM (cH v) (.row v e sz l :: L):=fun x hx=>(iV _ _ _).2 (.inl hx)
theorem kM.aS {L Ll:List ak} {L':Unit→List ak} [h:qv L Ll (fun _:Unit=>([]:List ak)) L']:kM (Fl.aS Ll) L:=fun x hx=>by
 obtain ⟨E,h1,_⟩:=h.h;rw [h1,lX];exact .inr hx
section
variable {P:Program} {c:Cx} {k:List Item} {f f0:Fm} {L L0:List ak} {ops:Array Oper} {o:Oper} {m:Option Nat} {n:Nat} {aH:Array Bool}
theorem JW.Ig (m:Option Nat) (h:JD P c ops m (tX L) n aH k f L f L):JW P c ops n aH k f L:=JW.gw _ _ h
theorem JS.rT {S:List Nat} {i t:Nat} {ι:Type} {g:ι→D} {L':ι→List ak} (hi:ops[i]?=some o) (hd:o.dst=some t) (hw:c7 ops o f=true) (ht:t < c.N) (q:Ld P c o f L S (fun x=>(t,g x) :: f) L') (hS:kM S L)
  (h:∀ x,JD P c ops m (tX L0) n (aH.setIfInBounds i true) k ((t,g x) :: f) (L' x) ((t,stays (g x)) :: f0) L0):JS P c ops m (tX L0) n aH k f L f0 L0 i:=⟨fun a w w0 s s0 kp ho=>by
 refine wpOp_step hi (fun K hK=>?_);rw [c7.run hw s,if_pos rfl];refine q.go a w s K _ fun x v w' kY sx hf=>?_
 have oV:aE (iE L0 (tX L0)) w0 w':=kp.trans kY fun x hx=>by
  rcases ho x (hS x hx) with h | h
  ·exact .inl (Ie h)
  ·exact .inr h
 refine hK _ _ (.inr ⟨oV,(h x).go _ w' w0 sx ?_ oV ?_⟩)
 ·rw [hd];exact s0.jZ ht (stays.rep (by
   have h1:=sx.fr t (g x) (oR _ _ _);have h2:=s.size;rw [hd] at h1;simpa [Act.put,Array.getD_eq_getD_getElem?,Array.getElem?_setIfInBounds,h2,ht] using h1))
 ·intro y hy;rcases hf y hy with h1 | h1
  ·exact ho y h1
  ·exact .inr (Nat.le_trans kp.size h1)⟩
end
section
variable {P:Program} {c:Cx} {f:Fm} {L:List ak} {T X:TypeId} {ps:String} {af:Array Edge} {gd:Option (Nat × Bool)} {t:Nat}
theorem Qt.max {x y:Operand} {tys:Array TypeId} {k1:IntKind} {m n r:Int} (h:aP f x=some (.c (.v (.int k1 m)))) (hy:aP f y=some (.c (.v (.int k1 n)))) (hr:(if n > m then n else m)=r):Qt P c [] ⟨t,.call ⟨.builtin .max,#[x,y],tys⟩,T,ps,af,gd⟩ f L (.c (.v (.int k1 r))):=⟨fun a w s=>by
 have rx:=s.val h;have ry:=s.val hy;subst hr;refine ⟨_,by unfold RD RA;exact ⟨rfl,rfl⟩,fun w' k=>?_⟩;simp only [execOp,resolve,invoke,builtin,Sem.run_bind];simp [rx,ry,Builtin.max_,Builtin.max2,Sem.run_bind]⟩
end
theorem RX.BU {ok:Nat→Prop} {w:World}:∀ {l:List (List A)} {xs:List Value} (n:Nat),RX ok w 1 l xs→RX ok w 1 (l.drop n) (xs.drop n)
 | l,xs,0,h=>h
 | [],xs,n + 1,h=>by unfold RX at h;subst h;exact rfl
 | cs :: l,xs,n + 1,h=>by
  obtain ⟨vs,ys,rfl,h2,h3,h4⟩:=h;obtain ⟨v,rfl⟩:=List.length_eq_one_iff.1 h2;exact RX.BU n h4
section
variable {P:Program} {c:Cx} {f:Fm} {L:List ak} {T X:TypeId} {ps:String} {af:Array Edge} {gd:Option (Nat × Bool)} {t:Nat}
theorem Ld.Ih {e bytes:Nat} {z:Value} [E:eK P X e 1 bytes z] {x y:Operand} {v:Value} {l1 l2:List (List A)} {i:Nat} {L':List ak} [bx:eY L v e 1 l1 i] [st:jJ L i (.row v e 1 (l2 ++ l1.drop l2.length)) L'] (ht:t < c.N) (hx:aP f x=some (.c (.v v))) (hy:aP f y=some (.c (.r 1 l2))) (hn:l2.length≤l1.length) :
  Ld P c ⟨some t,.call ⟨.builtin .copy,#[x,y],#[X,X]⟩,T,ps,af,gd⟩ f L (cH v) (fun _:Unit=>(t,.c (.v (.int .i64 l2.length))) :: f) (fun _=>L'):=⟨fun a w s K Q hK=>by
 obtain ⟨hu,kA,hz,oQ,p9⟩:=E.h;obtain ⟨ti,hi,dz,de,gN⟩:=info_parts kA;have js:(P.info? e).map (·.size)=some 1:=by rw [hi];simp [de]
 have rx:=s.val hx;have ry:=s.ev hy;unfold RD at ry;obtain ⟨ys,S,v1,v2,v3⟩:=ry.view;obtain ⟨xs,⟨hl,ao,cap,rfl,lT,kV,h4⟩,q2⟩:=s.res _ (List.mem_of_getElem? bx.h);obtain ⟨ia,bo,lW,qn,A0,A3,sW⟩:=v1;have j8:∀ u∈ys,u.oneCell'=true:=v2.one;have eL:∃ w',(execOp a.eval ⟨some t,.call ⟨.builtin .copy,#[x,y],#[X,X]⟩,T,ps,af,gd⟩).run P w=.ok (.value (.int .i64 l2.length)) w'∧aE (cH (.slice ao l1.length cap)) w w'∧Row w' (.slice ao l1.length cap) e 1 l1.length (ys ++ xs.drop ys.length) (cH (.slice ao l1.length cap)):=by
  by_cases h0:l2.length=0
  ·refine ⟨w,?_,aE.refl _ _,?_⟩
   ·have hr:=run_copy_none (P:=P) w X X T e ao bo l1.length cap l2.length lW hu js (by rw [h0];first | exact Nat.zero_min _ | exact Nat.min_zero _ | rfl);rw [h0] at hr qn ⊢;simp [execOp,resolve,invoke,builtin,rx,qn,hr,Sem.run_bind,goInt]
   ·have e1:ys=[]:=List.eq_nil_of_length_eq_zero (by rw [ia,h0]);rw [e1];exact ⟨hl,ao,cap,rfl,lT,kV,h4⟩
  ·rcases h4 with ⟨_,h,_⟩ | ⟨g,off,cur,rfl,hS,hb,vH,hc⟩
   ·omega
   ·rcases sW with ⟨h,_⟩ | ⟨ug,sX,rfl,_,A4,sY⟩
    ·omega
    ·have hr:=run_copy_row (P:=P) w X X T e g off l1.length cap ⟨ug,sX,none⟩ l2.length lW cur.toArray e ys hu js hb (by rw [ia,Nat.mul_one];exact (Nat.min_eq_left hn).symm) (fun j y hj=>by
      rw [Addr.add_lit,sY j (List.getElem?_eq_some_iff.1 hj).1];exact hj) (by rw [ia,List.size_toArray];omega) j8
     refine ⟨_,?_,(aE.refl _ w).setRow (g:=g) (.inl (by simp [cH])) (cur.toArray.toList.take off ++ ys ++ cur.toArray.toList.drop (off + ys.length)).toArray,?_⟩
     ·simp only [execOp,resolve,invoke,builtin,Sem.run_bind];simp [rx,qn,hr,ia,goInt,Sem.run_bind]
     ·refine ⟨by rw [List.length_append,List.length_drop,hl,ia];omega,_,_,rfl,lT,kV,.inr ⟨g,off,_,rfl,hS,setRow_heap w g cur.toArray _ e _ hb,?_,?_⟩⟩
      ·simp only [List.length_append,List.length_take,List.length_drop,ia];omega
      ·intro j hj;have nG:(cur.take off).length=off:=by rw [List.length_take];omega
       rw [List.append_assoc,List.getElem?_append_right (by rw [nG];omega),nG,show off + j - off=j by omega]
       by_cases BV:j < ys.length
       ·rw [List.getElem?_append_left BV,List.getElem?_append_left BV]
       ·rw [List.getElem?_append_right (by omega),List.getElem?_append_right (by omega),List.getElem?_drop,List.getElem?_drop,show off + ys.length + (j - ys.length)=off + j by omega,show ys.length + (j - ys.length)=j by omega];exact hc j (by rw [List.length_append,List.length_drop] at hj;omega)
 obtain ⟨w',eL,hk,qm⟩:=eL;unfold Oper.wp;rw [eL];have m:Mon (aZ c L) (aZ c L) w w':=Mon.ju hk fun g hg ho=>⟨ho,fun hm=>ho.2 (cJ.2 ⟨_,List.mem_of_getElem? bx.h,hm⟩)⟩
 have jB:RX (aZ c L) w' 1 (l1.drop l2.length) (xs.drop ys.length):=by
  rw [show ys.length=l2.length by rw [ia,Nat.mul_one]];exact RX.BU _ (RX.ck m _ _ q2)
 have hh:(ak.row (.slice ao l1.length cap) e 1 (l2 ++ l1.drop l2.length)).holds (aZ c L) w':=⟨ys ++ xs.drop ys.length,by rw [show (l2 ++ l1.drop l2.length).length=l1.length by rw [List.length_append,List.length_drop];omega];exact qm,RX.app (RX.ck m _ _ v2) jB⟩
 have s2:=s.set bx.h (r':=.row (.slice ao l1.length cap) e 1 (l2 ++ l1.drop l2.length)) rfl hk hh;rw [st.h] at s2;refine hK () _ w' hk (s2.jZ ht (by unfold RD RA;exact ⟨rfl,rfl⟩)) fun y hy=>?_
 rw [← st.h] at hy;exact .inl ((rC bx.h (r':=.row (.slice ao l1.length cap) e 1 (l2 ++ l1.drop l2.length)) rfl y).1 hy)⟩
end
def pt (b:Nat):Value:=.pointer (some ⟨b,0,none⟩)
def aU (l:List Int):List (List A):=l.map fun n=>[nI n]
theorem fA (l:List Int):(aU l).length=l.length:=by simp [aU]
theorem vZ (l:List Int):(aU l).all (·.all kL)=true:=List.all_eq_true.2 fun x hx=>by
 obtain ⟨n,_,rfl⟩:=List.mem_map.1 hx;rfl
theorem tY {l:List Int} {i:Int} (h0:0≤i) (h:i < l.length):(aU l)[i.toNat]?=some [nI (l.getD i.toNat 0)]:=by
 unfold aU;rw [List.getElem?_map,List.getD_eq_getElem?_getD,List.getElem?_eq_getElem (show i.toNat < l.length by omega)];rfl
theorem BW (l:List Int) (i:Nat) (n:Int):(aU l).set i [nI n]=aU (l.set i n):=by unfold aU;rw [List.map_set]
end Fl
namespace Lt
def has (l:List Int) (i:Int):Bool:=decide (0≤i) && decide (i < l.length)
def owner (l:List Int) (i:Int):Int:=if has l i then l.getD i.toNat 0 else -1
def tZ (l:List Int) (i we:Int):Bool:=has l i && decide (0≤we) && (l.getD i.toNat 0 == -1)
def ua (l:List Int) (i we:Int):List Int:=if tZ l i we then l.set i.toNat we else l
def gz (n:Int):List Int:=List.replicate (max 0 (min n 4096)).toNat (-1)
theorem Ii {l:List Int} {i:Int} (h0:0≤i) (h:i < l.length):has l i=true:=by unfold has;rw [decide_eq_true h0,decide_eq_true h];rfl
theorem BX {l:List Int} {i:Int} (h:i < 0∨(l.length:Int)≤i):has l i=false:=by
 unfold has;rcases h with h | h
 ·rw [decide_eq_false (show ¬ 0≤i by omega)];rfl
 ·rw [decide_eq_false (show ¬ i < (l.length:Int) by omega),Bool.and_false]
end Lt
open Go.RowKit
namespace Fl
open Sx Go.Proofs.Tryz
set_option maxRecDepth 100000
def mL (p:Value) (l:List Int) (x:{ x:Nat × Value // p=pt x.1 }):List ak:=[.box x.1.1 130 [.v x.1.2],.row x.1.2 3 1 (aU l)]
def tL (p:Value) (l:List Int):World→List Nat→Prop:=dP (mL p l)
theorem mL.fl {p:Value} {l:List Int} (x:{ x:Nat × Value // p=pt x.1 }):(mL p l x).all lu=true:=by simp [mL,lu,kL,vZ]
theorem BY {F:FuncId} {ds:List D} {p:Value} {l l':List Int} {d:D} {S:List Nat} (h:∀ b v,p=pt b→aq prog F ds [.box b 130 [.v v],.row v 3 1 (aU l)] (fun _:Unit=>(d,[.box b 130 [.v v],.row v 3 1 (aU l')]))) :
  aq prog F ds [aL (tL p l) S] (fun _:Unit=>(d,[aL (tL p l') S])) :=
 aq.rR mL.fl fun x=>⟨Unit,fun _=>x,fun _=>rfl,h x.1.1 x.1.2 x.2⟩
theorem BZ (p:Value) (l:List Int) (S:List Nat) (i:Int):aq prog 45 [.c (.v p),.c (nI i)] [aL (tL p l) S] (fun _:Unit=>(.c (nI (Lt.owner l i)),[aL (tL p l) S])):=by
 refine BY fun b v e=>?_
 subst e;have ln:=fA l
 by_cases h0:0≤i
 ·by_cases h1:i < l.length
  ·have t0:decide (i < 0)=false:=decide_eq_false (by omega);have t1:decide (i ≥ ((aU l).length:Int))=false:=decide_eq_false (by omega);have A:=tY h0 h1;rw [show Lt.owner l i=l.getD i.toNat 0 by unfold Lt.owner;rw [Lt.Ii h0 h1];rfl];refine aq.intro func45 rfl rfl rfl (fun ok e=>?_)
   repeat (first | (refine K.load ?_;refine jq rfl rfl rfl (Qt.dx rfl A rfl) ?_) | (refine K.indexAddr ?_;refine jq rfl rfl rfl (Qt.cB rfl rfl (by omega) (by omega)) ?_) | refine gn ?_)
   (exact J.cS func45 rfl (.cons (.tmp rfl) .nil) () (by exact .refl) rfl)
  ·have t0:decide (i < 0)=false:=decide_eq_false (by omega);have t1:decide (i ≥ ((aU l).length:Int))=true:=decide_eq_true (by omega);rw [show Lt.owner l i=-1 by unfold Lt.owner;rw [Lt.BX (.inr (by omega))];rfl];refine aq.intro func45 rfl rfl rfl (fun ok e=>?_)
   repeat (refine gn ?_)
   (exact J.cS func45 rfl (.cons (.tmp rfl) .nil) () (by exact .refl) rfl)
 ·have t0:decide (i < 0)=true:=decide_eq_true (by omega);rw [show Lt.owner l i=-1 by unfold Lt.owner;rw [Lt.BX (.inl (by omega))];rfl];refine aq.intro func45 rfl rfl rfl (fun ok e=>?_)
  repeat (refine gn ?_)
  (exact J.cS func45 rfl (.cons (.tmp rfl) .nil) () (by exact .refl) rfl)
theorem Ij (p:Value) (l:List Int) (S:List Nat) (i g:Int):aq prog 72 [.c (.v p),.c (nI i),.c (nI g)] [aL (tL p l) S] (fun _:Unit=>(.c (bI (Lt.tZ l i g)),[aL (tL p (Lt.ua l i g)) S])):=by
 refine BY fun b v e=>?_
 subst e;have ln:=fA l;obtain ⟨x0,t0⟩:∃ x,decide (i < 0)=x:=⟨_,rfl⟩
 obtain ⟨x1,t1⟩:∃ x,decide (i ≥ ((aU l).length:Int))=x:=⟨_,rfl⟩
 obtain ⟨x2,t2⟩:∃ x,decide (g < 0)=x:=⟨_,rfl⟩
 obtain ⟨x3,t3⟩:∃ x,(l.getD i.toNat 0 != -1)=x:=⟨_,rfl⟩
 have e1:Lt.tZ l i g=(!x0 && !x1 && !x2 && !x3):=by
  unfold Lt.tZ Lt.has;rw [← t0,← t1,← t2,← t3,ln];simp only [bne,Bool.not_not,← decide_not,Int.not_lt,ge_iff_le,Int.not_le]
 have e2:Lt.ua l i g=if (!x0 && !x1 && !x2 && !x3)=true then l.set i.toNat (g) else l:=by unfold Lt.ua;rw [e1]
 rw [e1,e2];refine aq.intro func72 rfl rfl rfl (fun ok e=>?_)
 cases x0 with
 | true =>
  repeat (refine gn ?_)
  (exact J.cS func72 rfl (.cons (.tmp rfl) .nil) () (by exact .refl) rfl)
 | false =>
 cases x1 with
 | true =>
  repeat (refine gn ?_)
  (exact J.cS func72 rfl (.cons (.tmp rfl) .nil) () (by exact .refl) rfl)
 | false =>
 have h0:0≤i:=by simpa using t0
 have h1:i < l.length:=by simpa [ln] using t1
 have A:=tY h0 h1
 cases x2 with
 | true =>
  repeat (refine gn ?_)
  (exact J.cS func72 rfl (.cons (.tmp rfl) .nil) () (by exact .refl) rfl)
 | false =>
 cases x3 with
 | true =>
  repeat (first | (refine K.load ?_;refine jq rfl rfl rfl (Qt.dx rfl A rfl) ?_) | (refine K.indexAddr ?_;refine jq rfl rfl rfl (Qt.cB rfl rfl (by omega) (by omega)) ?_) | refine gn ?_)
  (exact J.cS func72 rfl (.cons (.tmp rfl) .nil) () (by exact .refl) rfl)
 | false =>
  have e3:=BW l i.toNat (g);rw [if_pos (by rfl),← e3]
  repeat (first | (refine K.load ?_;refine jq rfl rfl rfl (Qt.dx rfl A rfl) ?_) | (refine K.store ?_;refine JO.ld (Ld.j6 rfl rfl (by exact rfl) (A)) rfl (fun _=>?_)) | (refine K.indexAddr ?_;refine jq rfl rfl rfl (Qt.cB rfl rfl (by omega) (by omega)) ?_) | refine gn ?_)
  (exact J.cS func72 rfl (.cons (.tmp rfl) .nil) () (by exact .refl) rfl)
def jS (m k:Nat):List Int:=List.replicate k (-1) ++ List.replicate (m - k) 0
theorem B3 {m k:Nat} (h:k≤m):(jS m k).length=m:=by unfold jS;simp;omega
theorem Ik {m k:Nat} (h:k < m):(jS m k).set k (-1)=jS m (k + 1):=by
 unfold jS;rw [List.set_append_right _ _ (by simp),show m - k=(m - (k + 1)) + 1 by omega,List.replicate_succ,List.replicate_succ',List.append_assoc];simp
theorem B4 (n:Int):aq prog 29 [.c (nI n)] [] (fun x:Value × List Nat=>(.c (.v x.1),[aL (tL x.1 (Lt.gz n)) x.2])):=by
 refine aq.rS (Y:=Value) (d:=fun p=>.c (.v p)) (κ:=fun p=>{ x:Nat × Value // p=pt x.1 }) (N:=fun p x=>mL p (Lt.gz n) x) (fun p x=>mL.fl x) (Z:=Nat × Value) (fun z=>⟨pt z.1,⟨z,rfl⟩⟩) ?_;unfold Lt.gz;obtain ⟨m,hm⟩:∃ m:Nat,max 0 (min n 4096)=(m:Int):=⟨(max 0 (min n 4096)).toNat,by omega⟩
 have m4:m≤4096:=by omega
 rw [hm,Int.toNat_natCast];refine aq.intro func29 rfl rfl rfl (fun ok e=>?_);have m1:(if 4096 < n then 4096 else n)=min n 4096:=by omega
 have m2:(if min n 4096 > 0 then min n 4096 else 0)=(m:Int):=by omega
 repeat (first | (refine K.bi ?_;first | refine jq rfl rfl rfl (Qt.min rfl rfl m1) ?_ | refine jq rfl rfl rfl (Qt.max rfl rfl m2) ?_) | (refine K.make ?_;refine JO.ld (Ld.make m (qb rfl) rfl rfl rfl (by omega)) rfl (fun _=>?_)) | refine av ?_ | intro _)
 rename_i v b;have e0:List.replicate m (vs [Value.int .i64 0])=aU (jS m 0):=by unfold jS aU;simp;exact .inr rfl
 rw [e0];refine J.loop (ι:={ k:Nat // k≤m }) (fun q=>[(16,.c (nI q.1)),(15,.c (nI m)),(3,.c (.v (pt b)))]) (fun q=>[.box b 130 [.v (.slice (some ⟨v,0,none⟩) m m)],.row (.slice (some ⟨v,0,none⟩) m m) 3 1 (aU (jS m q.1))]) (fun q=>m - q.1) ⟨0,Nat.zero_le _⟩ (fun X h=>(h.aQ ⟨rfl,rfl,rfl,trivial⟩)) (fun q ih=>?_);obtain ⟨k,hk⟩:=q;simp only at hk ih ⊢
 by_cases aN:k < m
 ·have t1:decide ((k:Int) < (m:Int))=true:=decide_eq_true (by omega);have ln:(aU (jS m k)).length=m:=by rw [fA,B3 hk]
  have A:(aU (jS m k))[((k:Nat):Int).toNat]?=some [nI ((jS m k).getD ((k:Nat):Int).toNat 0)]:=tY (Int.natCast_nonneg k) (by rw [B3 hk];omega);have e1:(aU (jS m k)).set ((k:Int)).toNat [nI (-1)]=aU (jS m (k + 1)):=by rw [Int.toNat_natCast,BW,Ik aN]
  have fF:=ih ⟨k + 1,by omega⟩ (by simp only;omega);simp only at fF;rw [← e1] at fF
  repeat (first | (refine K.store ?_;refine JO.ld (Ld.j6 rfl rfl (by exact rfl) (A)) rfl (fun _=>?_)) | (refine K.indexAddr ?_;refine jq rfl rfl rfl (Qt.cB rfl rfl (by omega) (by omega)) ?_) | refine gn ?_)
  exact fF.aQ ⟨rfl,rfl,rfl,trivial⟩
 ·have t1:decide ((k:Int) < (m:Int))=false:=decide_eq_false (by omega);have e1:jS m k=List.replicate m (-1):=by unfold jS;rw [show k=m by omega];simp
  rw [e1]
  repeat (refine gn ?_)
  (exact J.cS func29 rfl (.cons (.tmp rfl) .nil) (b,.slice (some ⟨v,0,none⟩) m m) (by exact .refl) rfl)
end Fl
namespace Qu
def gI:List Int→Int→Int
 | [],_=>-1
 | a :: l,x=>if a=x then l.headD (-1) else gI l x
def mZ:Int→List Int→Int→Int
 | _,[],_=>-1
 | p,a :: l,x=>if a=x then p else mZ a l x
def m8 (l:List Int) (x:Int):Int:=mZ (-1) l x
def loc:List (List Int)→Int→Option Nat
 | [],_=>none
 | l :: r,x=>if x∈l then some 0 else (loc r x).map (· + 1)
def tc (R:List (List Int)) (x:Int):Int × Int × Int :=
 match loc R x with
 | some k=>(k,gI (R.getD k []) x,m8 (R.getD k []) x)
 | none=>(-1,-1,-1)
def th (n:Nat) (R:List (List Int)):List (Int × Int × Int):=(List.range n).map fun (x:Nat)=>tc R (x:Int)
def lc (l:List Int):Int × Int × Int:=(l.headD (-1),l.getLastD (-1),(l.length:Int))
def ln (R:List (List Int)):List (Int × Int × Int):=R.map lc
structure Inv (n:Nat) (R:List (List Int)):Prop where
 pn:n≤64
 Il:R.length≤64
 one:∀ a,R.flatten.count a≤1
 bound:∀ a,a∈R.flatten→0≤a∧a < n
theorem B5 {a b:List Int} {y:Int} (h:y∈a) (hd:a.count y≤1):gI (a ++ b) y=if a.getLastD (-1)=y then b.headD (-1) else gI a y:=by
 induction a with
 | nil=>simp at h
 | cons z r ih =>
  by_cases e:z=y
  ·subst e;rw [List.count_cons_self] at hd;have hr:z∉r:=fun hm=>by have:=List.count_pos_iff.2 hm;omega
   cases r with
   | nil=>simp [gI]
   | cons u s =>
    have hl:(z :: u :: s).getLastD (-1)≠z:=by
     rw [List.getLastD_eq_getLast?,List.getLast?_cons_cons];intro hc;apply hr;rw [← hc,List.getLast?_eq_some_getLast (by simp)];exact List.getLast_mem _
    rw [if_neg hl];simp [gI]
  ·have hm:y∈r:=by
    rcases List.mem_cons.1 h with h | h
    ·exact absurd h.symm e
    ·exact h
   rw [List.count_cons_of_ne (by simpa using e)] at hd;have:=ih hm hd
   cases r with
   | nil=>simp at hm
   | cons u s =>
    rw [List.cons_append,gI,if_neg e,this];rw [show (z :: u :: s).getLastD (-1)=(u :: s).getLastD (-1) by simp [List.getLastD_eq_getLast?]];rw [show gI (z :: u :: s) y=gI (u :: s) y by rw [gI,if_neg e]]
theorem B6 {a b:List Int} {y:Int} (h:y∉a):gI (a ++ b) y=gI b y:=by
 induction a with
 | nil=>rfl
 | cons z r ih =>
  simp only [List.mem_cons,not_or] at h;rw [List.cons_append,gI,if_neg (fun e=>h.1 e.symm),ih h.2]
theorem Im {a b:List Int} {y:Int} (h:y∈a):∀ p,mZ p (a ++ b) y=mZ p a y:=by
 induction a with
 | nil=>simp at h
 | cons z r ih =>
  intro p;rw [List.cons_append,mZ,mZ]
  by_cases e:z=y
  ·rw [if_pos e,if_pos e]
  ·rw [if_neg e,if_neg e];rcases List.mem_cons.1 h with h | h
   ·exact absurd h.symm e
   ·exact ih h z
theorem B7 {a b:List Int} {y:Int} (h:y∈a):m8 (a ++ b) y=m8 a y:=Im h (-1)
theorem Io {a b:List Int} {y:Int} (h:y∉a):∀ p,mZ p (a ++ b) y=mZ (a.getLastD p) b y:=by
 induction a with
 | nil=>intro p;rfl
 | cons z r ih =>
  intro p;simp only [List.mem_cons,not_or] at h;rw [List.cons_append,mZ,if_neg (fun e=>h.1 e.symm),ih h.2,List.getLastD_cons]
theorem yW {R:List (List Int)} {x:Int} {k:Nat} (h:loc R x=some k):k < R.length∧x∈R.getD k []:=by
 induction R generalizing k with
 | nil=>simp [loc] at h
 | cons l r ih =>
  rw [loc] at h
  split at h
  ·rename_i hm;obtain rfl:=Option.some.inj h;exact ⟨by simp,by simpa using hm⟩
  ·obtain ⟨j,hj,rfl⟩:=Option.map_eq_some_iff.1 h;have:=ih hj;exact ⟨by simp;omega,by simpa using this.2⟩
theorem qw {R:List (List Int)} {x:Int}:loc R x=none↔x∉R.flatten:=by
 induction R with
 | nil=>simp [loc]
 | cons l r ih =>
  rw [loc]
  by_cases h:x∈l
  ·rw [if_pos h];simp [h]
  ·rw [if_neg h];simp only [Option.map_eq_none_iff,List.flatten_cons,List.mem_append,h,false_or];exact ih
theorem yX {R:List (List Int)} {x:Int} (h1:R.flatten.count x≤1) {k:Nat} (hk:k < R.length) (hx:x∈R.getD k []):loc R x=some k:=by
 induction R generalizing k with
 | nil=>simp at hk
 | cons l r ih =>
  rw [loc];rw [List.flatten_cons,List.count_append] at h1
  cases k with
  | zero=>rw [if_pos (by simpa using hx)]
  | succ k =>
   have eH:x∈r.getD k []:=by simpa using hx
   have yY:k < r.length:=by simpa using hk
   have hf:x∈r.flatten:=by
    rw [List.getD_eq_getElem?_getD,List.getElem?_eq_getElem yY] at eH;exact List.mem_flatten.2 ⟨r[k],List.getElem_mem yY,by simpa using eH⟩
   have h2:=List.count_pos_iff.2 hf;have hl:x∉l:=fun h=>by have:=List.count_pos_iff.2 h;omega
   rw [if_neg hl,ih (by omega) yY eH];rfl
theorem count_set (a:Int):∀ (C:List (List Int)) (g:Nat) (c c':List Int),C[g]?=some c→(C.set g c').flatten.count a + c.count a=C.flatten.count a + c'.count a
 | [],g,c,c',h=>by simp at h
 | y :: r,0,c,c',h=>by
  simp at h;subst h;simp [List.count_append];omega
 | y :: r,g + 1,c,c',h=>by
  have:=count_set a r g c c' (by simpa using h);simp [List.count_append];omega
theorem getD_some {R:List (List Int)} {k:Nat} (h:k < R.length):R[k]?=some (R.getD k []):=by
 rw [List.getD_eq_getElem?_getD,List.getElem?_eq_getElem h];rfl
theorem count_le {R:List (List Int)} {k:Nat} (h:k < R.length) (a:Int):(R.getD k []).count a≤R.flatten.count a:=by
 have:=count_set a R k _ [] (getD_some h);simp at this ⊢;omega
theorem mY {R:List (List Int)} {k j:Nat} {l:List Int} (h:k < R.length):(R.set k l).getD j []=if k=j then l else R.getD j []:=by
 by_cases e:k=j
 ·subst e;simp [h]
 ·simp [List.getD,e]
theorem Ip {n:Nat} {R:List (List Int)} {k:Nat} {l':List Int} (v:Inv n R) (v':Inv n (R.set k l')) (hk:k < R.length) (y:Int) :
  loc (R.set k l') y=if y∈l' then some k else if loc R y=some k then none else loc R y:=by
 by_cases h:y∈l'
 ·rw [if_pos h];exact yX (v'.one y) (by simpa using hk) (by rw [mY hk,if_pos rfl];exact h)
 ·rw [if_neg h]
  cases hl:loc (R.set k l') y with
  | none =>
   split
   ·rfl
   ·rename_i h2;have hf:=qw.1 hl
    cases hr:loc R y with
    | none=>rfl
    | some j =>
     obtain ⟨hj,mW⟩:=yW hr;have yZ:k≠j:=fun e=>h2 (by rw [hr,e])
     exact absurd (List.mem_flatten.2 ⟨R.getD j [],List.mem_of_getElem? (i:=j) (by rw [List.getElem?_set_ne yZ];exact getD_some hj),mW⟩) hf
  | some j =>
   obtain ⟨hj,mW⟩:=yW hl;rw [mY hk] at mW
   split at mW
   ·exact absurd mW h
   ·rename_i yZ;have dH:j < R.length:=by simpa using hj
    have:=yX (v.one y) dH mW;rw [this,if_neg (by simpa using fun e=>yZ e.symm)]
theorem m9 (n:Nat) (R:List (List Int)):(th n R).length=n:=by simp [th]
theorem wh {n:Nat} {R:List (List Int)} {x:Nat} (h:x < n):(th n R)[x]?=some (tc R (x:Int)):=by simp [th,h]
theorem y7 {n:Nat} {R:List (List Int)} {l:List (Int × Int × Int)} (hl:l.length=n) (h:∀ x:Nat,x < n→l[x]?=some (tc R (x:Int))):l=th n R:=by
 apply List.ext_getElem?;intro i
 by_cases hi:i < n
 ·rw [h i hi,wh hi]
 ·rw [List.getElem?_eq_none (by omega),List.getElem?_eq_none (by rw [m9];omega)]
theorem Iq (R:List (List Int)) (k:Nat) (l:List Int):ln (R.set k l)=(ln R).set k (lc l):=by simp [ln,List.map_set]
theorem Ir {R:List (List Int)} {k:Nat} (h:k < R.length):(ln R)[k]?=some (lc (R.getD k [])):=by
 simp only [ln,List.getElem?_map,getD_some h,Option.map_some]
theorem wj {n:Nat} {R:List (List Int)} (v:Inv n R) {k:Nat} (hk:k < R.length) {y:Int} (hy:y∈R.getD k []):tc R y=((k:Int),gI (R.getD k []) y,m8 (R.getD k []) y):=by
 unfold tc;rw [yX (v.one y) hk hy]
theorem B8 {R:List (List Int)} {y:Int} (h:loc R y=none):tc R y=(-1,-1,-1):=by unfold tc;rw [h]
theorem It {n:Nat} {R:List (List Int)} {k:Nat} {l':List Int} (v:Inv n R) (v':Inv n (R.set k l')) (hk:k < R.length) {y:Int} (h1:y∉l') (h2:y∉R.getD k []):tc (R.set k l') y=tc R y:=by
 have h:=Ip v v' hk y;rw [if_neg h1] at h;have h3:loc R y≠some k:=fun e=>h2 (yW e).2
 rw [if_neg h3] at h;unfold tc;rw [h]
 cases hl:loc R y with
 | none=>rfl
 | some j =>
  have hj:k≠j:=fun e=>h3 (by rw [hl,e])
  simp only [mY hk,if_neg hj]
theorem Iu {n:Nat} {R:List (List Int)} {k:Nat} {l':List Int} (v:Inv n R) (v':Inv n (R.set k l')) (hk:k < R.length) {y:Int} (h1:y∈l'):tc (R.set k l') y=((k:Int),gI l' y,m8 l' y):=by
 have:=wj v' (k:=k) (by simpa using hk) (y:=y) (by rw [mY hk,if_pos rfl];exact h1)
 rwa [mY hk,if_pos rfl] at this
theorem qz {R:List (List Int)} {k:Nat} (hk:k < R.length) {y:Int} (hy:y∈R.getD k []):y∈R.flatten :=
 List.mem_flatten.2 ⟨_,List.mem_of_getElem? (getD_some hk),hy⟩
theorem B9 {n:Nat} {R:List (List Int)} {k:Nat} {x:Int} (v:Inv n R) (hk:k < R.length) (h0:0≤x) (h1:x < n) (hx:loc R x=none):Inv n (R.set k (R.getD k [] ++ [x])):=by
 have hf:=qw.1 hx;refine ⟨v.pn,by simpa using v.Il,fun a=>?_,fun a ha=>?_⟩
 ·have h:=count_set a R k _ (R.getD k [] ++ [x]) (getD_some hk);have h2:=v.one a;rw [List.count_append,List.count_singleton] at h
  by_cases e:x=a
  ·subst e;have:R.flatten.count x=0:=List.count_eq_zero.2 hf;simp at h;simp;omega
  ·simp [e] at h;simp;omega
 ·have h:=count_set a R k _ (R.getD k [] ++ [x]) (getD_some hk);have h2:=List.count_pos_iff.2 ha;rw [List.count_append,List.count_singleton] at h
  by_cases e:x=a
  ·subst e;exact ⟨h0,h1⟩
  ·have e2:(x == a)=false:=by simpa using e
   rw [e2] at h;apply v.bound;apply List.count_pos_iff.1;simp only [Bool.false_eq_true,if_false] at h;omega
theorem Iv {n:Nat} {R:List (List Int)} {k:Nat} {x:Int} (v:Inv n R) (hk:k < R.length) (h0:0≤x) (h1:x < n) (hx:loc R x=none) :
  th n (R.set k (R.getD k [] ++ [x]))=if R.getD k []=[] then (th n R).set x.toNat ((k:Int),-1,-1)
   else ((th n R).set x.toNat ((k:Int),-1,(R.getD k []).getLastD (-1))).set ((R.getD k []).getLastD (-1)).toNat ((k:Int),x,m8 (R.getD k []) ((R.getD k []).getLastD (-1))):=by
 have v':=B9 v hk h0 h1 hx;have hf:=qw.1 hx;have iR:x∉R.getD k []:=fun h=>hf (qz hk h)
 have ho:=v.one;have hb:=v.bound;have bU:=fun a=>count_le hk (R:=R) a
 have Iw:=fun a=>qz hk (R:=R) (y:=a)
 have jw:=fun y=>Iu v v' hk (y:=y)
 have Ca:=fun y=>It v v' hk (y:=y)
 have qA:=fun y=>wj v hk (y:=y)
 generalize R.getD k []=l at *
 symm
 have uc:tc (R.set k (l ++ [x])) x=((k:Int),-1,l.getLastD (-1)):=by
  rw [jw x (by simp),B6 iR,m8,Io iR];simp [gI,mZ]
 split
 ·rename_i hl;subst hl;refine y7 (by simp [m9]) (fun y hy=>?_)
  by_cases e:x.toNat=y
  ·have:(y:Int)=x:=by omega
   rw [e,List.getElem?_set_self (by rw [m9];exact hy),this,uc];rfl
  ·rw [List.getElem?_set_ne e,wh hy];rw [Ca (y:Int) (by simp;omega) (by simp)]
 ·rename_i hl;have ud:l.getLastD (-1)∈l:=by
   rw [List.getLastD_eq_getLast?,List.getLast?_eq_some_getLast hl];exact List.getLast_mem hl
  have Qi:=hb _ (Iw _ ud);have Qj:l.getLastD (-1)≠x:=fun e=>iR (e ▸ ud)
  refine y7 (by simp [m9]) (fun y hy=>?_)
  by_cases e1:(l.getLastD (-1)).toNat=y
  ·have ey:(y:Int)=l.getLastD (-1):=by omega
   rw [e1,List.getElem?_set_self (by simp [m9];exact hy),ey,jw _ (List.mem_append_left _ ud)];rw [B5 ud (by have:=bU (l.getLastD (-1));have:=ho (l.getLastD (-1));omega),if_pos rfl,B7 ud];rfl
  ·rw [List.getElem?_set_ne e1]
   by_cases e:x.toNat=y
   ·have:(y:Int)=x:=by omega
    rw [e,List.getElem?_set_self (by rw [m9];exact hy),this,uc]
   ·rw [List.getElem?_set_ne e,wh hy]
    by_cases hm:(y:Int)∈l
    ·rw [jw _ (by simp [hm]),qA _ hm,B5 hm (by have:=bU (y:Int);have:=ho (y:Int);omega),ay,B7 hm]
    ·rw [Ca (y:Int) (by simp [hm];omega) hm]
theorem Ix (c:Int) (l:List Int):l.length=(l.filter (fun a=>a≠c)).length + l.count c:=by
 induction l with
 | nil=>rfl
 | cons x r ih =>
  rw [List.count_cons,List.filter_cons]
  by_cases e:x=c
  ·subst e;simp at ih ⊢;omega
  ·have e2:(x == c)=false:=by simpa using e
   simp [e,e2] at ih ⊢;omega
theorem y8 {l:List Int} {n:Nat} (h1:∀ a,l.count a≤1) (h2:∀ a∈l,0≤a∧a < (n:Int)):l.length≤n:=by
 induction n generalizing l with
 | zero =>
  cases l with
  | nil=>simp
  | cons x r=>have:=h2 x (by simp);omega
 | succ n ih =>
  have h3:=ih (l:=l.filter (fun a=>a≠(n:Int))) (fun a=>Nat.le_trans (List.Sublist.count_le a List.filter_sublist) (h1 a)) (fun a ha=>by
   simp only [List.mem_filter,decide_eq_true_eq] at ha;have:=h2 a ha.1;omega)
  have h4:=Ix (n:Int) l;have:=h1 (n:Int);omega
end Qu
namespace Qu
def line (R:List (List Int)) (k:Int):Bool:=decide (0≤k) && decide (k < R.length)
def row (R:List (List Int)) (k:Int):List Int:=if line R k then R.getD k.toNat [] else []
theorem y9 {R:List (List Int)} {k:Int} (h:line R k=true):∃ j:Nat,k=j∧j < R.length:=by
 simp only [line,Bool.and_eq_true,decide_eq_true_eq] at h;obtain ⟨j,rfl⟩:=Int.eq_ofNat_of_zero_le h.1;exact ⟨j,rfl,by omega⟩
theorem za {R:List (List Int)} {j:Nat} (h:j < R.length):row R j=R.getD j []:=by simp [row,line,h]
end Qu
namespace Qu
def push (n:Nat) (R:List (List Int)) (k x:Int):List (List Int) × Bool :=
 if line R k && decide (0≤x) && decide (x < n) && (loc R x).isNone then (R.set k.toNat (row R k ++ [x]),true) else (R,false)
theorem Iy {n:Nat} {R:List (List Int)} (v:Inv n R) (k x:Int):Inv n (push n R k x).1:=by
 unfold push
 split
 ·rename_i h;simp only [Bool.and_eq_true,decide_eq_true_eq,Option.isNone_iff_eq_none] at h;obtain ⟨⟨⟨hk,h0⟩,h1⟩,h2⟩:=h;obtain ⟨j,rfl,hj⟩:=y9 hk;rw [za hj];exact B9 v hj h0 h1 h2
 ·exact v
end Qu
namespace Qu
theorem Iz {a:List Int} (h:a≠[]):a.getLastD (-1)∈a:=by
 rw [List.getLastD_eq_getLast?,List.getLast?_eq_some_getLast h];exact List.getLast_mem h
structure Qk (n:Nat) (R:List (List Int)) (k:Nat) (x:Int) (a b:List Int):Prop where
 x0:0≤x∧x < n
 tx:tc R x=((k:Int),b.headD (-1),a.getLastD (-1))
 pa:a≠[]→0≤a.getLastD (-1)∧a.getLastD (-1) < n∧a.getLastD (-1)≠x∧tc R (a.getLastD (-1))=((k:Int),x,m8 a (a.getLastD (-1)))
 hb:b≠[]→0≤b.headD (-1)∧b.headD (-1) < n∧b.headD (-1)≠x∧tc R (b.headD (-1))=((k:Int),gI b (b.headD (-1)),x)
 ab:a≠[]→b≠[]→a.getLastD (-1)≠b.headD (-1)
 len:(a ++ x :: b).length≤64
end Qu
namespace Qu
theorem IA {l:List Int} (h:∀ a,l.count a≤1) {i:Nat} (hi:i < l.length):gI l (l.getD i (-1))=l.getD (i + 1) (-1):=by
 obtain ⟨x,hx⟩:∃ x,l[i]=x:=⟨_,rfl⟩
 have e0:l.getD i (-1)=x:=by rw [List.getD_eq_getElem?_getD,List.getElem?_eq_getElem hi,← hx];rfl
 have e1:l=l.take i ++ x :: l.drop (i + 1):=by rw [← hx,← List.drop_eq_getElem_cons hi,List.take_append_drop]
 have e2:l.getD (i + 1) (-1)=(l.drop (i + 1)).headD (-1):=by rw [List.getD_eq_getElem?_getD,List.headD_eq_head?_getD,List.head?_drop]
 have h3:l.count x=(l.take i).count x + (x :: l.drop (i + 1)).count x:=by
  rw [← List.count_append,← e1]
 have hn:x∉l.take i:=fun hm=>by
  have h1:=List.count_pos_iff.2 hm;have h2:=h x;rw [List.count_cons_self] at h3;omega
 rw [e0,e2];generalize l.take i=a at *;generalize l.drop (i + 1)=b at *;rw [e1,B6 hn,gI,if_pos rfl]
end Qu
theorem ue {α:Type} (a b:α) (N k:Nat) (h:k < N):(List.replicate k a ++ List.replicate (N - k) b).set k a=List.replicate (k + 1) a ++ List.replicate (N - (k + 1)) b:=by
 rw [List.set_append_right _ _ (by simp),List.replicate_succ',List.append_assoc]
 congr 1
 rw [show N - k=(N - (k + 1)) + 1 by omega,List.replicate_succ];simp
namespace Qu
theorem zb (m:Nat):(List.replicate m ([]:List Int)).flatten=[]:=by
 induction m with
 | zero=>rfl
 | succ n ih=>rw [List.replicate_succ,List.flatten_cons,ih];rfl
theorem IB (n m:Nat) (h1:n≤64) (h2:m≤64):Inv n (List.replicate m []) :=
 ⟨h1,by simpa using h2,fun a=>by rw [zb];simp,fun a h=>by rw [zb] at h;simp at h⟩
theorem IC (n m:Nat):th n (List.replicate m [])=List.replicate n (-1,-1,-1):=by
 symm
 refine y7 (by simp) (fun x hx=>?_);rw [B8 (qw.2 (by rw [zb];simp))];simp [hx]
theorem ID (m:Nat):ln (List.replicate m [])=List.replicate m (-1,-1,0):=by simp [ln,lc]
end Qu
open Go.RowKit
namespace Fl
open Sx Go.Proofs.Tryz
set_option maxRecDepth 100000
def cP (t:Int × Int × Int):List A:=[nI t.1,nI t.2.1,nI t.2.2]
abbrev LQ (b:Nat) (u v:Value) (T N:List (Int × Int × Int)):List ak:=[.box b 136 [.v u,.v v],.row u 138 3 (T.map cP),.row v 140 3 (N.map cP)]
def mQ (p:Value) (n:Nat) (R:List (List Int)) (x:{ x:Nat × Value × Value // p=pt x.1∧Qu.Inv n R }):List ak:=LQ x.1.1 x.1.2.1 x.1.2.2 (Qu.th n R) (Qu.ln R)
def tQ (p:Value) (n:Nat) (R:List (List Int)):World→List Nat→Prop:=dP (mQ p n R)
theorem IE (l:List (Int × Int × Int)):(l.map cP).all (·.all kL)=true:=List.all_eq_true.2 fun x hx=>by
 obtain ⟨n,_,rfl⟩:=List.mem_map.1 hx;rfl
theorem mQ.fl {p:Value} {n:Nat} {R:List (List Int)} (x:{ x:Nat × Value × Value // p=pt x.1∧Qu.Inv n R }):(mQ p n R x).all lu=true:=by
 unfold mQ LQ;simp only [List.all_cons,List.all_nil,lu,IE];rfl
theorem Cb {F:FuncId} {ds:List D} {p:Value} {n:Nat} {R R':List (List Int)} {d:D} {S:List Nat} (hi:Qu.Inv n R→Qu.Inv n R') (h:∀ b u v,p=pt b→Qu.Inv n R→aq prog F ds (LQ b u v (Qu.th n R) (Qu.ln R)) (fun _:Unit=>(d,LQ b u v (Qu.th n R') (Qu.ln R')))) :
  aq prog F ds [aL (tQ p n R) S] (fun _:Unit=>(d,[aL (tQ p n R') S])) :=
 aq.rR mQ.fl fun x=>⟨Unit,fun _=>⟨x.1,x.2.1,hi x.2.2⟩,fun _=>rfl,h x.1.1 x.1.2.1 x.1.2.2 x.2.1 x.2.2⟩
theorem Cc {R:List (List Int)} {j:Nat} (h:j < R.length):((Qu.ln R).map cP)[((j:Nat):Int).toNat]?=some (cP (Qu.lc (R.getD j []))):=by
 rw [Int.toNat_natCast,List.getElem?_map,Qu.Ir h];rfl
theorem zc {n:Nat} {R:List (List Int)} {x:Int} (h0:0≤x) (h:x < n):((Qu.th n R).map cP)[x.toNat]?=some (cP (Qu.tc R x)):=by
 rw [List.getElem?_map,Qu.wh (show x.toNat < n by omega),Int.toNat_of_nonneg h0];rfl
theorem ze (R:List (List Int)):((Qu.ln R).map cP).length=R.length:=by simp [Qu.ln]
theorem m9 (n:Nat) (R:List (List Int)):((Qu.th n R).map cP).length=n:=by simp [Qu.m9]
theorem Cd (b n:Nat) (u v:Value) (R:List (List Int)) (k:Int) :
  aq prog 76 [.c (.v (pt b)),.c (nI k)] (LQ b u v (Qu.th n R) (Qu.ln R)) (fun _:Unit=>(.c (bI (Qu.line R k)),LQ b u v (Qu.th n R) (Qu.ln R))):=by
 have ln:=ze R;unfold Qu.line LQ;rw [← ln];refine aq.intro func76 rfl rfl rfl (fun ok e=>?_)
 cases x0:decide (k ≥ 0) with
 | false =>
  repeat (refine gn ?_)
  (exact J.cS func76 rfl (.cons (.tmp rfl) .nil) () (by exact .refl) rfl)
 | true =>
  repeat (refine gn ?_)
  (exact J.cS func76 rfl (.cons (.tmp rfl) .nil) () (by exact .refl) rfl)
theorem qB (T:List (Int × Int × Int)) (i:Nat) (t:Int × Int × Int):(T.set i t).map cP=(T.map cP).set i (cP t):=List.map_set
theorem Ce (p:Value) (n:Nat) (R:List (List Int)) (S:List Nat) (k x:Int):aq prog 73 [.c (.v p),.c (nI k),.c (nI x)] [aL (tQ p n R) S] (fun _:Unit=>(.c (bI (Qu.push n R k x).2),[aL (tQ p n (Qu.push n R k x).1) S])):=by
 refine Cb (fun I=>Qu.Iy I k x) fun b u v e I=>?_
 subst e;have CL:=Cd b n u v R k;have tl:=m9 n R;have pn:=I.pn;obtain ⟨x0,t0⟩:∃ y,decide (x < 0)=y:=⟨_,rfl⟩
 obtain ⟨x1,t1⟩:∃ y,decide (x ≥ (((Qu.th n R).map cP).length:Int))=y:=⟨_,rfl⟩
 have no:(Qu.line R k && decide (0≤x) && decide (x < n) && (Qu.loc R x).isNone)=false→Qu.push n R k x=(R,false):=fun h=>by unfold Qu.push;rw [h];rfl
 cases hl:Qu.line R k with
 | false =>
  rw [no (by rw [hl];rfl)];rw [hl] at CL;refine aq.intro func73 rfl rfl rfl (fun ok e=>?_)
  repeat (first | (refine K.call ?_;refine JO.ld (Ld.gy (CL) (qb rfl) rfl (by (exact br.cons .refl (.cons .refl .nil)))) rfl ?_;intro _) | refine gn ?_)
  (exact J.cS func73 rfl (.cons (.tmp rfl) .nil) () (by exact .refl) rfl)
 | true =>
 rw [hl] at CL
 cases x0 with
 | true =>
  rw [no (by rw [decide_eq_false (show ¬ 0≤x by simp at t0;omega)];simp)];refine aq.intro func73 rfl rfl rfl (fun ok e=>?_)
  repeat (first | (refine K.call ?_;refine JO.ld (Ld.gy (CL) (qb rfl) rfl (by (exact br.cons .refl (.cons .refl .nil)))) rfl ?_;intro _) | refine gn ?_)
  (exact J.cS func73 rfl (.cons (.tmp rfl) .nil) () (by exact .refl) rfl)
 | false =>
 have h0:0≤x:=by simpa using t0
 cases x1 with
 | true =>
  rw [no (by rw [decide_eq_false (show ¬ x < (n:Int) by have:=of_decide_eq_true t1;omega)];simp)];refine aq.intro func73 rfl rfl rfl (fun ok e=>?_)
  repeat (first | (refine K.call ?_;refine JO.ld (Ld.gy (CL) (qb rfl) rfl (by (exact br.cons .refl (.cons .refl .nil)))) rfl ?_;intro _) | refine gn ?_)
  (exact J.cS func73 rfl (.cons (.tmp rfl) .nil) () (by exact .refl) rfl)
 | false =>
 have h1:x < (n:Int):=by have:=of_decide_eq_false t1;omega
 have mc:x < (((Qu.th n R).map cP).length:Int):=by rw [tl];exact h1
 have TX:=zc (R:=R) h0 h1
 cases hc:Qu.loc R x with
 | some q =>
  rw [no (by rw [hc];simp)];have tx:Qu.tc R x=((q:Int),Qu.gI (R.getD q []) x,Qu.m8 (R.getD q []) x):=by unfold Qu.tc;rw [hc]
  rw [tx] at TX;have t2:((q:Int) != -1)=true:=bne_iff_ne.2 (by omega);refine aq.intro func73 rfl rfl rfl (fun ok e=>?_)
  repeat (first | (refine K.load ?_;refine jq rfl rfl rfl (Qt.dx rfl TX rfl) ?_) | (refine K.indexAddr ?_;refine jq rfl rfl rfl (Qt.cB rfl rfl h0 mc) ?_) | (refine K.call ?_;refine JO.ld (Ld.gy (CL) (qb rfl) rfl (by (exact br.cons .refl (.cons .refl .nil)))) rfl ?_;intro _) | refine gn ?_)
  (exact J.cS func73 rfl (.cons (.tmp rfl) .nil) () (by exact .refl) rfl)
 | none =>
 rw [Qu.B8 hc] at TX;obtain ⟨j,rfl,hj⟩:=Qu.y9 hl;have B0:=Cc hj;have i0:=Int.natCast_nonneg j;have i1:(j:Int) < ((Qu.ln R).map cP).length:=by rw [ze];omega
 have jn:((j:Int)).toNat < ((Qu.ln R).map cP).length:=by omega
 have xn:x.toNat < ((Qu.th n R).map cP).length:=by omega
 rw [show Qu.push n R (j:Int) x=(R.set j (R.getD j [] ++ [x]),true) by
  unfold Qu.push;rw [hl,hc,decide_eq_true h0,decide_eq_true h1,Qu.za hj];rfl]
 dsimp only;have eT:=Qu.Iv I hj h0 h1 hc;have eN:=Qu.Iq R j (R.getD j [] ++ [x]);have hb:∀ y,y∈R.getD j []→0≤y∧y < (n:Int)∧y≠x:=fun y hy=>by
  have m:=Qu.qz hj hy;have:=I.bound y m;exact ⟨this.1,this.2,fun e=>Qu.qw.1 hc (e ▸ m)⟩
 have qA:=fun y=>Qu.wj I hj (y:=y)
 have cl:((R.getD j []).length:Int) < 1000:=by
  have:=Qu.y8 (l:=R.getD j []) (n:=n) (fun a=>Nat.le_trans (Qu.count_le hj a) (I.one a)) fun a ha=>⟨(hb a ha).1,(hb a ha).2.1⟩
  omega
 generalize R.getD j []=l at B0 eT eN hb qA cl ⊢;rw [eT,eN]
 cases l with
 | nil =>
  rw [if_pos rfl];unfold LQ;rw [qB,qB];have P1:∀ a:List A,(((Qu.ln R).map cP).set ((j:Int)).toNat a)[((j:Int)).toNat]?=some a:=fun a=>List.getElem?_set_self jn
  have P2:∀ a a':List A,((((Qu.ln R).map cP).set ((j:Int)).toNat a).set ((j:Int)).toNat a')[((j:Int)).toNat]?=some a':=fun a a'=>List.getElem?_set_self (by simpa using jn)
  have B1:=P1 [nI x,nI (-1),nI 0];have B2:=P2 [nI x,nI (-1),nI 0] [nI x,nI x,nI 0];have eF:((Qu.ln R).map cP).set j (cP (Qu.lc ([] ++ [x])))=((((Qu.ln R).map cP).set ((j:Int)).toNat [nI x,nI (-1),nI 0]).set ((j:Int)).toNat [nI x,nI x,nI 0]).set ((j:Int)).toNat [nI x,nI x,nI 1]:=by
   rw [List.set_set,List.set_set,Int.toNat_natCast];rfl
  rw [eF];have B0:((Qu.ln R).map cP)[((j:Int)).toNat]?=some [nI (-1),nI (-1),nI 0]:=B0;refine aq.intro func73 rfl rfl rfl (fun ok e=>?_)
  repeat (first | (refine K.load ?_;refine jq rfl rfl rfl (Qt.dx rfl TX rfl) ?_) | (refine K.indexAddr ?_;first | refine jq rfl rfl rfl (Qt.cB rfl rfl h0 mc) ?_ | refine jq rfl rfl rfl (Qt.cB rfl rfl i0 i1) ?_) | (refine K.call ?_;refine JO.ld (Ld.gy (CL) (qb rfl) rfl (by (exact br.cons .refl (.cons .refl .nil)))) rfl ?_;intro _) | refine gn ?_)
  refine J.draw (by kernel_rfl) rfl ?_;refine JW.base (some 12) ?_;refine tk 0 ?_;refine tk 1 ?_;refine tk 2 ?_;refine tk 3 ?_;refine tk 4 ?_;refine tk 5 ?_;refine tk 6 ?_;refine tk 7 ?_;refine tk 8 ?_;refine JD.take 9 rfl rfl (by kernel_rfl) rfl (qb rfl) (Qt.dx rfl B0 rfl) rfl ?_;refine tk 10 ?_;refine JD.take 11 rfl rfl (by kernel_rfl) rfl (qb rfl) (Qt.cB rfl rfl h0 mc) rfl ?_;refine jt 12 rfl rfl (Ld.dV rfl rfl rfl rfl xn) (fun _=>?_);refine bz ?_
  repeat (first | (refine K.load ?_;first | refine jq rfl rfl rfl (Qt.dx rfl B0 rfl) ?_ | refine jq rfl rfl rfl (Qt.dx rfl B2 rfl) ?_) | (refine K.store ?_;first | refine JO.ld (Ld.j6 rfl rfl (by exact rfl) (B0)) rfl (fun _=>?_) | refine JO.ld (Ld.j6 rfl rfl (by exact rfl) (B1)) rfl (fun _=>?_) | refine JO.ld (Ld.j6 rfl rfl (by exact rfl) (B2)) rfl (fun _=>?_)) | refine gn ?_)
  (exact J.cS func73 rfl (.cons (.tmp rfl) .nil) () (by exact .refl) rfl)
 | cons a r =>
  rw [if_neg (by simp)] at eT ⊢;unfold LQ;have lm:=Qu.Iz (a:=a :: r) (by simp);obtain ⟨l0,l1,lx⟩:=hb _ lm;have wm:=qA _ lm;have IF:Qu.lc (a :: r ++ [x])=(a,x,((a :: r).length:Int) + 1):=by
   unfold Qu.lc;rw [List.getLastD_concat,List.length_append];rfl
  rw [IF];have B0:((Qu.ln R).map cP)[((j:Int)).toNat]?=some [nI a,nI ((a :: r).getLastD (-1)),nI (a :: r).length]:=B0;generalize (a :: r).getLastD (-1)=la at l0 l1 lx wm B0 ⊢;generalize Qu.m8 (a :: r) la=pv at wm ⊢;generalize Qu.gI (a :: r) la=nx at wm;generalize (a :: r).length=c at B0 cl ⊢;rw [qB,qB,qB];have TL:(((Qu.th n R).map cP).set x.toNat (cP ((j:Int),-1,la)))[la.toNat]?=some (cP ((j:Int),nx,pv)):=by
   rw [List.getElem?_set_ne (by omega),← wm];exact zc l0 l1
  have ll:la < ((((Qu.th n R).map cP).set x.toNat (cP ((j:Int),-1,la))).length:Int):=by rw [List.length_set];omega
  have B1:(((Qu.ln R).map cP).set ((j:Int)).toNat [nI a,nI x,nI c])[((j:Int)).toNat]?=some [nI a,nI x,nI c]:=List.getElem?_set_self jn;have t4:(la == -1)=false:=beq_eq_false_iff_ne.2 (by omega);rw [show ((Qu.ln R).map cP).set j (cP (a,x,(c:Int) + 1))=(((Qu.ln R).map cP).set ((j:Int)).toNat [nI a,nI x,nI c]).set ((j:Int)).toNat [nI a,nI x,nI ((c:Int) + 1)] by rw [List.set_set,Int.toNat_natCast];rfl];refine aq.intro func73 rfl rfl rfl (fun ok e=>?_)
  repeat (first | (refine K.load ?_;refine jq rfl rfl rfl (Qt.dx rfl TX rfl) ?_) | (refine K.indexAddr ?_;first | refine jq rfl rfl rfl (Qt.cB rfl rfl h0 mc) ?_ | refine jq rfl rfl rfl (Qt.cB rfl rfl i0 i1) ?_) | (refine K.call ?_;refine JO.ld (Ld.gy (CL) (qb rfl) rfl (by (exact br.cons .refl (.cons .refl .nil)))) rfl ?_;intro _) | refine gn ?_)
  refine J.draw (by kernel_rfl) rfl ?_;refine JW.base (some 12) ?_;refine tk 0 ?_;refine tk 1 ?_;refine tk 2 ?_;refine tk 3 ?_;refine tk 4 ?_;refine tk 5 ?_;refine tk 6 ?_;refine tk 7 ?_;refine tk 8 ?_;refine JD.take 9 rfl rfl (by kernel_rfl) rfl (qb rfl) (Qt.dx rfl B0 rfl) rfl ?_;refine tk 10 ?_;refine JD.take 11 rfl rfl (by kernel_rfl) rfl (qb rfl) (Qt.cB rfl rfl h0 mc) rfl ?_;refine jt 12 rfl rfl (Ld.dV rfl rfl rfl rfl xn) (fun _=>?_);refine bz ?_
  repeat (first | (refine K.load ?_;refine jq rfl rfl rfl (Qt.dx rfl B0 rfl) ?_) | refine gn ?_)
  refine J.draw (by kernel_rfl) rfl ?_;refine JW.base (some 11) ?_;refine tk 0 ?_;refine tk 1 ?_;refine tk 2 ?_;refine tk 3 ?_;refine tk 4 ?_;refine tk 5 ?_;refine tk 6 ?_;refine JD.take 7 rfl rfl (by kernel_rfl) rfl (qb rfl) (Qt.dx rfl B0 rfl) rfl ?_;refine tk 8 ?_;refine JD.j7 9 rfl rfl (by kernel_rfl) rfl (qb rfl) (Qt.cB rfl rfl l0 ll) rfl ?_;refine tk 10 ?_;refine jt 11 rfl rfl (Ld.j6 rfl rfl (by exact rfl) TL) (fun _=>?_);refine bz ?_
  repeat (first | (refine K.load ?_;refine jq rfl rfl rfl (Qt.dx rfl B1 rfl) ?_) | (refine K.store ?_;first | refine JO.ld (Ld.j6 rfl rfl (by exact rfl) (B0)) rfl (fun _=>?_) | refine JO.ld (Ld.j6 rfl rfl (by exact rfl) (B1)) rfl (fun _=>?_)) | refine gn ?_)
  (exact J.cS func73 rfl (.cons (.tmp rfl) .nil) () (by exact .refl) rfl)
theorem wq (p:Value) (n:Nat) (R:List (List Int)) (S:List Nat) (k:Int):aq prog 46 [.c (.v p),.c (nI k)] [aL (tQ p n R) S] (fun _:Unit=>(.c (ints (Qu.row R k)),[aL (tQ p n R) S])):=by
 refine Cb id fun b u v e I=>?_
 subst e;have CL:=Cd b n u v R k;have tl:=m9 n R
 cases hl:Qu.line R k with
 | false =>
  rw [show Qu.row R k=[] by unfold Qu.row;rw [hl];rfl];rw [hl] at CL;refine aq.intro func46 rfl rfl rfl (fun ok e=>?_)
  repeat (first | (refine K.call ?_;refine JO.ld (Ld.gy (CL) (qb rfl) rfl (by (exact br.cons .refl (.cons .refl .nil)))) rfl ?_;intro _) | refine gn ?_)
  (exact J.cS func46 rfl (.cons (.tmp rfl) .nil) () (.c .nil) rfl)
 | true =>
 obtain ⟨j,rfl,hj⟩:=Qu.y9 hl;have A:=Cc hj;have i0:=Int.natCast_nonneg j;have i1:(j:Int) < ((Qu.ln R).map cP).length:=by rw [ze];omega
 rw [hl] at CL;rw [Qu.za hj];have ho:∀ a,(R.getD j []).count a≤1:=fun a=>Nat.le_trans (Qu.count_le hj a) (I.one a)
 have hb:∀ y,y∈R.getD j []→0≤y∧y < (n:Int):=fun y hy=>I.bound y (Qu.qz hj hy)
 have qA:=fun y=>Qu.wj I hj (y:=y)
 have pn:=I.pn;have cl:=Qu.y8 ho hb;have nx:=fun i hi=>Qu.IA ho (i:=i) hi
 generalize R.getD j []=l at A ho hb qA cl nx ⊢;refine aq.intro func46 rfl rfl rfl (fun ok e=>?_)
 repeat (first | (refine K.load ?_;refine jq rfl rfl rfl (Qt.dx rfl A rfl) ?_) | (refine K.indexAddr ?_;refine jq rfl rfl rfl (Qt.cB rfl rfl i0 i1) ?_) | (refine K.call ?_;refine JO.ld (Ld.gy (CL) (qb rfl) rfl (by (exact br.cons .refl (.cons .refl .nil)))) rfl ?_;intro _) | (refine K.make ?_;refine JO.ld (Ld.vW (l.length) (qb rfl) rfl rfl (by (rfl)) (by omega)) rfl (fun _=>?_)) | refine gn ?_)
 rename_i w;have zf:(Qu.lc l).fst=l.getD 0 (-1):=by cases l <;> rfl
 rw [zf];refine J.loop (ι:={ q:Nat × Value // q.1≤l.length }) (fun q=>[(6,.c (nI (l.getD q.1.1 (-1)))),(5,.c (.v q.1.2)),(0,.c (.v (pt b)))]) (fun q=>.row q.1.2 3 1 (aU (l.take q.1.1)) :: LQ b u v (Qu.th n R) (Qu.ln R)) (fun q=>l.length - q.1.1) ⟨(0,_),Nat.zero_le _⟩ (fun X h=>h.aQ ⟨rfl,rfl,rfl,trivial⟩) (fun q ih=>?_);obtain ⟨⟨i,z⟩,hi⟩:=q;simp only at hi ih ⊢
 by_cases de:i < l.length
 ·obtain ⟨y,hy⟩:∃ y,l[i]?=some y:=⟨_,List.getElem?_eq_getElem de⟩
  have ey:l.getD i (-1)=y:=by rw [List.getD_eq_getElem?_getD,hy];rfl
  have ym:=List.mem_of_getElem? hy;obtain ⟨y0,y1⟩:=hb y ym;have TY:=zc (R:=R) y0 y1;have en:=nx i de;rw [ey] at en;rw [qA y ym,en] at TY;rw [ey];have yl:y < (((Qu.th n R).map cP).length:Int):=by rw [tl];exact y1
  have t1:(y != -1)=true:=bne_iff_ne.2 (by omega);have hlen:(aU (l.take i)).length=i:=by rw [fA,List.length_take];omega
  repeat (first | (refine K.load ?_;refine jq rfl rfl rfl (Qt.dx rfl TY rfl) ?_) | (refine K.indexAddr ?_;refine jq rfl rfl rfl (Qt.cB rfl rfl y0 yl) ?_) | (refine K.lit ?_;refine JO.ld (Ld.iZ (qb rfl) rfl rfl rfl rfl rfl) rfl (fun _=>?_)) | (refine K.bi ?_;refine JO.ld (Ld.bH (qb rfl) rfl rfl .read (by (simp;omega))) rfl (fun _=>?_)) | refine gn ?_)
  refine J.dj ?_ ((ih ⟨(i + 1,_),by simp only;omega⟩ (by simp only;omega)).aQ ⟨rfl,rfl,rfl,trivial⟩);rw [List.take_add_one,hy];unfold aU;rw [List.map_append];rfl
 ·obtain rfl:i=l.length:=by omega
  have ey:l.getD l.length (-1)=-1:=by rw [List.getD_eq_getElem?_getD,List.getElem?_eq_none (Nat.le_refl _)];rfl
  rw [ey,List.take_of_length_le (Nat.le_refl _)]
  repeat (refine gn ?_)
  refine J.gG 4 rfl ?_
  (exact J.cS func46 rfl (.cons (.tmp rfl) .nil) () (by exact .refl) rfl)
def iH (a:Int × Int × Int) (N k:Nat):List (Int × Int × Int):=List.replicate k a ++ List.replicate (N - k) (0,0,0)
theorem Cf (n m:Nat) (h1:n≤64) (h2:m≤64):aq prog 31 [.c (nI n),.c (nI m)] [] (fun x:Value × List Nat=>(.aY [.c (.v x.1),.c (nI 0)],[aL (tQ x.1 n (List.replicate m [])) x.2])):=by
 refine aq.rS (Y:=Value) (d:=fun p=>.aY [.c (.v p),.c (nI 0)]) (κ:=fun p=>{ x:Nat × Value × Value // p=pt x.1∧Qu.Inv n (List.replicate m []) }) (N:=fun p x=>mQ p n (List.replicate m []) x) (fun p x=>mQ.fl x) (Z:=Nat × Value × Value) (fun z=>⟨pt z.1,⟨z,rfl,Qu.IB n m h1 h2⟩⟩) ?_;unfold mQ LQ;rw [Qu.IC,Qu.ID];have t1:decide ((n:Int) < 0)=false:=decide_eq_false (by omega);have t2:decide ((n:Int) > 64)=false:=decide_eq_false (by omega);have t3:decide ((m:Int) < 0)=false:=decide_eq_false (by omega);have t4:decide ((m:Int) > 64)=false:=decide_eq_false (by omega);refine aq.intro func31 rfl rfl rfl (fun ok e=>?_)
 repeat (refine gn ?_)
 refine J.join (ι:=Nat × Nat × Nat) (fun x=>[(6,.c (.v (pt x.1)))]) (fun x=>[.box x.1 136 [.v (.slice (some ⟨x.2.1,0,none⟩) n n),.v (.slice (some ⟨x.2.2,0,none⟩) m m)],.row (.slice (some ⟨x.2.1,0,none⟩) n n) 138 3 (List.replicate n (vs [.int .i64 0,.int .i64 0,.int .i64 0])),.row (.slice (some ⟨x.2.2,0,none⟩) m m) 140 3 (List.replicate m (vs [.int .i64 0,.int .i64 0,.int .i64 0]))]) (fun x=>?_) (fun rest=>?_)
 rotate_left
 ·
  refine J.draw (by kernel_rfl) rfl ?_;refine JW.base none ?_;refine tk 0 ?_;refine tk 2 ?_;refine JD.cy (i:=1) (j:=3) (by kernel_rfl) ?_ ?_;refine JS.bt rfl rfl rfl (qb rfl) (Ld.make n (qb rfl) rfl rfl rfl (by omega)) .none (fun _=>?_);refine jl 3 rfl rfl rfl rfl (Ld.make m (qb rfl) rfl rfl rfl (by omega)) .none (fun _=>?_);refine jk 4 rfl rfl rfl rfl (Qt.build rfl (by kernel_rfl)) ?_;refine jl 5 rfl rfl rfl rfl (Ld.box (qb rfl) rfl rfl) .none (fun _=>?_);refine jk 6 rfl rfl rfl rfl (Qt.assign rfl) ?_;refine bP ?_
  rotate_left
  refine JS.bt rfl rfl rfl (qb rfl) (Ld.make m (qb rfl) rfl rfl rfl (by omega)) .none (fun _=>?_);refine jl 1 rfl rfl rfl rfl (Ld.make n (qb rfl) rfl rfl rfl (by omega)) .none (fun _=>?_);refine jk 4 rfl rfl rfl rfl (Qt.build rfl (by kernel_rfl)) ?_;refine jl 5 rfl rfl rfl rfl (Ld.box (qb rfl) rfl rfl) .none (fun _=>?_);refine jk 6 rfl rfl rfl rfl (Qt.assign rfl) ?_;refine bP ?_
  rotate_left
  all_goals first | exact (rest (_,_,_)).aQ ⟨rfl,trivial⟩ | exact J.perm ((List.Perm.swap _ _ _).cons _) ((rest (_,_,_)).aQ ⟨rfl,trivial⟩)
 obtain ⟨b,gu,gv⟩:=x;simp only;have z0:∀ N:Nat,List.replicate N (vs [.int .i64 0,.int .i64 0,.int .i64 0])=(List.replicate N ((0,0,0):Int × Int × Int)).map cP:=fun N=>by rw [List.map_replicate];rfl
 rw [z0,z0];have fl:∀ (a:Int × Int × Int) (N k:Nat),k≤N→((iH a N k).map cP).length=N:=fun a N k h=>by unfold iH;simp;omega
 repeat (refine gn ?_)
 refine J.loop (ι:={ k:Nat // k≤n }) (fun q=>[(34,.c (nI q.1)),(33,.c (nI n)),(6,.c (.v (pt b)))]) (fun q=>[.box b 136 [.v (.slice (some ⟨gu,0,none⟩) n n),.v (.slice (some ⟨gv,0,none⟩) m m)],.row (.slice (some ⟨gu,0,none⟩) n n) 138 3 ((iH (-1,-1,-1) n q.1).map cP),.row (.slice (some ⟨gv,0,none⟩) m m) 140 3 ((List.replicate m ((0,0,0):Int × Int × Int)).map cP)]) (fun q=>n - q.1) ⟨0,Nat.zero_le _⟩ (fun X h=>h.aQ ⟨rfl,rfl,rfl,trivial⟩) (fun q ih=>?_);obtain ⟨k,hk⟩:=q;simp only at hk ih ⊢
 by_cases aN:k < n
 ·have s1:decide ((k:Int) < (n:Int))=true:=decide_eq_true (by omega);have i0:=Int.natCast_nonneg k;have i1:(k:Int) < (((iH (-1,-1,-1) n k).map cP).length:Int):=by rw [fl _ _ _ hk];omega
  have iq:((k:Int)).toNat < ((iH (-1,-1,-1) n k).map cP).length:=by omega
  have fF:=ih ⟨k + 1,by omega⟩ (by simp only;omega);simp only at fF;rw [show (iH (-1,-1,-1) n (k + 1)).map cP=((iH (-1,-1,-1) n k).map cP).set ((k:Int)).toNat (cP (-1,-1,-1)) by rw [← qB,Int.toNat_natCast];unfold iH;rw [ue _ _ _ _ aN]] at fF
  repeat (first | (refine K.store ?_;refine JO.ld (Ld.dV rfl rfl rfl (by exact rfl) (by exact iq)) rfl (fun _=>?_)) | (refine K.indexAddr ?_;refine jq rfl rfl rfl (Qt.cB rfl rfl i0 i1) ?_) | refine gn ?_)
  exact fF.aQ ⟨rfl,rfl,rfl,trivial⟩
 obtain rfl:k=n:=by omega
 rw [show iH (-1,-1,-1) k k=List.replicate k (-1,-1,-1) by unfold iH;simp];have s1:decide ((k:Int) < (k:Int))=false:=decide_eq_false (by omega)
 repeat (refine gn ?_)
 refine J.loop (ι:={ j:Nat // j≤m }) (fun q=>[(50,.c (nI q.1)),(49,.c (nI m)),(6,.c (.v (pt b)))]) (fun q=>[.box b 136 [.v (.slice (some ⟨gu,0,none⟩) k k),.v (.slice (some ⟨gv,0,none⟩) m m)],.row (.slice (some ⟨gu,0,none⟩) k k) 138 3 ((List.replicate k ((-1,-1,-1):Int × Int × Int)).map cP),.row (.slice (some ⟨gv,0,none⟩) m m) 140 3 ((iH (-1,-1,0) m q.1).map cP)]) (fun q=>m - q.1) ⟨0,Nat.zero_le _⟩ (fun X h=>h.aQ ⟨rfl,rfl,rfl,trivial⟩) (fun q Cg=>?_);obtain ⟨j,hj⟩:=q;simp only at hj Cg ⊢
 by_cases dH:j < m
 ·have s1:decide ((j:Int) < (m:Int))=true:=decide_eq_true (by omega);have i0:=Int.natCast_nonneg j;have i1:(j:Int) < (((iH (-1,-1,0) m j).map cP).length:Int):=by rw [fl _ _ _ hj];omega
  have iq:((j:Int)).toNat < ((iH (-1,-1,0) m j).map cP).length:=by omega
  have fF:=Cg ⟨j + 1,by omega⟩ (by simp only;omega);simp only at fF;rw [show (iH (-1,-1,0) m (j + 1)).map cP=((iH (-1,-1,0) m j).map cP).set ((j:Int)).toNat (cP (-1,-1,0)) by rw [← qB,Int.toNat_natCast];unfold iH;rw [ue _ _ _ _ dH]] at fF
  repeat (first | (refine K.store ?_;refine JO.ld (Ld.dV rfl rfl rfl (by exact rfl) (by exact iq)) rfl (fun _=>?_)) | (refine K.indexAddr ?_;refine jq rfl rfl rfl (Qt.cB rfl rfl i0 i1) ?_) | refine gn ?_)
  exact fF.aQ ⟨rfl,rfl,rfl,trivial⟩
 obtain rfl:j=m:=by omega
 rw [show iH (-1,-1,0) j j=List.replicate j (-1,-1,0) by unfold iH;simp];have s1:decide ((j:Int) < (j:Int))=false:=decide_eq_false (by omega)
 repeat (refine gn ?_)
 (exact J.cS func31 rfl (.cons (.tmp rfl) (.cons (.tmp rfl) .nil)) (b,.slice (some ⟨gu,0,none⟩) k k,.slice (some ⟨gv,0,none⟩) j j) (by exact .refl) rfl)
end Fl
end Go.Proofs.YtgjpdogjekmemaaGreat
