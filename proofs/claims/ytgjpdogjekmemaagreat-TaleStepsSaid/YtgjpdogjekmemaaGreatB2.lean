/-
  What the laws need, part B2.
  Conditions: none.
-/
import Derived.Test.YtgjpdogjekmemaaGreatB1
import Derived.Laws.CopyRow
import Derived.Laws.Entries
import Derived.Laws.OwnMore
import Derived.OwnWalk
set_option linter.unusedVariables false
set_option linter.unusedSimpArgs false
set_option linter.unnecessarySimpa false
set_option maxHeartbeats 2000000
namespace Go.Proofs.YtgjpdogjekmemaaGreat
open Go.RowKit
namespace Fl
theorem RX.take {ok:Nat→Prop} {w:World} {sz:Nat}:∀ (n:Nat) {l:List (List A)} {xs:List Value},RX ok w sz l xs→RX ok w sz (l.take n) (xs.take (n * sz))
 | 0,l,xs,h=>by simp [RX]
 | n + 1,[],xs,h=>by unfold RX at h;subst h;simp [RX]
 | n + 1,cs :: l,xs,h=>by
  obtain ⟨vs,ys,rfl,h2,h3,h4⟩:=h;have e1:(vs ++ ys).take ((n + 1) * sz)=vs ++ ys.take (n * sz):=by
   rw [List.take_append,List.take_of_length_le (by rw [h2,Nat.add_mul];omega),h2]
   congr 2;rw [Nat.add_mul];omega
  rw [e1];exact ⟨vs,_,rfl,h2,h3,RX.take n h4⟩
theorem RX.drop {ok:Nat→Prop} {w:World} {sz:Nat}:∀ (n:Nat) {l:List (List A)} {xs:List Value},RX ok w sz l xs→RX ok w sz (l.drop n) (xs.drop (n * sz))
 | 0,l,xs,h=>by simpa using h
 | n + 1,[],xs,h=>by unfold RX at h;subst h;simp [RX]
 | n + 1,cs :: l,xs,h=>by
  obtain ⟨vs,ys,rfl,h2,h3,h4⟩:=h;have e1:(vs ++ ys).drop ((n + 1) * sz)=ys.drop (n * sz):=by
   rw [List.drop_append,List.drop_of_length_le (by rw [h2,Nat.add_mul];omega),h2];simp only [List.nil_append]
   congr 1;rw [Nat.add_mul];omega
  rw [e1];exact RX.drop n h4
section
variable {P:Program} {c:Cx} {k:List Item} {f:Fm} {L:List ak} {ops:Array Oper} {T X:TypeId} {ps:String} {af:Array Edge} {gd:Option (Nat × Bool)} {t:Nat}
theorem EN {x:Operand} {lo hi:Option Operand} {e sz j:Nat} {v:Value} {l l':List (List A)} {L':List ak} {m n:Int} [i:ez P X e sz] [bx:gu L v e sz l j] [er:jo L j L'] (ht:t < c.N) (h:aY f x=some (.c (.v v))) (wV:kM f lo 0=some m) (wX:kM f hi l.length=some n) (h1:0≤m) (h2:m≤n) (h3:n≤l.length) (hl:(l.take n.toNat).drop m.toNat=l') :
  Ld P c ⟨some t,.slice X x lo hi none,T,ps,af,gd⟩ f L (de v) (fun v':Value=>(t,.c (.v v')) :: f) (fun v'=>.row v' e sz l' :: L'):=Ld.perm (xe bx.h er.h) ⟨fun a w s K Q hK=>by
 subst hl;have rx:=s.val h;obtain ⟨xs,r1,r2⟩:=s.res _ (List.mem_cons_self ..);have ap:=List.pairwise_cons.1 s.ap;obtain ⟨h0,ao,cap,hx,g1,g2,g3⟩:=r1;have hn:n.toNat≤l.length:=by omega
 have wY:∀ w,(match lo.map a.eval with | some v=>Instr.sliceBound v n.toNat .sliceB | none=>pure 0:Sem Nat).run P w=.ok m.toNat w:=fun w=>by
  rcases kM.run s wV with ⟨rfl,rfl⟩ | ⟨y,kd,rfl,hy⟩
  ·simp
  ·simp only [Option.map_some,hy,Instr.sliceBound,asIntOf,Sem.run_bind,Sem.run_pure,Result.andThen_ok];rw [if_pos ⟨h1,by omega⟩];rfl
 have wZ:∀ w,(match hi.map a.eval,(none:Option Value) with | some v,some _=>Instr.sliceBound v cap .slice3B | some v,none=>Instr.sliceBound v cap (if true then .sliceAcap else .sliceAlen) | none,none=>pure l.length | none,some _=>stuck "Slice: max without high":Sem Nat).run P w=.ok n.toNat w:=fun w=>by
  rcases kM.run s wX with ⟨rfl,rfl⟩ | ⟨y,kd,rfl,hy⟩
  ·simp
  ·simp only [Option.map_some,hy,Instr.sliceBound,asIntOf,Sem.run_bind,Sem.run_pure,Result.andThen_ok];rw [if_pos ⟨by omega,by omega⟩];rfl
 have w9:∀ w,(Instr.sliceBounds true l.length cap (lo.map a.eval) (hi.map a.eval) none).run P w=.ok (m.toNat,n.toNat,cap) w:=fun w=>by
  unfold Instr.sliceBounds;simp only [Sem.run_bind,Sem.run_pure,Result.andThen_ok,Option.isSome_none,Bool.false_eq_true,↓reduceIte];have a1:=wZ w;have a2:=wY w
  cases xb:hi.map a.eval <;> cases xd:lo.map a.eval <;> rw [xb] at a1 <;> rw [xd] at a2 <;> simp only [↓reduceIte,Sem.run_pure,Result.ok.injEq,and_true] at a1 a2 <;> simp [Sem.run_bind,a1,a2]
 have gM:(execOp a.eval ⟨some t,.slice X x lo hi none,T,ps,af,gd⟩).run P w=.ok (.value (.slice (if cap=m.toNat then ao else ao.map (·.add (m.toNat * sz))) (n.toNat - m.toNat) (cap - m.toNat))) w:=by
  simp only [execOp,Option.map_none,Instr.sliceAt,Instr.slice,rx,hx,Sem.run_bind,run_underlying (jK.iV i.h),Result.andThen_ok,w9,gY.run i.s,Sem.run_pure]
 have hlen:((l.take n.toNat).drop m.toNat).length=n.toNat - m.toNat:=by simp [hn]
 have hf:de (.slice (if cap=m.toNat then ao else ao.map (·.add (m.toNat * sz))) (n.toNat - m.toNat) (cap - m.toNat))=de v:=by
  subst hx
  cases ao with
  | none=>simp [de]
  | some A=>split <;> simp [de,Addr.add] <;> split <;> rfl
 have hR:(ak.row (.slice (if cap=m.toNat then ao else ao.map (·.add (m.toNat * sz))) (n.toNat - m.toNat) (cap - m.toNat)) e sz ((l.take n.toNat).drop m.toNat)).holds (bz c (.row v e sz l :: L')) w:=by
  refine ⟨(xs.take (n.toNat * sz)).drop (m.toNat * sz),?_,(r2.take n.toNat).drop m.toNat⟩;rw [hf,hlen];refine ⟨?_,_,_,rfl,by omega,by omega,?_⟩
  ·have:=((r2.take n.toNat).drop m.toNat).len;rw [this,hlen]
  ·rcases g3 with ⟨rfl,g4,g5,g6⟩ | ⟨g,off,cur,rfl,g5,g6,g7,g8⟩
   ·exact .inl ⟨by simp,by omega,by omega,g6⟩
   ·by_cases hc:cap=m.toNat
    ·refine .inr ⟨g,off,cur,by rw [if_pos hc],g5,g6,by rw [hc];have:off≤off + cap * sz:=Nat.le_add_right _ _;simp;omega,fun q hq=>?_⟩;have mC:=((r2.take n.toNat).drop m.toNat).len;rw [mC,hlen,show n.toNat - m.toNat=0 by omega] at hq;omega
    ·refine .inr ⟨g,off + m.toNat * sz,cur,by rw [if_neg hc];simp [Addr.add_mid],g5,g6,?_,fun q hq=>?_⟩
     ·have e1:m.toNat * sz + (cap - m.toNat) * sz=cap * sz:=by rw [← Nat.add_mul];congr 1;omega
      omega
     ·have p7:q < xs.length:=by
       have:=hq;simp only [List.length_drop,List.length_take] at this;omega
      have EO:m.toNat * sz + q < n.toNat * sz:=by
       have:=hq;simp only [List.length_drop,List.length_take] at this;omega
      have EP:m.toNat * sz + q < xs.length:=by
       have:=hq;simp only [List.length_drop,List.length_take] at this;omega
      rw [List.getElem?_drop,List.getElem?_take,if_pos EO,← g8 _ EP]
      congr 1;omega
 have ho:bz c (.row (.slice (if cap=m.toNat then ao else ao.map (·.add (m.toNat * sz))) (n.toNat - m.toNat) (cap - m.toNat)) e sz ((l.take n.toNat).drop m.toNat) :: L')=bz c (.row v e sz l :: L'):=by
  funext x;unfold bz;simp only [iJ,ak.cA,hf]
 unfold Oper.wp;rw [gM];refine hK _ _ w (aP.refl _ _) (s.put ht (by unfold RD RA;exact ⟨rfl,rfl⟩) s.kp (fun q hq=>?_) (fun y hy=>s.dS y ?_) ?_ (by rw [ho];exact Mon.refl _ _)) (fun y hy=>.inl ?_)
 ·rw [ho];rcases List.mem_cons.1 hq with rfl | hq
  ·exact hR
  ·exact s.res q (List.mem_cons_of_mem _ hq)
 ·rw [iJ,ak.cA,hf] at hy;exact (iJ _ _ _).2 hy
 ·exact List.pairwise_cons.2 ⟨fun q hq y hy ER=>ap.1 q hq y (by rw [ak.cA,hf] at hy;exact hy) ER,ap.2⟩
 ·rw [iJ,ak.cA,hf] at hy;exact (iJ _ _ _).2 hy⟩
theorem J.join {I:Item} {ι:Type} (f':ι→Fm) (L':ι→List ak) (rest:∀ x,J P c k (f' x) (L' x)) (h:(∀ x,J P c k (f' x) (L' x))→J P c (I :: k) f L):J P c (I :: k) f L:=h rest
theorem J.ES (t u n:Nat) {v:Value} {e sz i j b o B:Nat} {ll:List (List A)} {cs:List A} {L1 L2:List ak} [r:gu L v e sz ll i] [bx:jn L b B cs j] [st:jZ L j (.box b B (cs.set n (.r sz ll))) L1] [er:jo L1 i L2] (h1:look f t=some (.c (.v v))) (h2:look f u=some (.c (.v (.pointer (some ⟨b,o,none⟩))))) (hc:cs[n]?=some (.v v)) (h:J P c k f L2):J P c k f L :=
 J.pY i j n r.h bx.h hc (by rw [st.h,er.h];exact h)
theorem J.ET (t:Nat) {v:Value} {e sz i:Nat} {ll:List (List A)} {L2:List ak} [r:gu L v e sz ll i] [er:jo L i L2] (h1:look f t=some (.c (.v v))) (h:J P c k f (.row v e sz ll :: L2)):J P c k f L :=
 J.pull i r.h (by rw [er.h];exact h)
theorem J.ep (i:Nat) {L2:List ak} [er:jo L i L2] (h:J P c k f L2):J P c k f L:=J.drop i (by rw [er.h];exact h)
end
class rW (L:List ak) (d:D) (j:outParam Nat):Prop where h:True
instance rW.box {L:List ak} {b o B j:Nat} {cs:List A} [jn L b B cs j]:rW L (.c (.v (.pointer (some ⟨b,o,none⟩)))) j:=⟨trivial⟩
instance rW.row {L:List ak} {v:Value} {e sz j:Nat} {l:List (List A)} [gu L v e sz l j]:rW L (.c (.v v)) j:=⟨trivial⟩
section
variable {P:Program} {c:Cx} {k:List Item} {f:Fm} {L:List ak} {ops:Array Oper} {n:Nat} {aQ:Array Bool}
theorem Gx.mono {S S':World→Prop} {md:Region.Mode} {Q:Exit→Act→World→Prop} {m:Option Nat} (hS:∀ w,S' w→S w):∀ (n:Nat) (aQ:Array Bool) (a:Act) (w:World),Gx P md ops Q S' m n aQ a w→Gx P md ops Q S m n aQ a w
 | 0,_,_,_,h=>h
 | n + 1,_,_,_,h=>⟨h.1,fun i hi=>wpOp_mono (fun a' w' h'=>h'.elim .inl (fun h'=>.inr ⟨hS _ h'.1,Gx.mono hS n _ _ _ h'.2⟩)) (h.2 i hi)⟩
theorem JD.kN {m:Option Nat} {T:List Nat} {f0:Fm} {L0:List ak} (h:JD P c ops m [] n aQ k f L f L):JD P c ops m T n aQ k f L f0 L0:=⟨fun a w w0 s s0 kp ho =>
 Gx.mono (fun w' h'=>kp.trans h' (fun x hx=>by simp [cr] at hx)) _ _ _ _ (h.go a w w s s (aP.refl _ _) (fun x hx=>.inl hx))⟩
theorem JW.iu (m:Option Nat) (x:Operand) {d:D} {j:Nat} (hx:aY f x=some d) [rW L d j] (h:JD P c ops m [j] n aQ k f L f L):JW P c ops n aQ k f L:=JW.wS _ _ h
end
end Fl
open Go.RowKit
namespace Fl
section
variable {P:Program} {ops:Array Oper} {Q:Exit→Act→World→Prop} {md:Region.Mode} {S:World→Prop}
def reach (md:Region.Mode) (ops:Array Oper) (aQ:Array Bool):Nat→Nat→Nat→Bool
 | 0,m,i=>waitsFor md ops m i
 | n + 1,m,i=>waitsFor md ops m i || match ops[m]? with
  | none=>false
  | some o=>o.after.any (fun e=>Region.binds md e && !(aQ.getD e.on false) && reach md ops aQ n e.on i)
theorem zU {aQ:Array Bool} {m i:Nat} (hr:i∈Region.ready md ops aQ) (hw:waitsFor md ops m i=true):m∉Region.ready md ops aQ:=fun hm=>by
 obtain ⟨_,oj,j5,mj⟩:=mem_ready.1 hm;have lM:=wB hr mj;unfold waitsFor at hw;rw [j5] at hw;obtain ⟨x,hx,hp⟩:=Array.any_eq_true'.1 hw;simp only [Bool.and_eq_true,beq_iff_eq] at hp;exact lM x hx hp.2 hp.1
theorem zV {aQ:Array Bool} {i:Nat} (hr:i∈Region.ready md ops aQ):∀ (n m:Nat),reach md ops aQ n m i=true→m∉Region.ready md ops aQ
 | 0,m,h=>zU hr h
 | n + 1,m,h=>fun hm=>by
  unfold reach at h;rw [Bool.or_eq_true] at h;rcases h with h | h
  ·exact zU hr h hm
  ·obtain ⟨_,oj,j5,mj⟩:=mem_ready.1 hm;rw [j5] at h;obtain ⟨x,hx,hp⟩:=Array.any_eq_true'.1 h;simp only [Bool.and_eq_true,Bool.not_eq_true'] at hp;have:=mj x hx hp.1.1;rw [hp.1.2] at this
   cases this
theorem zW {aQ:Array Bool} {i j:Nat} (hr:i∈Region.ready md ops aQ) (hj:j∈Region.ready md ops aQ):∀ (n m:Nat),reach md ops aQ n m i=true→reach md ops (aQ.setIfInBounds j true) n m i=true
 | 0,m,h=>h
 | n + 1,m,h=>by
  unfold reach at h ⊢;rw [Bool.or_eq_true] at h ⊢;rcases h with h | h
  ·exact .inl h
  ·refine .inr ?_
   cases ho:ops[m]? with
   | none=>rw [ho] at h;cases h
   | some o =>
    rw [ho] at h;obtain ⟨x,hx,hp⟩:=Array.any_eq_true'.1 h;simp only [Bool.and_eq_true,Bool.not_eq_true'] at hp;have ck:j≠x.on:=fun e=>zV hr n x.on hp.2 (e ▸ hj)
    refine Array.any_eq_true'.2 ⟨x,hx,?_⟩;simp only [Bool.and_eq_true,Bool.not_eq_true'];exact ⟨⟨hp.1.1,by rw [getD_set_ne false ck];exact hp.1.2⟩,zW hr hj n x.on hp.2⟩
def xg (md:Region.Mode) (ops:Array Oper) (m:Option Nat) (aQ:Array Bool) (i:Nat):Bool:=match m with
 | none=>true
 | some j=>reach md ops aQ ops.size j i
theorem Gx.zX {m:Option Nat} {i:Nat} {oi:Oper} {v:Value} (hi:ops[i]?=some oi) (oL:∀ (j:Nat) (o:Oper) cs b,ops[j]?=some o→o.op≠.select cs b) (hQ:∀ c a w,Q (.panic c) (a.put oi.dst v) w→Q (.panic c) a w) :
  ∀ (n:Nat) (aQ:Array Bool) (a:Act) (w:World),xg md ops m aQ i=true→(∀ (j:Nat) oj,ops[j]?=some oj→j≠i→aQ.getD j true=false→(∀ e∈oj.after,Region.binds md e=true→e.on≠i)→oi.apart ops oj=true) →
   i∈Region.ready md ops aQ→YieldsIf P ops S oi v a→S w→Gx P md ops Q S m n (aQ.setIfInBounds i true) (a.put oi.dst v) w→Gx P md ops Q S m (n + 1) aQ a w
 | n,aQ,a,w,hm,rP,hr,hy,hS,H=>by
  refine ⟨fun h=>(by rw [h] at hr;cases hr),fun j hj=>?_⟩
  by_cases iX:j=i
  ·subst iX;exact hy.wpOp hi hS (.inr ⟨hS,H⟩)
  ·cases n with
   | zero =>
    have:=ready_mono hj iX;rw [H.1] at this
    cases this
   | succ n =>
    obtain ⟨rQ,oj,j5,mj⟩:=mem_ready.1 hj;have lM:=wB hr mj;have wP:some j≠m:=fun e=>by
     subst e;exact zV hr _ _ hm hj
    have bY:xg md ops m (aQ.setIfInBounds j true) i=true:=by
     cases m with
     | none=>rfl
     | some q=>exact zW hr hj _ _ hm
    have h2:=wpOp_putIf j5 (rP j oj j5 iX rQ lM) (fun cs b=>oL i oi cs b hi) (fun cs b=>oL j oj cs b j5) hQ hy (H.2 j (ready_mono hj iX));have iq:i∈Region.ready md ops (aQ.setIfInBounds j true):=ready_mono hr (Ne.symm iX);refine wpOp_mono (fun a' w' h3=>?_) h2;have wQ:=Array.setIfInBounds_comm (xs:=aQ) true true iX;obtain ⟨h4,h5⟩:S w'∧_:=h3.2.resolve_left (fun h=>wP h.1);exact .inr ⟨h4,Gx.zX hi oL hQ n (aQ.setIfInBounds j true) a' w' bY (fun k ok hk wR rR lM=>by
     refine rP k ok hk wR ?_ lM
     by_cases rS:j=k
     ·subst rS;exact rQ
     ·rw [getD_set_ne true rS] at rR;exact rR) iq h3.1 h4 (by rw [wQ];exact h5)⟩
end
def zY (md:Region.Mode) (ops:Array Oper) (m:Option Nat) (aQ:Array Bool) (i:Nat):Bool :=
 Region.noSelect ops && Region.free md ops aQ i && (Region.ready md ops aQ).contains i && xg md ops m aQ i
section
variable {P:Program} {c:Cx} {k:List Item} {f f0:Fm} {L L0:List ak} {ops:Array Oper} {n:Nat} {aQ:Array Bool} {m:Option Nat} {T:List Nat} {o:Oper}
theorem JD.xj (i:Nat) {t:Nat} {d:D} {U:List Nat} (hi:ops[i]?=some o) (hd:o.dst=some t) (hk:zY .any ops m aQ i=true) (hw:dD ops o f0=true) (ht:t < c.N) (q:Qt P c U o f0 L0 d) (hu:(U.all fun j=>!T.contains j)=true) (h:JD P c ops m T n (aQ.setIfInBounds i true) k ((t,d) :: f) L ((t,d) :: f0) L0):JD P c ops m T (n + 1) aQ k f L f0 L0:=⟨fun a w w0 s s0 kp ho=>by
 obtain ⟨v,h1,h2⟩:=q.go a w0 s0;unfold zY at hk;simp only [Bool.and_eq_true] at hk;obtain ⟨⟨⟨k1,k2⟩,k3⟩,k4⟩:=hk;have m1:Mon (bz c L0) (bz c L) w0 w:=Mon.jJ kp fun g hg eL=>⟨⟨eL.1,fun hx=>by rcases ho g hx with h | h;exact eL.2 h;omega⟩,fun hm=>eL.2 (uz hm)⟩
 have wT:∀ w',aP (cr L0 T) w0 w'→nj L0 U w0 w':=fun w' oM=>⟨_,oM,fun x hx=>uz hx,fun x hx j hj r hr pX=>by
  obtain ⟨i,hi,r2,iq,mu⟩:=uy.1 hx;have rO:j≠i:=fun e=>by
   subst e;have:=List.all_eq_true.1 hu j hj;simp [hi] at this
  exact fC.ne s0.ap hr iq rO x pX mu⟩
 refine Gx.zX hi (Region.noSelect_spec k1) (fun c a w h=>by cases h.1) n aQ a w k4 (Region.free_spec hi k2) (by simpa using k3) (v:=v) (.inl ⟨dD.run hw s0,fun w' oM=>h2 w' (wT w' oM)⟩) kp ?_;have:=h.go (a.put o.dst v) w w0 (by rw [hd];exact s.lI ht (RD.cD m1 _ _ h1)) (by rw [hd];exact s0.lI ht h1) kp ho;exact this⟩
end
end Fl
open Go.RowKit
namespace Fl
section
variable {P:Program} {c:Cx} {k:List Item} {f:Fm} {L:List ak} {ops:Array Oper} {n:Nat} {aQ:Array Bool} {o:Oper}
structure JT (P:Program) (c:Cx) (ops:Array Oper) (n:Nat) (aQ:Array Bool) (k:List Item) (f:Fm) (L:List ak) (i:Nat):Prop where
 go:∀ a w,St c f L a w→wpOp P ops (fun e a' w'=>e=.normal∧ij P c k a' w') i (fun a' w'=>wpAny P .any ops (fun e a' w'=>e=.normal∧ij P c k a' w') n (aQ.setIfInBounds i true) a' w') a w
variable {T:TypeId} {ps:String} {af:Array Edge} {gd:Option (Nat × Bool)} {t:Nat}
theorem Ld.xk {F:FuncId} {args:List Operand} {tys:Array TypeId} {cV ds:List D} {ι:Type} {dd:ι→D} {M:ι→List ak} {Ll:List ak} (Lr:List ak) (L':ι→List ak) [i:aS P F] (hC:aA P F ds Ll (fun x=>(dd x,M x))) (hL:(Ll ++ Lr).Perm L) (zZ:∀ x,(L' x).Perm (M x ++ Lr)) (ht:t < c.N) (h:fS f args=some cV) (hle:bR cV ds) :
  Ld P c ⟨some t,.call ⟨.value (.func F),args.toArray,tys⟩,T,ps,af,gd⟩ f L (bL Ll) (fun x=>(t,dd x) :: f) L':=⟨fun a w s K Q hK=>by
 have h1:=Ld.call (P:=P) (c:=c) (T:=T) (ps:=ps) (af:=af) (gd:=gd) (L:=Ll ++ Lr) (f:=f) (tys:=tys) hC ht h hle (Ll:=Ll) (Lr:=Lr) rfl;refine h1.go a w (s.perm hL) K Q fun x v w' kp sx hf=>?_
 refine hK x v w' kp (sx.perm (zZ x)) fun y hy=>?_
 rcases hf y ((oN (zZ x) y).1 hy) with h | h
 ·exact .inl ((oN hL y).1 h)
 ·exact .inr h⟩
end
end Fl
open Go.RowKit
namespace Fl
section
variable {P:Program} {c:Cx} {k:List Item} {f:Fm} {L:List ak} {T X:TypeId} {ps:String} {af:Array Edge} {gd:Option (Nat × Bool)} {t:Nat}
theorem Ld.mE {e sz:Nat} {x:Operand} {d:D} {cs:List A} {zs:List Value} [i:ez P X e sz] [z:aW P e zs] (ht:t < c.N) (h:aY f x=some d) (hc:fV d=some cs) (hn:cs.length=sz) (h0:Nat.ble 1 sz=true) (hs:Nat.ble sz 1000=true) :
  Ld P c ⟨some t,.buildSlice X 1 #[(0,x)],T,ps,af,gd⟩ f L [] (fun _:Unit=>(t,.c (.r sz [cs])) :: f) (fun _=>L):=⟨fun a w s K Q hK =>
 (Ld.dK (P:=P) (c:=c) (T:=T) (ps:=ps) (af:=af) (gd:=gd) (f:=f) (L:=L) (e:=e) (sz:=sz) (zs:=zs) (X:=X) (t:=t) ht h hc hn h0 hs).go a w s K Q fun b u w' k' s' hf=>hK () u w' k' s'.freeze fun y hy=>hf y ((iJ _ _ _).2 (.inr hy))⟩
theorem Ld.z0 {e sz:Nat} [i:ez P X e sz] (ht:t < c.N):Ld P c ⟨some t,.buildSlice X 0 #[],T,ps,af,gd⟩ f L [] (fun _:Unit=>(t,.c (.r sz [])) :: f) (fun _=>L):=⟨fun a w s K Q hK =>
 (Ld.eJ (P:=P) (c:=c) (T:=T) (ps:=ps) (af:=af) (gd:=gd) (f:=f) (L:=L) (e:=e) (sz:=sz) (X:=X) (t:=t) ht).go a w s K Q fun b u w' k' s' hf=>hK () u w' k' s'.freeze fun y hy=>hf y ((iJ _ _ _).2 (.inr hy))⟩
end
end Fl
open Go.RowKit
namespace Fl
section
variable {P:Program} {c:Cx} {k:List Item} {f:Fm} {L:List ak} {ops:Array Oper} {T X:TypeId} {ps:String} {af:Array Edge} {gd:Option (Nat × Bool)} {t:Nat}
theorem Ld.rX {x:Operand} {F:FuncId} {args:List Operand} {tys:Array TypeId} {cV ds:List D} {d:D} [i:aS P F] (hx:aY f x=some (.c (.v (.func (.func F) #[] #[])))) (hC:Pure P F ds d) (ht:t < c.N) (h:fS f args=some cV) (hle:bR cV ds) :
  Ld P c ⟨some t,.call ⟨.value x,args.toArray,tys⟩,T,ps,af,gd⟩ f L [] (fun _:Unit=>(t,d) :: f) (fun _=>L):=⟨fun a w s K Q hK=>by
 have h1:=(Ld.pure (P:=P) (c:=c) (T:=T) (ps:=ps) (af:=af) (gd:=gd) (L:=L) (f:=f) (tys:=tys) hC ht h hle).go a w s K Q hK;have e:=s.val hx;unfold Oper.wp at h1 ⊢;rw [show execOp a.eval ⟨some t,.call ⟨.value x,args.toArray,tys⟩,T,ps,af,gd⟩=execOp a.eval ⟨some t,.call ⟨.value (.func F),args.toArray,tys⟩,T,ps,af,gd⟩ by
  simp only [execOp,resolve,e];rfl]
 exact h1⟩
theorem Qt.bin {op:BinOp} {x y:Operand} {X Y:Nat} {ka kb kc:IntKind} {m n r:Int} (h:aY f x=some (.c (.v (.int ka m)))) (hy:aY f y=some (.c (.v (.int kb n)))) (hr:∀ w,(binOp op X (.int ka m) (.int kb n)).run P w=.ok (.int kc r) w):Qt P c [] ⟨t,.binOp op X x y Y,T,ps,af,gd⟩ f L (.c (.v (.int kc r))):=⟨fun a w s=>by
 have rx:=s.val h;have ry:=s.val hy;refine ⟨.int kc r,by unfold RD RA;exact ⟨rfl,rfl⟩,fun w' k=>?_⟩;simp [execOp,rx,ry,eqGuard_at_int,hr,Sem.run_bind]⟩
end
end Fl
namespace Pn
structure Cs where
 send:Bool
 ch:Int
 v:Int
structure Op where
 kind:Int
 ch:Int
 n:Int
 v:Int
 cases:List Cs
 cT:Bool
theorem Cs.ext {a b:Cs} (h1:a.send=b.send) (h2:a.ch=b.ch) (h3:a.v=b.v):a=b:=by cases a;cases b;simp_all
theorem Op.ext {a b:Op} (h1:a.kind=b.kind) (h2:a.ch=b.ch) (h3:a.n=b.n) (h4:a.v=b.v) (h5:a.cases=b.cases) (h6:a.cT=b.cT):a=b:=by cases a;cases b;simp_all
instance:DecidableEq Cs:=fun a b=>decidable_of_iff (a.send=b.send∧a.ch=b.ch∧a.v=b.v) ⟨fun ⟨h1,h2,h3⟩=>Cs.ext h1 h2 h3,fun h=>by subst h;simp⟩
instance:DecidableEq Op:=fun a b=>decidable_of_iff (a.kind=b.kind∧a.ch=b.ch∧a.n=b.n∧a.v=b.v∧a.cases=b.cases∧a.cT=b.cT) ⟨fun ⟨h1,h2,h3,h4,h5,h6⟩=>Op.ext h1 h2 h3 h4 h5 h6,fun h=>by subst h;simp⟩
instance:Inhabited Cs:=⟨⟨false,0,0⟩⟩
instance:Inhabited Op:=⟨⟨0,0,0,0,[],false⟩⟩
def gO (k:Int):Bool:=decide (2≤k) && decide (k≤8)
def gP (k:Int):Bool:=(k == 2) || (k == 4)
def iN (c:Cs):Bool:=decide (0≤c.ch∧c.ch≤8∧0≤c.v∧c.v≤255∧(c.send=false→c.v=0))
def dO (o:Op):Bool:=decide (1≤o.kind∧o.kind≤9∧0≤o.ch∧o.ch≤8∧0≤o.n∧o.n≤4∧0≤o.v∧o.v≤255∧o.cases.length≤6 ∧
 (gO o.kind=false→o.ch=0)∧(gP o.kind=false→o.v=0)∧(o.kind≠1→o.n=0)∧(o.kind≠9→o.cases=[]∧o.cT=false)∧∀ c∈o.cases,iN c=true)
def js (l:List Op):Bool:=decide (l.length≤16∧∀ o∈l,dO o=true)
def right (p:List (List Op)):Bool:=decide (1≤p.length∧p.length≤8∧∀ l∈p,js l=true)
section
variable {α:Type} {f:Nat→α × Nat}
end
end Pn
namespace Md
structure Ch where
 cap:Int
 buf:List Int
 closed:Bool
structure St where
 aK:List Ch
 waits:Int→Option Pn.Op
structure Sd where
 ch:Int
 send:Bool
 v:Int
structure ak where
 code:Int
 cs:Int
 v:Int
 ok:Bool
 n:Int
end Md
namespace Sx
structure Gr where
 ops:List Pn.Op
 at_:Int
 place:Int
 status:Int
 token:Bool
 call:Int
 br:Bool
 param:Int
 bt:Int
 hold:Int
 t:Int
 fW:Int
 bS:Int
 wi:Int
 c7:Int
 res:Md.ak
 order:List Int
 aE:List Int
 aq:List Int
 an:List Int
 k:Int
structure Cn where
 cap:Int
 buf:List Int
 closed:Bool
 lock:Int
 recv:List Int
 send:List Int
structure Su where
 live:Bool
 g:Int
 ch:Int
 cs:Int
 send:Bool
 v:Int
 done:Bool
structure Mk where
 g:Int
 op:Int
 call:Int
 fW:Int
 bS:Int
 wi:Int
 c7:Int
 re:Int
 res:Md.ak
structure ai where
 eV:Int
 cG:Int
 step:Int
 gs:List Gr
 aK:List Cn
 aL:List Su
 cache:List (List Int)
 middle:List Int
 fresh:Int
 cY:List Int
 drawn:Int
 done:List Mk
def EU:Md.ak:=⟨0,-1,0,false,0⟩
def clean (ops:List Pn.Op) (a:Int):Gr:=⟨ops,a,0,0,false,0,false,-1,-1,-1,0,0,0,-1,-1,EU,[],[],[],[],0⟩
def fF:Su:=⟨false,0,0,0,false,0,false⟩
def nC:ai:=⟨0,0,0,[],[],[],[],[],0,[],0,[]⟩
def can (s g c:Int):Bool:=decide (0≤s∧s≤64∧0≤g∧g≤8∧1≤c∧c≤16)
def start (p:List (List Pn.Op)) (s c:Int) (d:List Int):ai:=⟨s,c,0,p.map (clean · 0),[],List.replicate s.toNat fF,p.map (fun _=>[]),[],0,d,0,[]⟩
def new (p:List (List Pn.Op)) (s c:Int) (d:List Int):ai × Int :=
 if Pn.right p=false then (nC,3) else if can s p.length c=false then (nC,1) else (start p s c d,0)
end Sx
namespace Po
def fits (size iY most:Int):Bool:=decide (0≤size∧size≤64∧0≤iY∧iY≤8∧1≤most∧most≤16)
end Po
namespace Po
def EV (C:List (List Int)) (g:Int):Bool:=decide (0≤g) && decide (g < C.length)
def live (f:Int) (H:List Bool) (x:Int):Bool:=decide (0≤x) && decide (x < f) && !(H.getD x.toNat false)
def outs (H:List Bool) (k:Nat):Nat:=((H.take k).filter (fun t=>!t)).length
theorem EW (H:List Bool) (k:Nat) (t:Bool) (h:H[k]?=some t):outs H (k + 1)=outs H k + (if t then 0 else 1):=by
 obtain ⟨hk,rfl⟩:=List.getElem?_eq_some_iff.1 h;unfold outs;rw [List.take_succ_eq_append_getElem hk,List.filter_append,List.length_append]
 cases H[k] <;> simp
structure St where
 C:List (List Int)
 M:List Int
 f:Nat
 H:List Bool
def room (most:Nat):Nat:=max 1 (most / 2)
def mF (most:Nat) (c M:List Int):Nat:=if c=[] then min (room most) M.length else 0
def own (most:Nat) (c M:List Int):List Int:=c ++ M.reverse.take (mF most c M)
def aG (most:Nat) (c M:List Int):List Int:=M.take (M.length - mF most c M)
def p9 (s:St) (g:Nat) (o m:List Int):St:=⟨s.C.set g o.dropLast,m,s.f,s.H.set (o.getLastD 0).toNat false⟩
def dZ (most:Nat) (c:List Int):Nat:=if c.length=most then c.length - most / 2 else 0
def oO (most:Nat) (s:St) (g:Nat) (c:List Int) (x:Int):St:=⟨s.C.set g (c.take (c.length - dZ most c) ++ [x]),s.M ++ c.reverse.take (dZ most c),s.f,s.H.set x.toNat true⟩
def cL (most:Nat) (s:St) (g x:Int):St × Bool :=
 if EV s.C g && live s.f s.H x then (oO most s g.toNat (s.C.getD g.toNat []) x,true) else (s,false)
def fh (s:St) (a:Int):Nat:=s.M.count a + s.C.flatten.count a
structure Inv (size most:Nat) (s:St):Prop where
 m1:1≤most
 m2:most≤16
 s1:size≤64
 hl:s.H.length=size
 fl:s.f≤size
 one:∀ a,fh s a≤1
 bound:∀ a,1≤fh s a→0≤a∧a < s.f
 home:∀ x:Nat,x < size→s.H.getD x false=decide (1≤fh s (x:Int))
 qa:∀ c∈s.C,c.length≤most
theorem count_set {α:Type} [BEq α] [LawfulBEq α] (a:α):∀ (C:List (List α)) (g:Nat) (c c':List α),C[g]?=some c→(C.set g c').flatten.count a + c.count a=C.flatten.count a + c'.count a
 | [],g,c,c',h=>by simp at h
 | y :: r,0,c,c',h=>by
  simp at h;subst h;simp [List.count_append];omega
 | y :: r,g + 1,c,c',h=>by
  have:=count_set a r g c c' (by simpa using h);simp [List.count_append];omega
theorem Aa {α:Type} [BEq α] [LawfulBEq α] (a:α) (l:List α) (k:Nat):(l.take k).count a + (l.drop k).count a=l.count a:=by
 rw [← List.count_append,List.take_append_drop]
theorem Ab (M:List Int) (n:Nat):M.reverse.take n=(M.drop (M.length - n)).reverse:=by
 rw [List.take_reverse]
theorem EX (most:Nat) (c M:List Int) (a:Int):(own most c M).count a + (aG most c M).count a=c.count a + M.count a:=by
 unfold own aG;rw [Ab,List.count_append,List.count_reverse];have:=Aa a M (M.length - mF most c M);omega
theorem Ac {most:Nat} (h1:1≤most) {c M:List Int} (h:own most c M=[]):c=[]∧M=[]:=by
 unfold own mF room at h;simp only [List.append_eq_nil_iff] at h;obtain ⟨rfl,h⟩:=h;refine ⟨rfl,?_⟩;rw [if_pos rfl] at h
 cases M with
 | nil=>rfl
 | cons x r =>
  have:=congrArg List.length h;simp at this
theorem EY {s:St} {a:Int}:1≤fh s a↔a∈s.M∨∃ c∈s.C,a∈c:=by
 unfold fh
 constructor
 ·intro h;have h2:0 < s.M.count a∨0 < s.C.flatten.count a:=by omega
  rcases h2 with h2 | h2
  ·exact .inl (List.count_pos_iff.1 h2)
  ·right
   have:=List.count_pos_iff.1 h2;simpa using this
 ·rintro (h | ⟨c,hc,h⟩)
  ·have:=List.count_pos_iff.2 h;omega
  ·have:0 < s.C.flatten.count a:=List.count_pos_iff.2 (List.mem_flatten.2 ⟨c,hc,h⟩);omega
theorem xl {o:List Int} (h:o≠[]):o=o.dropLast ++ [o.getLastD 0]:=by
 have:=List.dropLast_concat_getLast h;rw [List.getLastD_eq_getLast?,List.getLast?_eq_some_getLast h];exact this.symm
theorem Ad {α:Type} (l:List α) (i j:Nat) (t d:α) (h:i < l.length):(l.set i t).getD j d=if i=j then t else l.getD j d:=by
 by_cases e:i=j
 ·subst e;simp [h]
 ·simp [List.getD,e]
theorem Inv.last {size most:Nat} {s:St} (v:Inv size most s) {g:Nat} {c:List Int} (hg:s.C[g]?=some c) {o:List Int} (ho:o=own most c s.M) (h0:o≠[]) :
  0≤o.getLastD 0∧o.getLastD 0 < s.f:=by
 have hm:o.getLastD 0∈o:=by
  have:=xl h0;generalize o.getLastD 0=x at *;rw [this];simp
 apply v.bound;apply EY.2;generalize o.getLastD 0=x at *;rw [ho] at hm;unfold own at hm;rcases List.mem_append.1 hm with h | h
 ·exact .inr ⟨c,List.mem_of_getElem? hg,h⟩
 ·left
  have:=List.mem_of_mem_take h;simpa using this
theorem EZ {most:Nat} (h1:1≤most) {c M:List Int} (hc:c.length≤most):(own most c M).length≤most:=by
 unfold own mF room
 by_cases h:c=[]
 ·subst h;simp;omega
 ·simp [h];exact hc
def ind (x a:Int):Nat:=if x=a then 1 else 0
theorem E0 {o:List Int} (h:o≠[]) (a:Int):o.count a=o.dropLast.count a + ind (o.getLastD 0) a:=by
 conv=>lhs;rw [xl h]
 rw [List.count_append,List.count_singleton];unfold ind
 by_cases e:o.getLastD 0=a <;> simp [e]
theorem xm {size most:Nat} {s:St} {g:Nat} {c:List Int} (hg:s.C[g]?=some c) (h0:own most c s.M≠[]) (a:Int) :
  fh (p9 s g (own most c s.M) (aG most c s.M)) a + ind ((own most c s.M).getLastD 0) a=fh s a:=by
 have e1:=count_set a s.C g c (own most c s.M).dropLast hg;have e2:=EX most c s.M a;have e3:=E0 h0 a
 show (aG most c s.M).count a + (s.C.set g (own most c s.M).dropLast).flatten.count a + _=s.M.count a + s.C.flatten.count a;omega
theorem mem_set {α:Type} {l:List α} {g:Nat} {c x:α} (h:x∈l.set g c):x∈l∨x=c:=List.mem_or_eq_of_mem_set h
theorem Inv.p9 {size most:Nat} {s:St} (v:Inv size most s) {g:Nat} {c:List Int} (hg:s.C[g]?=some c) (h0:own most c s.M≠[]) :
  Inv size most (p9 s g (own most c s.M) (aG most c s.M)):=by
 have hb:=v.last hg rfl h0;have nD:=xm (size:=size) hg h0;have ru:=EZ v.m1 (M:=s.M) (v.qa c (List.mem_of_getElem? hg));have j3:fh s ((own most c s.M).getLastD 0)≤1:=v.one _;refine ⟨v.m1,v.m2,v.s1,by simpa [Po.p9] using v.hl,v.fl,fun a=>by have:=nD a;have:=v.one a;omega,fun a ha=>v.bound a (by have:=nD a;omega),?_,?_⟩
 ·intro x hx;have rY:=nD (x:Int);have mu:=v.one (x:Int);have rZ:=v.home x hx;have mw:=v.fl;have jI:=nD ((own most c s.M).getLastD 0)
  show (s.H.set ((own most c s.M).getLastD 0).toNat false).getD x false=_;rw [Ad _ _ _ _ _ (by rw [v.hl];omega)];unfold ind at rY jI;rw [if_pos rfl] at jI
  by_cases e:((own most c s.M).getLastD 0).toNat=x
  ·rw [if_pos e];have e2:(own most c s.M).getLastD 0=(x:Int):=by omega
   rw [if_pos e2] at rY;simp;omega
  ·rw [if_neg e];have e2:(own most c s.M).getLastD 0≠(x:Int):=by omega
   rw [if_neg e2] at rY;rw [rZ];simp only [decide_eq_decide];omega
 ·intro d hd;rcases mem_set hd with h | rfl
  ·exact v.qa d h
  ·simp;omega
theorem Inv.fresh {size most:Nat} {s:St} (v:Inv size most s) (h:s.f < size):Inv size most ⟨s.C,s.M,s.f + 1,s.H⟩ :=
 ⟨v.m1,v.m2,v.s1,v.hl,h,v.one,fun a ha=>by have:=v.bound a ha;exact ⟨this.1,by simp;omega⟩,v.home,v.qa⟩
theorem Ae {most:Nat} {s:St} {g:Nat} {c:List Int} (hg:s.C[g]?=some c) (x a:Int):fh (oO most s g c x) a=fh s a + ind x a:=by
 have e1:=count_set a s.C g c (c.take (c.length - dZ most c) ++ [x]) hg;have e2:=Aa a c (c.length - dZ most c);have e3:[x].count a=ind x a:=by unfold ind;rw [List.count_singleton];by_cases e:x=a <;> simp [e]
 show (s.M ++ c.reverse.take (dZ most c)).count a + (s.C.set g (c.take (c.length - dZ most c) ++ [x])).flatten.count a=s.M.count a + s.C.flatten.count a + _;rw [List.count_append,Ab,List.count_reverse];rw [List.count_append,e3] at e1;omega
theorem Inv.live {size most:Nat} {s:St} (v:Inv size most s) (x:Int):live s.f s.H x=(decide (0≤x) && decide (x < s.f) && decide (fh s x=0)):=by
 unfold Po.live
 by_cases h1:0≤x
 ·by_cases h2:x < s.f
  ·have:=v.home x.toNat (by have:=v.fl;omega);rw [this,Int.toNat_of_nonneg h1];simp only [h1,h2,decide_true,Bool.true_and];rw [Bool.eq_iff_iff];simp
  ·simp [h2]
 ·simp [h1]
theorem Inv.oO {size most:Nat} {s:St} (v:Inv size most s) {g:Nat} {c:List Int} (hg:s.C[g]?=some c) {x:Int} (hx:Po.live s.f s.H x=true) :
  Inv size most (oO most s g c x):=by
 rw [v.live] at hx;simp only [Bool.and_eq_true,decide_eq_true_eq] at hx;obtain ⟨⟨qc,rY⟩,mu⟩:=hx;have nD:=Ae (most:=most) hg x;have bZ:=v.qa c (List.mem_of_getElem? hg);refine ⟨v.m1,v.m2,v.s1,by simpa [Po.oO] using v.hl,v.fl,?_,?_,?_,?_⟩
 ·intro a;rw [nD];have:=v.one a;unfold ind
  split
  ·rename_i e;subst e;omega
  ·omega
 ·intro a ha;rw [nD] at ha;unfold ind at ha
  split at ha
  ·rename_i e;subst e;exact ⟨qc,rY⟩
  ·exact v.bound a (by omega)
 ·intro y hy;rw [nD];have mw:=v.fl
  show (s.H.set x.toNat true).getD y false=_;rw [Ad _ _ _ _ _ (by rw [v.hl];omega),v.home y hy];unfold ind
  by_cases e:x.toNat=y
  ·rw [if_pos e,if_pos (show x=(y:Int) by omega)];simp
  ·rw [if_neg e,if_neg (show x≠(y:Int) by omega)];simp
 ·intro d hd;rcases mem_set hd with h | rfl
  ·exact v.qa d h
  ·have:=v.m1;simp only [List.length_append,List.length_take,List.length_singleton];unfold dZ
   split <;> omega
def jN (L:List Int):Nat→Nat
 | 0=>0
 | k + 1=>jN L k + L.count (k:Int)
theorem E1 (k:Nat):jN [] k=0:=by induction k with
 | zero=>rfl
 | succ k ih=>simp [jN,ih]
theorem E2 (y:Int) (r:List Int) (k:Nat):jN (y :: r) k=jN r k + if 0≤y∧y < k then 1 else 0:=by
 induction k with
 | zero =>
  rw [if_neg (by omega)];rfl
 | succ k ih =>
  have e1:jN (y :: r) (k + 1)=jN (y :: r) k + (y :: r).count (k:Int):=rfl;have e2:jN r (k + 1)=jN r k + r.count (k:Int):=rfl;rw [e1,e2,ih,List.count_cons]
  by_cases e:y=(k:Int)
  ·rw [if_neg (by omega),if_pos (by simpa using e),if_pos (by omega)];omega
  ·have e3:(y == (k:Int))=false:=by simpa using e
   rw [e3,if_neg (show ¬ (false=true) by decide)]
   by_cases h:0≤y∧y < k
   ·rw [if_pos h,if_pos (by omega)];omega
   ·rw [if_neg h,if_neg (by omega)];omega
theorem E3 (L:List Int) (k:Nat) (h:∀ a∈L,0≤a∧a < k):jN L k=L.length:=by
 induction L with
 | nil=>exact E1 k
 | cons y r ih =>
  rw [E2,ih (fun a ha=>h a (by simp [ha])),if_pos (h y (by simp))];simp
theorem E4 (H:List Bool) (L:List Int) (E5:∀ a,L.count a≤1) (k:Nat) (hk:k≤H.length) (hH:∀ x:Nat,x < k→H.getD x false=decide (1≤L.count (x:Int))):outs H k + jN L k=k:=by
 induction k with
 | zero=>simp [outs,jN]
 | succ k ih =>
  have hx:H[k]?=some (H.getD k false):=by rw [List.getD_eq_getElem?_getD,List.getElem?_eq_getElem (by omega)];simp
  rw [EW H k _ hx,hH k (by omega),jN];have:=ih (by omega) (fun x hx=>hH x (by omega));have:=E5 (k:Int)
  by_cases e:1≤L.count (k:Int)
  ·simp [e];omega
  ·simp [e];omega
theorem Inv.outs {size most:Nat} {s:St} (v:Inv size most s):outs s.H s.f + (s.M.length + s.C.flatten.length)=s.f:=by
 have hc:∀ a,(s.M ++ s.C.flatten).count a=fh s a:=fun a=>by rw [List.count_append];rfl
 have h1:=E4 s.H (s.M ++ s.C.flatten) (fun a=>by rw [hc];exact v.one a) s.f (by rw [v.hl];exact v.fl) (fun x hx=>by rw [hc];exact v.home x (by have:=v.fl;omega));have h2:=E3 (s.M ++ s.C.flatten) s.f (fun a ha=>v.bound a (by rw [← hc];exact List.count_pos_iff.2 ha));rw [h2,List.length_append] at h1;exact h1
theorem Inv.lens {size most:Nat} {s:St} (v:Inv size most s):s.M.length≤64∧s.C.flatten.length≤64:=by
 have:=v.outs;have:=v.fl;have:=v.s1;omega
def settle (f:Int):List Bool→List Int→List Bool × Bool
 | H,[]=>(H,true)
 | H,x :: r=>if live f H x then settle f (H.set x.toNat true) r else (H,false)
def of (size most f:Int) (C:List (List Int)) (M:List Int):Bool :=
 fits size C.length most && decide (0≤f) && decide (f≤size) && decide (∀ l∈C,(l.length:Int)≤most) && (settle f (List.replicate size.toNat false) (C.flatten ++ M)).2
end Po
namespace Sx
def uE:Pn.Op:=⟨0,0,0,0,[],false⟩
def uF:Cn:=⟨0,[],false,-1,[],[]⟩
def aa (s:ai) (g:Nat):Gr:=s.gs.getD g (clean [] 0)
def cn (s:ai) (ch:Int):Cn:=s.aK.getD (ch - 1).toNat uF
def su (s:ai) (i:Int):Su:=s.aL.getD i.toNat fF
def ag (s:ai) (g:Nat):Pn.Op:=(aa s g).ops.getD (aa s g).at_.toNat uE
def aR (s:ai) (ch:Int):Bool:=decide (1≤ch∧ch≤s.aK.length)
def ah (s:ai) (g:Nat) (x:Gr):ai:={ s with gs:=s.gs.set g x }
def aH (s:ai) (ch:Int) (c:Cn):ai:={ s with aK:=s.aK.set (ch - 1).toNat c }
def bh (s:ai) (i:Int) (x:Su):ai:={ s with aL:=s.aL.set i.toNat x }
def aT (s:ai) (g:Nat) (p:Int):ai:=ah s g { aa s g with place:=p }
def kO (x:Gr):Gr:={ clean x.ops x.at_ with place:=x.place,status:=x.status,token:=x.token }
def clear (s:ai) (g:Nat):ai:=ah s g (kO (aa s g))
def tryLock (s:ai) (g:Nat) (ch:Int):ai × Bool:=if (cn s ch).lock=-1 then (aH s ch { cn s ch with lock:=g },true) else (s,false)
def free (s:ai) (ch:Int):ai:=aH s ch { cn s ch with lock:=-1 }
def uH (s:ai):List Int:=s.middle ++ s.cache.flatten
def fG (s:ai) (x:Int):Bool:=decide (0≤x) && decide (x < s.fresh) && !(uH s).contains x
def bw (s:ai) (g:Nat):ai × Int × Bool :=
 if Po.own s.cG.toNat (s.cache.getD g []) s.middle=[] then (if s.fresh < s.eV then ({ s with fresh:=s.fresh + 1 },s.fresh,true) else (s,0,false))
 else ({ s with cache:=s.cache.set g (Po.own s.cG.toNat (s.cache.getD g []) s.middle).dropLast,middle:=Po.aG s.cG.toNat (s.cache.getD g []) s.middle },(Po.own s.cG.toNat (s.cache.getD g []) s.middle).getLastD 0,true)
def iZ (s:ai) (g:Nat) (x:Int):ai :=
 if fG s x then { s with cache:=s.cache.set g ((s.cache.getD g []).take ((s.cache.getD g []).length - Po.dZ s.cG.toNat (s.cache.getD g [])) ++ [x]),middle:=s.middle ++ (s.cache.getD g []).reverse.take (Po.dZ s.cG.toNat (s.cache.getD g [])) }
 else s
def cL (s:ai) (g:Nat) (x:Int):ai:=bh (iZ s g x) x fF
def fH (s:ai) (g:Nat):ai :=
 ah s g (if (aa s g).status=0∧(aa s g).token=true then { aa s g with token:=false } else if (aa s g).status=0 then { aa s g with status:=1 } else aa s g)
def ready (s:ai) (g:Nat):ai :=
 ah s g (if (aa s g).status=1 then { aa s g with status:=0 } else if (aa s g).status=0 then { aa s g with token:=true } else aa s g)
def pair (s:ai) (g:Nat) (i:Int):ai :=
 let x:=aa s g
 let o:=(su s i).g
 ah (ah s o.toNat { aa s o.toNat with bS:=x.t,wi:=g,c7:=(su s i).cs }) g { x with bS:=x.t,wi:=o }
def serve (s:ai) (g:Nat) (i:Int) (d:Bool):ai :=
 let o:=(su s i).g
 let s2:=bh (ah s o.toNat { aa s o.toNat with param:=i }) i { su s i with done:=d }
 ah s2 g { aa s2 g with an:=(aa s2 g).an ++ [o],hold:=-1 }
def an (s:ai) (g:Nat):ai:=if 0 < (aa s g).an.length then aT s g 17 else aT s g 18
def common (s:ai) (g:Nat):ai × Bool :=
 let x:=aa s g
 let o:=ag s g
 if x.place=4 then
  (if (tryLock s g o.ch).2=true then (if o.kind=6 then (aT (tryLock s g o.ch).1 g 21,true) else (aT (tryLock s g o.ch).1 g 5,true)) else (s,true))
 else if x.place=12 then (aT (free s o.ch) g 13,true)
 else if x.place=13 then (fH (aT s g 14) g,true)
 else if x.place=15 then (aT (ah (cL s g x.bt) g { x with bt:=-1 }) g 18,true)
 else if x.place=16 then (an (free s o.ch) g,true)
 else if x.place=17 then (an (ah (ready s (x.an.headD 0).toNat) g { x with an:=x.an.tail }) g,true)
 else (s,false)
def bG (s:ai) (g:Nat) (r:Md.ak) (p:Int):ai:=ah s g { aa s g with bS:=s.step,res:=r,place:=p }
def dA (v:Int) (ok:Bool):Md.ak:=⟨1,-1,v,ok,0⟩
def res (c:Int):Md.ak:=⟨c,-1,0,false,0⟩
def kP:Md.ak:=⟨1,-1,0,true,0⟩
def room (c:Cn):Bool:=if 0 < c.cap then decide ((c.buf.length:Int) < c.cap) else decide (0 < c.recv.length)
def oP (c:Cn):Bool:=if 0 < c.cap then decide (0 < c.buf.length) else decide (0 < c.send.length)
def fI (l:List Int) (x:Int):List Int:=l.filter (· != x)
def bE (s:ai) (i:Int):ai :=
 if aR s (su s i).ch=true then aH s (su s i).ch { cn s (su s i).ch with recv:=fI (cn s (su s i).ch).recv i,send:=fI (cn s (su s i).ch).send i } else s
def taken (s:ai) (g:Nat) (i cR hand:Int):ai :=
 if 0≤(su s i).cs then aT (ah s g { aa s g with hold:=i }) g cR
 else aT (pair (bE (ah s g { aa s g with hold:=i,t:=s.step }) i) g i) g hand
def cR (s:ai) (g:Nat) (back on:Int):ai :=
 let x:=aa s g
 let p:=(su s x.hold).g.toNat
 if (aa s p).br=true then ah (bE s x.hold) g { x with hold:=-1,place:=back }
 else aT (pair (ah (ah s g { x with t:=s.step }) p { aa s p with br:=true }) g x.hold) g on
def bt (s:ai) (g:Nat) (d:Su):ai :=
 if (bw s g).2.2=true then ah (bh (bw s g).1 (bw s g).2.1 d) g { aa s g with bt:=(bw s g).2.1,place:=11 }
 else ah (bw s g).1 g { aa s g with res:={ (aa s g).res with code:=6 },place:=16 }
def jO (s:ai) (g:Nat) (v:Int):ai :=
 let h:=(aa s g).hold
 let s1:=bE s h
 serve (bh s1 h { su s1 h with v:=v }) g h true
def fX (l:List Int) (room v:Int):List Int × Bool:=if room≤l.length then (l,false) else (l ++ [v],true)
def eW (l:List Int):List Int × Int × Bool:=if l.length=0 then (l,0,false) else (l.tail,l.headD 0,true)
def fj (l:List Int) (room v:Int):List Int × Int × Bool:=if (l.length:Int) < room∨l.length=0 then (l,0,false) else (l.tail ++ [v],l.headD 0,true)
def bH (s:ai) (g:Nat):ai × Bool :=
  let x:=aa s g
  let o:=ag s g
  let c:=cn s o.ch
  if o.kind≠2∧o.kind≠4 then (s,false)
  else if (common s g).2=true then ((common s g).1,true)
  else if aR s o.ch=false then (s,false)
  else if x.place=1 then (if room c=true then (aT s g 4,true) else (bG s g x.res 2,true))
  else if x.place=2 then (if c.closed=true then (ah s g { x with bS:=0,place:=4 },true) else (ah s g { x with res:={ x.res with code:=2 },place:=18 },true))
  else if x.place=5 then (if c.closed=true then (bG s g (res 3) 16,true) else (aT s g 6,true))
  else if x.place=6 then (if c.recv.length=0 then (aT s g 9,true) else (taken s g (c.recv.headD 0) 7 8,true))
  else if x.place=7 then (cR s g 6 8,true)
  else if x.place=8 then (ah (jO s g o.v) g { aa (jO s g o.v) g with res:=kP,place:=16 },true)
  else if x.place=9 then
    (if (fX c.buf c.cap o.v).2=true then (bG (aH s o.ch { c with buf:=(fX c.buf c.cap o.v).1 }) g kP 16,true)
     else if o.kind=4 then (bG s g (res 2) 16,true) else (aT s g 10,true))
  else if x.place=10 then (bt s g ⟨true,g,o.ch,-1,true,o.v,false⟩,true)
  else if x.place=11 then (ah (aH s o.ch { c with send:=c.send ++ [x.bt] }) g { x with fW:=s.step,place:=12 },true)
  else if x.place=14 then (ah s g { x with res:=if (su s x.param).done=true then kP else res 3,param:=-1,place:=15 },true)
  else (s,false)
def hand (s:ai) (ch i:Int):ai × Int :=
 let c:=cn s ch
 if c.cap=0 then (s,(su s i).v)
 else (aH s ch { c with buf:=(fj c.buf c.cap (su s i).v).1 },(fj c.buf c.cap (su s i).v).2.1)
def bF (s:ai) (g:Nat):ai × Bool :=
  let x:=aa s g
  let o:=ag s g
  let c:=cn s o.ch
  if o.kind≠3∧o.kind≠5 then (s,false)
  else if (common s g).2=true then ((common s g).1,true)
  else if aR s o.ch=false then (s,false)
  else if x.place=1 then (if oP c=true then (aT s g 4,true) else (bG s g x.res 2,true))
  else if x.place=2 then (if c.closed=true then (aT s g 3,true) else (ah s g { x with res:={ x.res with code:=2 },place:=18 },true))
  else if x.place=3 then (if oP c=true then (ah s g { x with bS:=0,place:=4 },true) else (bG s g (dA 0 false) 18,true))
  else if x.place=5 then
    (if c.closed=true∧c.buf.length=0 then (bG s g (dA 0 false) 16,true) else if c.closed=true then (aT s g 9,true) else (aT s g 6,true))
  else if x.place=6 then (if c.send.length=0 then (aT s g 9,true) else (taken s g (c.send.headD 0) 7 8,true))
  else if x.place=7 then (cR s g 6 8,true)
  else if x.place=8 then
    (let n:=hand (bE s x.hold) o.ch x.hold
     let n2:=serve n.1 g x.hold true
     (ah n2 g { aa n2 g with res:=dA n.2 true,place:=16 },true))
  else if x.place=9 then
    (if (eW c.buf).2.2=true then (bG (aH s o.ch { c with buf:=(eW c.buf).1 }) g (dA (eW c.buf).2.1 true) 16,true)
     else if o.kind=5 then (bG s g (res 2) 16,true) else (aT s g 10,true))
  else if x.place=10 then (bt s g ⟨true,g,o.ch,-1,false,0,false⟩,true)
  else if x.place=11 then (ah (aH s o.ch { c with recv:=c.recv ++ [x.bt] }) g { x with fW:=s.step,place:=12 },true)
  else if x.place=14 then (ah s g { x with res:=if (su s x.param).done=true then dA (su s x.param).v true else dA 0 false,param:=-1,place:=15 },true)
  else (s,false)
def gz (s:ai) (g:Nat):ai :=
 let i:=(aa s g).hold
 let s1:=bE (ah s g { aa s g with t:=s.step }) i
 let d:=su s1 i
 serve (ah s1 d.g.toNat { aa s1 d.g.toNat with bS:=(aa s1 g).t,c7:=d.cs }) g i false
def ju (s:ai) (g:Nat) (i:Int):ai :=
 let s1:=ah s g { aa s g with hold:=i }
 if 0≤(su s1 i).cs then aT s1 g 23 else gz s1 g
def j8 (s:ai) (g:Nat):ai :=
 let x:=aa s g
 let p:=(su s x.hold).g.toNat
 if (aa s p).br=true then ah (bE s x.hold) g { x with hold:=-1,place:=22 }
 else aT (gz (ah s p { aa s p with br:=true }) g) g 22
def c9 (s:ai) (g:Nat):ai × Bool :=
 let x:=aa s g
 let o:=ag s g
 let c:=cn s o.ch
 if o.kind≠6 then (s,false)
 else if (common s g).2=true then ((common s g).1,true)
 else if aR s o.ch=false then (s,false)
 else if x.place=21 then (if c.closed=true then (bG s g (res 4) 16,true) else (bG (aH s o.ch { c with closed:=true }) g kP 22,true))
 else if x.place=22 then
  (if 0 < c.recv.length then (ju s g (c.recv.headD 0),true) else if 0 < c.send.length then (ju s g (c.send.headD 0),true) else (aT s g 16,true))
 else if x.place=23 then (j8 s g,true)
 else (s,false)
def unlock (s:ai) (g:Nat) (p:Int):ai:=ah s g { aa s g with k:=(aa s g).aE.length,place:=p }
def dL (s:ai) (g:Nat) (r:Md.ak) (i:Int):ai :=
 let s1:=bG s g { r with cs:=i } 30
 unlock (ah s1 g { aa s1 g with c7:=i }) g 30
def aB (l:List Int) (k:Int):Int:=l.getD k.toNat 0
def lock (s:ai) (g:Nat) (p:Int):ai :=
 let x:=aa s g
 if (tryLock s g (aB x.aE x.k)).2=true then
  (if x.k + 1=x.aE.length then ah (tryLock s g (aB x.aE x.k)).1 g { x with k:=0,place:=p } else ah (tryLock s g (aB x.aE x.k)).1 g { x with k:=x.k + 1 })
 else s
def next (s:ai) (g:Nat) (p:Int):ai :=
 let x:=aa s g
 if x.k + 1=x.order.length then ah s g { x with k:=0,place:=p } else ah s g { x with k:=x.k + 1 }
def eT (s:ai) (g:Nat):ai :=
 let x:=aa s g
 if x.place=27 then ah s g { x with c7:=aB x.order x.k } else ah s g x
def E6:Pn.Cs:=⟨false,0,0⟩
def bT (o:Pn.Op) (i:Int):Pn.Cs:=o.cases.getD i.toNat E6
def gB (s:ai) (g:Nat) (i:Int) (k:Pn.Cs):ai × Bool :=
 let c:=cn s k.ch
 if c.closed=true then (dL s g ⟨3,0,0,false,0⟩ i,true)
 else if 0 < c.recv.length then (eT (taken s g (c.recv.headD 0) 26 27) g,true)
 else if (fX c.buf c.cap k.v).2=true then (dL (aH s k.ch { c with buf:=(fX c.buf c.cap k.v).1 }) g ⟨1,0,0,true,0⟩ i,true)
 else (s,false)
def gZ (s:ai) (g:Nat) (i:Int) (k:Pn.Cs):ai × Bool :=
 let c:=cn s k.ch
 if 0 < c.send.length then (eT (taken s g (c.send.headD 0) 26 27) g,true)
 else if (eW c.buf).2.2=true then (dL (aH s k.ch { c with buf:=(eW c.buf).1 }) g (dA (eW c.buf).2.1 true) i,true)
 else if c.closed=true then (dL s g (dA 0 false) i,true)
 else (s,false)
def iw (s:ai) (g:Nat) (o:Pn.Op):ai :=
 let x:=aa s g
 let i:=aB x.order x.k
 let k:=bT o i
 let r:=if k.send=true then gB s g i k else gZ s g i k
 if r.2=true then r.1
 else if x.k + 1 < x.order.length then next s g 25
 else if o.cT=true then dL s g ⟨2,0,0,false,0⟩ (-1)
 else next (ah s g { x with aq:=List.replicate o.cases.length (-1) }) g 28
def iy (s:ai) (g:Nat) (o:Pn.Op):ai :=
 let x:=aa s g
 let i:=aB x.order x.k
 let k:=bT o i
 let s1:=bE s x.hold
 let n:=if k.send=true then (bh s1 x.hold { su s1 x.hold with v:=k.v },(⟨1,i,0,true,0⟩:Md.ak)) else ((hand s1 k.ch x.hold).1,{ dA (hand s1 k.ch x.hold).2 true with cs:=i })
 let s2:=serve n.1 g x.hold true
 unlock (ah s2 g { aa s2 g with res:=n.2 }) g 30
def aL (s:ai) (g:Nat) (o:Pn.Op):ai :=
 let x:=aa s g
 let i:=aB x.order x.k
 let k:=bT o i
 if (bw s g).2.2=true then
  next (ah (bh (bw s g).1 (bw s g).2.1 ⟨true,g,k.ch,i,k.send,k.v,false⟩) g { x with aq:=x.aq.set i.toNat (bw s g).2.1 }) g 29
 else unlock (ah (bw s g).1 g { x with res:={ x.res with code:=6 } }) g 30
def ja (s:ai) (g:Nat) (o:Pn.Op):ai :=
 let x:=aa s g
 let i:=aB x.order x.k
 let k:=bT o i
 let c:=cn s k.ch
 let s1:=aH s k.ch (if k.send=true then { c with send:=c.send ++ [aB x.aq i] } else { c with recv:=c.recv ++ [aB x.aq i] })
 if x.k + 1 < x.order.length then next s1 g 29
 else unlock (ah s1 g { x with fW:=s1.step }) g 30
def cI (s:ai) (g:Nat):ai × Bool :=
 let x:=aa s g
 (ah (free s (aB x.aE (x.k - 1))) g { x with k:=x.k - 1 },decide (0 < x.k - 1))
def j9 (l:List Int):Bool:=l.any (fun x=>decide (0≤x))
def jP (s:ai) (g:Nat):ai :=
 let x:=aa s g
 let d:=su s x.param
 let r:Md.ak:=if d.done=true then { dA d.v true with cs:=d.cs } else { dA 0 false with cs:=d.cs }
 let r2:Md.ak:=if d.send=true∧d.done=true then { r with v:=0 } else if d.send=true then ⟨3,d.cs,0,false,0⟩ else r
 ah s g { x with res:=r2,param:=-1,k:=0,place:=31 }
def jb (s:ai) (g:Nat):ai :=
 let x:=aa s g
 let s1:=bE s (aB x.aq (aB x.order x.k))
 if x.k + 1 < x.order.length then next s1 g 32 else unlock s1 g 33
def iz (s:ai) (g:Nat):ai :=
 let x:=aa s g
 let i:=aB x.order x.k
 let s1:=if 0≤aB x.aq i then cL s g (aB x.aq i) else s
 if x.k + 1=x.order.length then an (next (ah s1 g { x with aq:=[] }) g 34) g
 else next (ah s1 g { x with aq:=x.aq.set i.toNat (-1) }) g 34
def bn (s:ai) (g:Nat):ai × Bool :=
  let x:=aa s g
  let o:=ag s g
  if o.kind≠9 then (s,false)
  else if x.place=24 then (lock s g 25,true)
  else if x.place=25 then (iw s g o,true)
  else if x.place=26 then (eT (cR s g 25 27) g,true)
  else if x.place=27 then (iy s g o,true)
  else if x.place=28 then (aL s g o,true)
  else if x.place=29 then (ja s g o,true)
  else if x.place=30 then
    (if (cI s g).2=true then ((cI s g).1,true) else if x.res.code=0 then (aT (cI s g).1 g 13,true)
     else if j9 x.aq=true then (aT (cI s g).1 g 34,true) else (an (cI s g).1 g,true))
  else if x.place=14 then (jP s g,true)
  else if x.place=31 then (lock s g 32,true)
  else if x.place=32 then (jb s g,true)
  else if x.place=33 then (if (cI s g).2=true then ((cI s g).1,true) else (aT (cI s g).1 g 34,true))
  else if x.place=34 then (iz s g,true)
  else if x.place=13∨x.place=17 then common s g
  else (s,false)
def never (s:ai) (g:Nat):ai:=fH (aT s g 19) g
def draw (l:List Int) (at_ n:Int):Int × Int:=if n < 1∨(l.length:Int)≤at_ then (0,at_) else ((aB l at_) % n,at_ + 1)
def drawn:ai→Nat→List Int × Int
 | s,0=>([],s.drawn)
 | s,n + 1=>((drawn s n).1 ++ [(draw s.cY (drawn s n).2 (n + 1)).1],(draw s.cY (drawn s n).2 (n + 1)).2)
def swap (l:List Int) (i j:Nat):List Int:=(l.set i (l.getD j 0)).set j (l.getD i 0)
def dx (ds:List Int):Nat→List Int
 | 0=>[]
 | n + 1=>swap (dx ds n ++ [(n:Int)]) (ds.getD n 0 % (n + 1)).toNat n
def insert (x:Int):List Int→List Int
 | []=>[x]
 | y :: l=>if y≤x then y :: insert x l else x :: y :: l
def sort (l:List Int):List Int:=l.foldl (fun acc x=>insert x acc) []
def fJ (acc:List Int) (x:Int):List Int:=if x≤0∨(0 < acc.length∧acc.getLastD 0=x) then acc else acc ++ [x]
def aE (l:List Int):List Int:=(sort l).foldl fJ []
def iA (s:ai) (g:Nat) (o:Pn.Op):ai :=
 let n:=o.cases.length
 let s1:={ s with drawn:=(drawn s n).2 }
 let ord:=dx (drawn s n).1 n
 let gQ:=ord.filter (fun i=>aR s (bT o i).ch)
 let ids:=gQ.map (fun i=>(bT o i).ch)
 let s2:=ah s1 g { aa s g with order:=(aa s g).order ++ gQ,aE:=aE ids,place:=24 }
 if 0 < ids.length then s2 else if o.cT=true then bG s2 g (res 2) 18 else never s2 g
def iB (s:ai) (g:Nat):ai :=
 let x:=aa s g
 if (x.ops.length:Int)≤x.at_ then ah s g { x with status:=2,token:=false }
 else
  let s1:=clear s g
  let s2:=ah s1 g { aa s1 g with call:=s1.step }
  let o:=ag s2 g
  let m:=aR s2 o.ch
  if o.kind=1∨o.kind=7∨o.kind=8 then aT s2 g 20
  else if o.kind=2∨o.kind=3 then (if m=true then aT s2 g 4 else never s2 g)
  else if o.kind=4∨o.kind=5 then (if m=true then aT s2 g 1 else bG s2 g (res 2) 18)
  else if o.kind=6 then (if m=true then aT s2 g 4 else bG s2 g (res 5) 18)
  else iA s2 g o
def iC (s:ai) (g:Nat):ai :=
 let o:=ag s g
 if o.kind=1∧8≤s.aK.length then bG s g (res 7) 18
 else if o.kind=1 then bG { s with aK:=s.aK ++ [⟨o.n,[],false,-1,[],[]⟩] } g ⟨1,-1,0,true,s.aK.length + 1⟩ 18
 else if aR s o.ch=true∧o.kind=7 then bG s g ⟨1,-1,0,true,(cn s o.ch).buf.length⟩ 18
 else if aR s o.ch=true then bG s g ⟨1,-1,0,true,(cn s o.ch).cap⟩ 18
 else bG s g ⟨1,-1,0,true,0⟩ 18
def mark (s:ai) (g:Nat) (re:Int):Mk :=
 let x:=aa s g
 ⟨g,x.at_,x.call,x.fW,x.bS,x.wi,x.c7,re,x.res⟩
def answer (s:ai) (g:Nat):ai :=
 let s1:={ s with done:=s.done ++ [mark s g s.step] }
 clear (ah s1 g { aa s1 g with at_:=(aa s1 g).at_ + 1,place:=0 }) g
def gC (s:ai) (g:Nat):ai × Bool :=
 let x:=aa s g
 if x.place=0 then (iB s g,true) else if x.place=20 then (iC s g,true) else if x.place=18 then (answer s g,true) else (s,false)
def running (s:ai):List Int:=((List.range s.gs.length).filter (fun g=>decide ((aa s g).status=0))).map Int.ofNat
def one (s:ai) (g:Int):ai × Bool :=
 if g < 0∨(s.gs.length:Int)≤g∨(aa s g.toNat).status≠0 then (s,false)
 else
  let n:={ s with step:=s.step + 1 }
  if (gC n g.toNat).2=true then ((gC n g.toNat).1,true)
  else if (bH n g.toNat).2=true then ((bH n g.toNat).1,true)
  else if (bF n g.toNat).2=true then ((bF n g.toNat).1,true)
  else if (c9 n g.toNat).2=true then ((c9 n g.toNat).1,true)
  else if (bn n g.toNat).2=true then ((bn n g.toNat).1,true)
  else (s,false)
def pick (s:ai) (p:Int):Int:=if (running s).length=0 then -1 else aB (running s) (p % ((running s).length:Int))
def runs (s:ai):List Int→ai × Int
 | []=>(s,0)
 | p :: r=>if pick s p < 0 then (s,0) else ((runs (one s (pick s p)).1 r).1,(runs (one s (pick s p)).1 r).2 + 1)
end Sx
namespace Fl
open Sx Go.Proofs.Tryz
instance:eD prog 2 1:={}
instance:fU prog 2:={}
instance:aW prog 2 [.int .i64 0]:={}
instance:iI prog 2 .i64:={}
instance:eD prog 3 1:={}
instance:fU prog 3:={}
instance:aW prog 3 [.int .i64 0]:={}
instance:iI prog 3 .i64:={}
instance:eD prog 4 1:={}
instance:fU prog 4:={}
instance:aW prog 4 [.bool false]:={}
instance:wC prog 4:={}
instance:aW prog 5 [.int .u8 0]:={}
instance:iI prog 5 .u8:={}
instance:aW prog 6 [.int .u8 0]:={}
instance:iI prog 6 .u8:={}
instance:aW prog 7 [.int .i64 0,.int .i64 0,.bool false,.int .u8 0]:={}
instance:aW prog 8 [.int .i64 0,.int .i64 0,.bool false,.int .u8 0]:={}
instance:aW prog 9 [.string ⟨#[]⟩]:={}
instance:aW prog 10 [.string ⟨#[]⟩]:={}
instance:aW prog 11 [.string ⟨#[]⟩]:={}
instance:aW prog 12 [.int .u64 0]:={}
instance:iI prog 12 .u64:={}
instance:aW prog 13 [.string ⟨#[]⟩,.int .u64 0]:={}
instance:aW prog 14 [.string ⟨#[]⟩,.int .u64 0]:={}
instance:aW prog 15 [.pointer none]:={}
instance:aW prog 16 [.pointer none]:={}
instance:aW prog 17 [.pointer none]:={}
instance:aW prog 18 [.pointer none]:={}
instance:aW prog 19 [.pointer none]:={}
instance:aW prog 21 [.int .i32 0]:={}
instance:iI prog 21 .i32:={}
instance:fU prog 22:={}
instance:aW prog 22 [.slice none 0 0]:={}
instance:ez prog 22 53 1:={}
instance:fD prog 22 53 1 24 (.slice none 0 0):=⟨⟨by kernel_rfl,by kernel_rfl,rfl,by decide,by decide⟩⟩
instance:aW prog 23 [.int .i64 0,.int .i64 0]:={}
instance:gL prog 24 2:={}
instance:aW prog 24 [.int .i64 0,.int .i64 0]:={}
instance:bK prog 24 0 0:={}
instance:bK prog 24 1 1:={}
instance:fU prog 25:={}
instance:aW prog 25 [.slice none 0 0]:={}
instance:ez prog 25 109 1:={}
instance:fD prog 25 109 1 2 (.int .u16 0):=⟨⟨by kernel_rfl,by kernel_rfl,rfl,by decide,by decide⟩⟩
instance:aW prog 26 [.slice none 0 0,.int .i64 0,.int .i64 0,.slice none 0 0]:={}
instance:gL prog 27 4:={}
instance:aW prog 27 [.slice none 0 0,.int .i64 0,.int .i64 0,.slice none 0 0]:={}
instance:bK prog 27 0 0:={}
instance:bK prog 27 1 1:={}
instance:bK prog 27 2 3:={}
instance:eD prog 28 1:={}
instance:fU prog 28:={}
instance:aW prog 28 [.slice none 0 0]:={}
instance:ez prog 28 3 1:={}
instance:fD prog 28 3 1 8 (.int .i64 0):=⟨⟨by kernel_rfl,by kernel_rfl,rfl,by decide,by decide⟩⟩
instance:eD prog 30 1:={}
instance:fU prog 30:={}
instance:aW prog 30 [.slice none 0 0]:={}
instance:ez prog 30 55 25:={}
instance:fD prog 30 55 25 280 (.agg #[.slice none 0 0,.int .i64 0,.int .i64 0,.int .i64 0,.bool false,.int .i64 0,.bool false,.int .i64 0,.int .i64 0,.int .i64 0,.int .i64 0,.int .i64 0,.int .i64 0,.int .i64 0,.int .i64 0,.int .i64 0,.int .i64 0,.int .i64 0,.bool false,.int .i64 0,.slice none 0 0,.slice none 0 0,.slice none 0 0,.slice none 0 0,.int .i64 0]):=⟨⟨by kernel_rfl,by kernel_rfl,rfl,by decide,by decide⟩⟩
instance:eD prog 31 1:={}
instance:fU prog 31:={}
instance:aW prog 31 [.slice none 0 0]:={}
instance:ez prog 31 97 6:={}
instance:fD prog 31 97 6 96 (.agg #[.int .i64 0,.slice none 0 0,.bool false,.int .i64 0,.slice none 0 0,.slice none 0 0]):=⟨⟨by kernel_rfl,by kernel_rfl,rfl,by decide,by decide⟩⟩
instance:eD prog 32 1:={}
instance:fU prog 32:={}
instance:aW prog 32 [.slice none 0 0]:={}
instance:ez prog 32 60 7:={}
instance:fD prog 32 60 7 56 (.agg #[.bool false,.int .i64 0,.int .i64 0,.int .i64 0,.bool false,.int .i64 0,.bool false]):=⟨⟨by kernel_rfl,by kernel_rfl,rfl,by decide,by decide⟩⟩
instance:eD prog 33 1:={}
instance:fU prog 33:={}
instance:aW prog 33 [.slice none 0 0]:={}
instance:ez prog 33 28 1:={}
instance:fD prog 33 28 1 24 (.slice none 0 0):=⟨⟨by kernel_rfl,by kernel_rfl,rfl,by decide,by decide⟩⟩
instance:eD prog 34 1:={}
instance:fU prog 34:={}
instance:aW prog 34 [.slice none 0 0]:={}
instance:ez prog 34 46 13:={}
instance:fD prog 34 46 13 104 (.agg #[.int .i64 0,.int .i64 0,.int .i64 0,.int .i64 0,.int .i64 0,.int .i64 0,.int .i64 0,.int .i64 0,.int .i64 0,.int .i64 0,.int .i64 0,.bool false,.int .i64 0]):=⟨⟨by kernel_rfl,by kernel_rfl,rfl,by decide,by decide⟩⟩
instance:aW prog 35 [.int .i64 0,.int .i64 0,.int .i64 0,.slice none 0 0,.slice none 0 0,.slice none 0 0,.slice none 0 0,.slice none 0 0,.int .i64 0,.slice none 0 0,.int .i64 0,.slice none 0 0]:={}
instance:eD prog 36 12:={}
instance:gL prog 36 12:={}
instance:aW prog 36 [.int .i64 0,.int .i64 0,.int .i64 0,.slice none 0 0,.slice none 0 0,.slice none 0 0,.slice none 0 0,.slice none 0 0,.int .i64 0,.slice none 0 0,.int .i64 0,.slice none 0 0]:={}
instance:bK prog 36 0 0:={}
instance:bK prog 36 1 2:={}
instance:bK prog 36 2 3:={}
instance:bK prog 36 3 4:={}
instance:bK prog 36 4 5:={}
instance:bK prog 36 5 6:={}
instance:bK prog 36 6 7:={}
instance:bK prog 36 7 8:={}
instance:bK prog 36 8 9:={}
instance:bK prog 36 9 10:={}
instance:bK prog 36 10 11:={}
instance:j6 prog 36 [(0,2),(2,1),(3,1),(4,1),(5,1),(6,1),(7,1),(8,1),(9,1),(10,1),(11,1)]:={}
instance:aW prog 43 [.int .i64 0,.int .i64 0,.int .i64 0,.bool false,.int .i64 0]:={}
instance:eD prog 44 5:={}
instance:gL prog 44 5:={}
instance:aW prog 44 [.int .i64 0,.int .i64 0,.int .i64 0,.bool false,.int .i64 0]:={}
instance:bK prog 44 0 0:={}
instance:bK prog 44 1 1:={}
instance:bK prog 44 2 2:={}
instance:bK prog 44 4 4:={}
instance:j6 prog 44 [(0,1),(1,1),(2,1),(3,1),(4,1)]:={}
instance:aW prog 45 [.int .i64 0,.int .i64 0,.int .i64 0,.int .i64 0,.int .i64 0,.int .i64 0,.int .i64 0,.int .i64 0,.int .i64 0,.int .i64 0,.int .i64 0,.bool false,.int .i64 0]:={}
instance:eD prog 46 13:={}
instance:gL prog 46 13:={}
instance:aW prog 46 [.int .i64 0,.int .i64 0,.int .i64 0,.int .i64 0,.int .i64 0,.int .i64 0,.int .i64 0,.int .i64 0,.int .i64 0,.int .i64 0,.int .i64 0,.bool false,.int .i64 0]:={}
instance:bK prog 46 0 0:={}
instance:bK prog 46 1 1:={}
instance:bK prog 46 2 2:={}
instance:bK prog 46 3 3:={}
instance:bK prog 46 4 4:={}
instance:bK prog 46 7 7:={}
instance:bK prog 46 8 8:={}
instance:j6 prog 46 [(0,1),(1,1),(2,1),(3,1),(4,1),(5,1),(6,1),(7,1),(8,5)]:={}
instance:aW prog 49 [.pointer none]:={}
instance:fU prog 53:={}
instance:aW prog 53 [.slice none 0 0]:={}
instance:ez prog 53 58 6:={}
instance:fD prog 53 58 6 64 (.agg #[.int .i64 0,.int .i64 0,.int .i64 0,.int .i64 0,.slice none 0 0,.bool false]):=⟨⟨by kernel_rfl,by kernel_rfl,rfl,by decide,by decide⟩⟩
instance:aW prog 54 [.slice none 0 0,.int .i64 0,.int .i64 0,.int .i64 0,.bool false,.int .i64 0,.bool false,.int .i64 0,.int .i64 0,.int .i64 0,.int .i64 0,.int .i64 0,.int .i64 0,.int .i64 0,.int .i64 0,.int .i64 0,.int .i64 0,.int .i64 0,.bool false,.int .i64 0,.slice none 0 0,.slice none 0 0,.slice none 0 0,.slice none 0 0,.int .i64 0]:={}
instance:eD prog 55 25:={}
instance:gL prog 55 25:={}
instance:aW prog 55 [.slice none 0 0,.int .i64 0,.int .i64 0,.int .i64 0,.bool false,.int .i64 0,.bool false,.int .i64 0,.int .i64 0,.int .i64 0,.int .i64 0,.int .i64 0,.int .i64 0,.int .i64 0,.int .i64 0,.int .i64 0,.int .i64 0,.int .i64 0,.bool false,.int .i64 0,.slice none 0 0,.slice none 0 0,.slice none 0 0,.slice none 0 0,.int .i64 0]:={}
instance:bK prog 55 0 0:={}
instance:bK prog 55 1 1:={}
instance:bK prog 55 2 2:={}
instance:bK prog 55 3 3:={}
instance:bK prog 55 4 4:={}
instance:bK prog 55 5 5:={}
instance:bK prog 55 6 6:={}
instance:bK prog 55 7 7:={}
instance:bK prog 55 8 8:={}
instance:bK prog 55 9 9:={}
instance:bK prog 55 10 10:={}
instance:bK prog 55 11 11:={}
instance:bK prog 55 12 12:={}
instance:bK prog 55 13 13:={}
instance:bK prog 55 14 14:={}
instance:bK prog 55 15 15:={}
instance:bK prog 55 16 20:={}
instance:bK prog 55 17 21:={}
instance:bK prog 55 18 22:={}
instance:bK prog 55 19 23:={}
instance:bK prog 55 20 24:={}
instance:j6 prog 55 [(0,1),(1,1),(2,1),(3,1),(4,1),(5,1),(6,1),(7,1),(8,1),(9,1),(10,1),(11,1),(12,1),(13,1),(14,1),(15,5),(20,1),(21,1),(22,1),(23,1),(24,1)]:={}
instance:fU prog 56:={}
instance:aW prog 56 [.slice none 0 0]:={}
instance:ez prog 56 165 3:={}
instance:fD prog 56 165 3 24 (.agg #[.bool false,.int .i64 0,.int .i64 0]):=⟨⟨by kernel_rfl,by kernel_rfl,rfl,by decide,by decide⟩⟩
instance:aW prog 57 [.int .i64 0,.int .i64 0,.int .i64 0,.int .i64 0,.slice none 0 0,.bool false]:={}
instance:eD prog 58 6:={}
instance:gL prog 58 6:={}
instance:aW prog 58 [.int .i64 0,.int .i64 0,.int .i64 0,.int .i64 0,.slice none 0 0,.bool false]:={}
instance:bK prog 58 0 0:={}
instance:bK prog 58 1 1:={}
instance:bK prog 58 2 2:={}
instance:bK prog 58 3 3:={}
instance:bK prog 58 4 4:={}
instance:bK prog 58 5 5:={}
instance:j6 prog 58 [(0,1),(1,1),(2,1),(3,1),(4,1),(5,1)]:={}
instance:aW prog 59 [.bool false,.int .i64 0,.int .i64 0,.int .i64 0,.bool false,.int .i64 0,.bool false]:={}
instance:eD prog 60 7:={}
instance:gL prog 60 7:={}
instance:aW prog 60 [.bool false,.int .i64 0,.int .i64 0,.int .i64 0,.bool false,.int .i64 0,.bool false]:={}
instance:bK prog 60 1 1:={}
instance:bK prog 60 2 2:={}
instance:bK prog 60 3 3:={}
instance:bK prog 60 4 4:={}
instance:bK prog 60 5 5:={}
instance:bK prog 60 6 6:={}
instance:j6 prog 60 [(0,1),(1,1),(2,1),(3,1),(4,1),(5,1),(6,1)]:={}
instance:aW prog 61 [.slice none 0 0]:={}
instance:ez prog 61 111 3:={}
instance:fD prog 61 111 3 24 (.agg #[.int .i64 0,.int .i64 0,.int .i64 0]):=⟨⟨by kernel_rfl,by kernel_rfl,rfl,by decide,by decide⟩⟩
instance:aW prog 63 [.slice none 0 0]:={}
instance:ez prog 63 115 9:={}
instance:fD prog 63 115 9 72 (.agg #[.int .i64 0,.int .i64 0,.int .i64 0,.bool false,.int .i64 0,.int .i64 0,.int .i64 0,.bool false,.int .i64 0]):=⟨⟨by kernel_rfl,by kernel_rfl,rfl,by decide,by decide⟩⟩
instance:aW prog 73 [.int .i64 0]:={}
instance:iI prog 73 .i64:={}
instance:aW prog 76 [.pointer none]:={}
instance:aW prog 78 [.pointer none]:={}
instance:aW prog 80 [.pointer none]:={}
instance:aW prog 82 [.slice none 0 0]:={}
instance:fD prog 82 104 1 8 (.pointer none):=⟨⟨by kernel_rfl,by kernel_rfl,rfl,by decide,by decide⟩⟩
instance:aW prog 83 [.slice none 0 0]:={}
instance:fD prog 83 4 1 1 (.bool false):=⟨⟨by kernel_rfl,by kernel_rfl,rfl,by decide,by decide⟩⟩
instance:aW prog 84 [.pointer none]:={}
instance:aW prog 85 [.pointer none]:={}
instance:aW prog 86 [.int .i64 0,.int .i64 0,.int .i64 0,.slice none 0 0,.pointer none,.slice none 0 0,.slice none 0 0,.pointer none,.pointer none,.slice none 0 0,.pointer none,.pointer none,.slice none 0 0,.slice none 0 0]:={}
instance:aW prog 87 [.int .i64 0,.int .i64 0,.int .i64 0,.slice none 0 0,.pointer none,.slice none 0 0,.slice none 0 0,.pointer none,.pointer none,.slice none 0 0,.pointer none,.pointer none,.slice none 0 0,.slice none 0 0]:={}
instance:eD prog 95 1:={}
instance:fU prog 95:={}
instance:aW prog 95 [.slice none 0 0]:={}
instance:ez prog 95 2 1:={}
instance:fD prog 95 2 1 8 (.int .i64 0):=⟨⟨by kernel_rfl,by kernel_rfl,rfl,by decide,by decide⟩⟩
instance:aW prog 96 [.int .i64 0,.slice none 0 0,.bool false,.int .i64 0,.slice none 0 0,.slice none 0 0]:={}
instance:eD prog 97 6:={}
instance:gL prog 97 6:={}
instance:aW prog 97 [.int .i64 0,.slice none 0 0,.bool false,.int .i64 0,.slice none 0 0,.slice none 0 0]:={}
instance:bK prog 97 0 0:={}
instance:bK prog 97 1 1:={}
instance:bK prog 97 2 2:={}
instance:bK prog 97 3 3:={}
instance:bK prog 97 4 4:={}
instance:bK prog 97 5 5:={}
instance:j6 prog 97 [(0,1),(1,1),(2,1),(3,1),(4,1),(5,1)]:={}
instance:aW prog 104 [.pointer none]:={}
instance:fU prog 109:={}
instance:aW prog 109 [.int .u16 0]:={}
instance:iI prog 109 .u16:={}
instance:aW prog 110 [.int .i64 0,.int .i64 0,.int .i64 0]:={}
instance:eD prog 111 3:={}
instance:gL prog 111 3:={}
instance:aW prog 111 [.int .i64 0,.int .i64 0,.int .i64 0]:={}
instance:bK prog 111 0 0:={}
instance:j6 prog 111 [(0,1),(1,1),(2,1)]:={}
instance:aW prog 114 [.int .i64 0,.int .i64 0,.int .i64 0,.bool false,.int .i64 0,.int .i64 0,.int .i64 0,.bool false,.int .i64 0]:={}
instance:eD prog 115 9:={}
instance:gL prog 115 9:={}
instance:aW prog 115 [.int .i64 0,.int .i64 0,.int .i64 0,.bool false,.int .i64 0,.int .i64 0,.int .i64 0,.bool false,.int .i64 0]:={}
instance:bK prog 115 0 0:={}
instance:j6 prog 115 [(0,1),(1,1),(2,1),(3,1),(4,5)]:={}
instance:aW prog 126 [.slice none 0 0]:={}
instance:fD prog 126 145 2 16 (.agg #[.int .i64 0,.bool false]):=⟨⟨by kernel_rfl,by kernel_rfl,rfl,by decide,by decide⟩⟩
instance:aW prog 127 [.slice none 0 0]:={}
instance:aW prog 128 [.slice none 0 0]:={}
instance:aW prog 129 [.slice none 0 0]:={}
instance:aW prog 130 [.slice none 0 0]:={}
instance:aW prog 131 [.slice none 0 0,.int .i64 0]:={}
instance:aW prog 132 [.slice none 0 0,.int .i64 0]:={}
instance:aW prog 133 [.slice none 0 0]:={}
instance:fD prog 133 138 3 24 (.agg #[.int .i64 0,.int .i64 0,.int .i64 0]):=⟨⟨by kernel_rfl,by kernel_rfl,rfl,by decide,by decide⟩⟩
instance:aW prog 134 [.slice none 0 0]:={}
instance:fD prog 134 140 3 24 (.agg #[.int .i64 0,.int .i64 0,.int .i64 0]):=⟨⟨by kernel_rfl,by kernel_rfl,rfl,by decide,by decide⟩⟩
instance:aW prog 135 [.slice none 0 0,.slice none 0 0]:={}
instance:aW prog 136 [.slice none 0 0,.slice none 0 0]:={}
instance:aW prog 137 [.int .i64 0,.int .i64 0,.int .i64 0]:={}
instance:aW prog 138 [.int .i64 0,.int .i64 0,.int .i64 0]:={}
instance:aW prog 139 [.int .i64 0,.int .i64 0,.int .i64 0]:={}
instance:aW prog 140 [.int .i64 0,.int .i64 0,.int .i64 0]:={}
instance:aW prog 141 [.int .i64 0,.int .i64 0,.slice none 0 0,.slice none 0 0,.int .i64 0,.slice none 0 0]:={}
instance:aW prog 142 [.int .i64 0,.int .i64 0,.slice none 0 0,.slice none 0 0,.int .i64 0,.slice none 0 0]:={}
instance:aW prog 144 [.int .i64 0,.bool false]:={}
instance:aW prog 145 [.int .i64 0,.bool false]:={}
instance:aW prog 149 [.slice none 0 0,.int .i64 0,.int .i64 0]:={}
instance:aW prog 150 [.slice none 0 0,.int .i64 0,.int .i64 0]:={}
instance:aW prog 159 [.pointer none]:={}
instance:aW prog 160 [.pointer none]:={}
instance:aW prog 164 [.bool false,.int .i64 0,.int .i64 0]:={}
instance:eD prog 165 3:={}
instance:gL prog 165 3:={}
instance:aW prog 165 [.bool false,.int .i64 0,.int .i64 0]:={}
instance:bK prog 165 0 0:={}
instance:bK prog 165 1 1:={}
instance:bK prog 165 2 2:={}
instance:aW prog 187 [.int .u64 0]:={}
instance:iI prog 187 .u64:={}
instance:aW prog 203 [.int .i64 0,.int .i64 0,.slice none 0 0,.slice none 0 0,.int .i64 0]:={}
instance:eD prog 204 5:={}
instance:gL prog 204 5:={}
instance:aW prog 204 [.int .i64 0,.int .i64 0,.slice none 0 0,.slice none 0 0,.int .i64 0]:={}
instance:bK prog 204 0 0:={}
instance:bK prog 204 1 1:={}
instance:bK prog 204 2 2:={}
instance:bK prog 204 3 3:={}
instance:bK prog 204 4 4:={}
instance:j6 prog 204 [(0,1),(1,1),(2,1),(3,1),(4,1)]:={}
instance:aW prog 216 [.pointer none,.pointer none,.pointer none,.string ⟨#[]⟩]:={}
instance:aW prog 217 [.pointer none,.pointer none,.pointer none,.string ⟨#[]⟩]:={}
instance:aW prog 218 []:={}
instance:aW prog 219 []:={}
instance:aW prog 220 []:={}
instance:aW prog 221 [.int .u32 0]:={}
instance:iI prog 221 .u32:={}
instance:aW prog 222 [.int .u8 0]:={}
instance:iI prog 222 .u8:={}
instance:aW prog 223 [.int .u8 0]:={}
instance:iI prog 223 .u8:={}
instance:aW prog 225 [.pointer none]:={}
instance:aW prog 226 [.int .i32 0]:={}
instance:iI prog 226 .i32:={}
instance:aW prog 227 [.int .i32 0]:={}
instance:iI prog 227 .i32:={}
instance:aW prog 228 [.int .u64 0,.int .u64 0,.int .u32 0,.int .u8 0,.int .u8 0,.int .u8 0,.int .u8 0,.nilFunc,.pointer none,.int .i32 0,.int .i32 0]:={}
instance:aW prog 229 [.int .u64 0,.int .u64 0,.int .u32 0,.int .u8 0,.int .u8 0,.int .u8 0,.int .u8 0,.nilFunc,.pointer none,.int .i32 0,.int .i32 0]:={}
instance:aS prog 6:={}
instance:aS prog 7:={}
instance:aS prog 8:={}
instance:aS prog 9:={}
instance:aS prog 10:={}
instance:aS prog 17:={}
instance:aS prog 18:={}
instance:aS prog 19:={}
instance:aS prog 20:={}
instance:aS prog 21:={}
instance:aS prog 22:={}
instance:aS prog 23:={}
instance:aS prog 24:={}
instance:aS prog 25:={}
instance:aS prog 26:={}
instance:aS prog 52:={}
instance:aS prog 53:={}
instance:aS prog 54:={}
instance:aS prog 55:={}
instance:aS prog 56:={}
instance:aS prog 57:={}
instance:aS prog 58:={}
instance:aS prog 59:={}
instance:aS prog 60:={}
instance:aS prog 61:={}
instance:aS prog 62:={}
instance:aS prog 63:={}
instance:aS prog 78:={}
instance:aS prog 79:={}
instance:aS prog 80:={}
instance:aS prog 81:={}
instance:aS prog 83:={}
instance:aS prog 84:={}
instance:aS prog 85:={}
instance:aS prog 86:={}
instance:aS prog 87:={}
instance:aS prog 88:={}
instance:aS prog 89:={}
instance:aS prog 94:={}
instance:aS prog 95:={}
instance:aS prog 98:={}
instance:aS prog 99:={}
instance:aS prog 100:={}
instance:aS prog 101:={}
instance:aS prog 102:={}
instance:aS prog 103:={}
instance:aS prog 104:={}
instance:aS prog 105:={}
instance:aS prog 106:={}
instance:aS prog 107:={}
instance:aS prog 108:={}
instance:aS prog 109:={}
instance:aS prog 110:={}
instance:aS prog 111:={}
instance:aS prog 112:={}
instance:aS prog 113:={}
instance:aS prog 114:={}
instance:aS prog 115:={}
instance:aS prog 116:={}
instance:aS prog 117:={}
instance:aS prog 118:={}
instance:aS prog 119:={}
instance:aS prog 120:={}
instance:aS prog 121:={}
instance:aS prog 122:={}
instance:aS prog 123:={}
instance:aS prog 124:={}
instance:aS prog 125:={}
instance:aS prog 126:={}
instance:aS prog 127:={}
instance:aS prog 128:={}
instance:aS prog 129:={}
instance:aS prog 130:={}
instance:aS prog 131:={}
instance:aS prog 132:={}
instance:aS prog 133:={}
instance:aS prog 134:={}
instance:aS prog 138:={}
instance:aS prog 139:={}
instance:aS prog 140:={}
instance:aS prog 141:={}
instance:aS prog 142:={}
instance:aS prog 143:={}
instance:aS prog 144:={}
instance:aS prog 145:={}
instance:aS prog 146:={}
instance:aS prog 147:={}
instance:aS prog 148:={}
instance:aS prog 149:={}
instance:aS prog 150:={}
instance:aS prog 151:={}
instance:aS prog 152:={}
instance:aS prog 153:={}
instance:aS prog 154:={}
instance:aS prog 155:={}
instance:aS prog 156:={}
instance:aS prog 157:={}
instance:aS prog 158:={}
instance:aS prog 159:={}
instance:aS prog 160:={}
instance:aS prog 161:={}
instance:aS prog 162:={}
instance:aS prog 163:={}
instance:aS prog 164:={}
instance:aS prog 165:={}
instance:aS prog 166:={}
instance:aS prog 167:={}
instance:aS prog 168:={}
instance:aS prog 169:={}
instance:aS prog 170:={}
instance:aS prog 171:={}
instance:aS prog 172:={}
instance:aS prog 173:={}
instance:aS prog 174:={}
instance:aS prog 175:={}
instance:aS prog 176:={}
instance:aS prog 177:={}
end Fl
open Go.RowKit
namespace Fl
open Sx Go.Proofs.Tryz
def nI (n:Int):A:=.v (.int .i64 n)
def bI (b:Bool):A:=.v (.bool b)
def ints (l:List Int):A:=.r 1 (l.map fun n=>[nI n])
def nE (c:Pn.Cs):List A:=[bI c.send,nI c.ch,nI c.v]
def gR (o:Pn.Op):List A:=[nI o.kind,nI o.ch,nI o.n,nI o.v,.r 3 (o.cases.map nE),bI o.cT]
def qd (r:Md.ak):List A:=[nI r.code,nI r.cs,nI r.v,bI r.ok,nI r.n]
def eG (g:Gr):List A :=
  [.r 6 (g.ops.map gR),nI g.at_,nI g.place,nI g.status,bI g.token,nI g.call,bI g.br,nI g.param,nI g.bt,nI g.hold,nI g.t,nI g.fW,nI g.bS,nI g.wi,nI g.c7,
   nI g.res.code,nI g.res.cs,nI g.res.v,bI g.res.ok,nI g.res.n,ints g.order,ints g.aE,ints g.aq,ints g.an,nI g.k]
def eC (c:Cn):List A:=[nI c.cap,ints c.buf,bI c.closed,nI c.lock,ints c.recv,ints c.send]
def eS (s:Su):List A:=[bI s.live,nI s.g,nI s.ch,nI s.cs,bI s.send,nI s.v,bI s.done]
def eM (m:Mk):List A:=[nI m.g,nI m.op,nI m.call,nI m.fW,nI m.bS,nI m.wi,nI m.c7,nI m.re,nI m.res.code,nI m.res.cs,nI m.res.v,bI m.res.ok,nI m.res.n]
def aC (s:ai):List A :=
 [nI s.eV,nI s.cG,nI s.step,.r 25 (s.gs.map eG),.r 6 (s.aK.map eC),.r 7 (s.aL.map eS),.r 1 (s.cache.map fun l=>[ints l]),ints s.middle,nI s.fresh,.r 1 (s.cY.map fun n=>[.v (.int .u16 n)]),nI s.drawn,.r 13 (s.done.map eM)]
theorem jr.snoc {l:List Int} {a:Int}:jr (.r 1 (([] ++ l.map fun n=>[nI n]) ++ [[nI a]])) (ints (l ++ [a])):=by
 have:([] ++ l.map fun n=>[nI n]) ++ [[nI a]]=(l ++ [a]).map fun n=>[nI n]:=by simp
 rw [this];exact .refl
theorem jr.clone {l:List Int}:jr (.r 1 ([] ++ l.map fun n=>[nI n])) (ints l):=by
 rw [List.nil_append];exact .refl
end Fl
open Go.RowKit
namespace Fl
open Sx Go.Proofs.Tryz
theorem at_map {α β:Type} {l:List α} {h:α→β} {k:Nat} {a:α} (e:l[k]?=some a):(l.map h)[k]?=some (h a):=by rw [List.getElem?_map,e];rfl
theorem J.lN {P:Program} {c:Cx} {k:List Item} {f:Fm} {L L1 L2:List ak} (i j n:Nat) {v:Value} {e:TypeId} {sz:Nat} {ll:List (List A)} {b:Nat} {B:TypeId} {cs:List A} [st:jZ L j (.box b B (cs.set n (.r sz ll))) L1] [er:jo L1 i L2] (hi:L[i]?=some (.row v e sz ll)) (hj:L[j]?=some (.box b B cs)) (hc:cs[n]?=some (.v v)) (h:J P c k f L2):J P c k f L :=
 J.pY i j n hi hj hc (by rw [st.h,er.h];exact h)
def qf:List A:=vs [.int .i64 0,.int .i64 0,.int .i64 0,.slice none 0 0,.slice none 0 0,.slice none 0 0,.slice none 0 0,.slice none 0 0,.int .i64 0,.slice none 0 0,.int .i64 0,.slice none 0 0]
def uI (l:List Int):A:=.r 1 (l.map fun n=>[.v (.int .u16 n)])
theorem E7 {l:List Int} {k:Int} (h0:0≤k) (h:k < l.length):(l.map fun n=>[A.v (.int .u16 n)])[k.toNat]?=some [.v (.int .u16 (aB l k))]:=by
 have:k.toNat < l.length:=by omega
 refine at_map ?_;unfold aB;rw [List.getElem?_eq_getElem this,List.getD_eq_getElem?_getD,List.getElem?_eq_getElem this];rfl
theorem nF {l:List Int} {k:Int} (h0:0≤k) (h:k < l.length):aB l k∈l:=by
 have:k.toNat < l.length:=by omega
 unfold aB;rw [List.getD_eq_getElem?_getD,List.getElem?_eq_getElem this];exact List.getElem_mem _
end Fl
end Go.Proofs.YtgjpdogjekmemaaGreat
/-
  Moves that need no fact,told once for all (the proofs that follow name them by gn,ga,tk).
  Conditions: none.
-/
namespace Go.Proofs.YtgjpdogjekmemaaGreat
open Go.RowKit
set_option linter.unusedVariables false
theorem av {c:Prop} [Decidable c] {α:Type} {a b:α} (h:¬ c:=by omega):ite c a b=b:=if_neg h
namespace Fl
open Sx Go.Proofs.Tryz
theorem qb {n m:Nat} (h:Nat.ble n m=true):n≤m:=Nat.le_of_ble_eq_true h
/-- what a function is handed is what it wants -/
theorem lq {ds pV:List D} (h:bR ds pV:=by (repeat (first | exact bR.nil | refine bR.cons (dm.agg (by (repeat (first | exact .nil | refine .cons .refl ?_)) <;> exact .nil)) ?_ | refine bR.cons dm.refl ?_)) <;> exact bR.nil):bR ds pV:=h
section
variable {P:Program} {c:Cx} {kk:List Item} {f:Fm} {L:List ak} {ops:Array Oper} {l:List Oper} {T X Y:TypeId} {ps:String} {af:Array Edge} {gd:Option (Nat × Bool)} {t:Nat}
theorem jq {o:Oper} {d:D} (hd:o.dst=some t) (hw:dD ops o f=true) (ht:Nat.ble (t + 1) c.N=true) {U:List Nat} (q:Qt P c U o f L d) (h:JO P c ops l kk ((t,d) :: f) L):JO P c ops (o :: l) kk f L:=JO.q hd hw (qb ht) q h
theorem jp {F:FuncId} {args:List Operand} {tys:Array TypeId} {cV ds:List D} {d:D} [i:aS P F] (hC:Pure P F ds d) (hw:dD ops ⟨some t,.call ⟨.value (.func F),args.toArray,tys⟩,T,ps,af,gd⟩ f=true) (ht:Nat.ble (t + 1) c.N=true) (h:fS f args=some cV) (hle:bR cV ds) (hk:JO P c ops l kk ((t,d) :: f) L):JO P c ops (⟨some t,.call ⟨.value (.func F),args.toArray,tys⟩,T,ps,af,gd⟩ :: l) kk f L:=JO.pure hC hw (qb ht) h hle hk
theorem jx {x y:Operand} {e sz:Nat} {kd:IntKind} {n:Int} {r:List (List A)} {cs:List A} [i:ez P X e sz] (hw:dD ops ⟨some t,.indexAddr X x y,T,ps,af,gd⟩ f=true) (ht:Nat.ble (t + 1) c.N=true) (h:aY f x=some (.c (.r sz r))) (hy:aY f y=some (.c (.v (.int kd n)))) (hn:0≤n) (hk:r[n.toNat]?=some cs) (k:JO P c ops l kk ((t,.el cs 0) :: f) L):JO P c ops (⟨some t,.indexAddr X x y,T,ps,af,gd⟩ :: l) kk f L:=JO.q rfl hw (qb ht) (Qt.dj h hy hn hk) k
theorem jc {op:BinOp} {x y:Operand} {kd:IntKind} {m n:Int} {b b':Bool} (hw:dD ops ⟨some t,.binOp op X x y Y,T,ps,af,gd⟩ f=true) (ht:Nat.ble (t + 1) c.N=true) (h:aY f x=some (.c (.v (.int kd m)))) (hy:aY f y=some (.c (.v (.int kd n)))) (hF:b'=b) (hb:um op m n=some b') (k:JO P c ops l kk ((t,.c (.v (.bool b))) :: f) L):JO P c ops (⟨some t,.binOp op X x y Y,T,ps,af,gd⟩ :: l) kk f L:=JO.q rfl hw (qb ht) (Qt.cmp h hy (hb.trans (congrArg some hF))) k
end
theorem xo {s:ai} {g:Nat} (hg:g < s.gs.length):(s.gs.map eG)[((g:Int)).toNat]?=some (eG (aa s g)):=by
  unfold aa;rw [Int.toNat_natCast,List.getElem?_map,List.getD_eq_getElem?_getD,List.getElem?_eq_getElem hg];rfl
theorem xq {s:ai} {ch:Int} (h:aR s ch=true):(s.aK.map eC)[(ch - 1).toNat]?=some (eC (cn s ch)):=by
  unfold aR at h;simp only [decide_eq_true_eq] at h;unfold cn;rw [List.getElem?_map,List.getD_eq_getElem?_getD,List.getElem?_eq_getElem (show (ch - 1).toNat < s.aK.length by omega)];rfl
theorem xu {l:List Int} {k:Nat} {a:Int} (e:l[k]?=some a):(l.map fun n=>[nI n])[((k:Int)).toNat]?=some [nI a]:=by
  rw [Int.toNat_natCast,List.getElem?_map,e];rfl
section
variable {P:Program} {c:Cx} {kk:List Item} {f:Fm} {L:List ak} {ops:Array Oper} {l:List Oper} {T X Y:TypeId} {ps:String} {af:Array Edge} {gd:Option (Nat × Bool)} {t:Nat}
theorem aO {F:FuncId} {args:List Operand} {tys:Array TypeId} {cV ds:List D} {d:D} [i:aS P F] (hC:Pure P F ds d) (hk:JO P c ops l kk ((t,d) :: f) L) (hw:dD ops ⟨some t,.call ⟨.value (.func F),args.toArray,tys⟩,T,ps,af,gd⟩ f=true:=by exact rfl) (ht:Nat.ble (t + 1) c.N=true:=by exact rfl) (h:fS f args=some cV:=by exact rfl) (hle:bR cV ds:=by exact lq):JO P c ops (⟨some t,.call ⟨.value (.func F),args.toArray,tys⟩,T,ps,af,gd⟩ :: l) kk f L:=jp hC hw ht h hle hk
theorem aM {op:BinOp} {x y:Operand} {kd:IntKind} {m n:Int} {b b':Bool} (hF:b'=b) (k:JO P c ops l kk ((t,.c (.v (.bool b))) :: f) L) (hw:dD ops ⟨some t,.binOp op X x y Y,T,ps,af,gd⟩ f=true:=by exact rfl) (ht:Nat.ble (t + 1) c.N=true:=by exact rfl) (h:aY f x=some (.c (.v (.int kd m))):=by exact rfl) (hy:aY f y=some (.c (.v (.int kd n))):=by exact rfl) (hb:um op m n=some b':=by exact rfl):JO P c ops (⟨some t,.binOp op X x y Y,T,ps,af,gd⟩ :: l) kk f L:=jc hw ht h hy hF hb k
theorem E8 {ds pV:List D} (h:bR ds pV:=by (repeat (first | exact bR.nil | refine bR.cons (dm.agg (by (repeat (first | exact .nil | refine .cons .refl ?_ | refine .cons .nil ?_ | refine .cons .snoc ?_ | refine .cons .clone ?_)) <;> exact .nil)) ?_ | refine bR.cons dm.refl ?_ | refine bR.cons (dm.c jr.nil) ?_ | refine bR.cons (dm.c jr.snoc) ?_ | refine bR.cons (dm.c jr.clone) ?_)) <;> exact bR.nil):bR ds pV:=h
theorem ke {F:FuncId} {args:List Operand} {tys:Array TypeId} {cV ds:List D} {d:D} [i:aS P F] (hC:Pure P F ds d) (hk:JO P c ops l kk ((t,d) :: f) L) (hw:dD ops ⟨some t,.call ⟨.value (.func F),args.toArray,tys⟩,T,ps,af,gd⟩ f=true:=by exact rfl) (ht:Nat.ble (t + 1) c.N=true:=by exact rfl) (h:fS f args=some cV:=by exact rfl) (hle:bR cV ds:=by exact E8):JO P c ops (⟨some t,.call ⟨.value (.func F),args.toArray,tys⟩,T,ps,af,gd⟩ :: l) kk f L:=jp hC hw ht h hle hk
end
structure K0 (B:Prop):Prop where out:B
/-- one move that needs no fact,and names nothing -/
theorem gn {G B:Prop} (k:B) (h:K0 B→G:=by
  intro k
  first
    | (refine K.binOp ?_;refine jc rfl rfl rfl rfl (by assumption) rfl ?_;exact k.out)
    | (refine K.call ?_;refine jp (by assumption) rfl rfl rfl lq ?_;exact k.out)
    | (refine K.indexAddr ?_;refine jx rfl rfl rfl rfl (by omega) (xo (by assumption)) ?_;exact k.out)
    | (refine K.indexAddr ?_;refine jx rfl rfl rfl rfl (by omega) (xq (by assumption)) ?_;exact k.out)
    | (refine K.indexAddr ?_;refine jx rfl rfl rfl rfl (by omega) (xu (by assumption)) ?_;exact k.out)
    | (refine K.indexAddr ?_;refine jx rfl rfl rfl rfl (by omega) (by assumption) ?_;exact k.out)
    | (refine K.fieldAddr ?_;refine JO.q rfl rfl (qb rfl) (Qt.fieldAddr rfl rfl) ?_;exact k.out)
    | (refine K.load ?_;refine JO.q rfl rfl (qb rfl) (Qt.pM rfl .el rfl) ?_;exact k.out)
    | (refine K.load ?_;refine JO.q rfl rfl (qb rfl) (Qt.pO rfl .el rfl) ?_;exact k.out)
    | (refine K.load ?_;refine JO.q rfl rfl (qb rfl) (Qt.pN rfl .el rfl rfl) ?_;exact k.out)
    | (refine K.load ?_;refine JO.q rfl rfl (qb rfl) (Qt.oI rfl (by exact rfl)) ?_;exact k.out)
    | (refine K.load ?_;refine JO.q rfl rfl (qb rfl) (Qt.uj rfl (by exact rfl)) ?_;exact k.out)
    | (refine K.load ?_;refine JO.q rfl rfl (qb rfl) (Qt.uk rfl (by exact rfl) (by exact rfl)) ?_;exact k.out)
    | (refine K.move ?_;refine JO.q rfl rfl (qb rfl) (Qt.move rfl) ?_;exact k.out)
    | (refine K.store ?_;refine JO.ld (Ld.bu rfl rfl rfl (by exact rfl) (by exact rfl)) rfl (fun _=>?_);exact k.out)
    | (refine K.store ?_;refine JO.ld (Ld.cW rfl rfl (by exact rfl)) rfl (fun _=>?_);exact k.out)
    | (refine K.store ?_;refine JO.ld (Ld.mA rfl rfl rfl (by exact rfl) (by exact rfl)) rfl (fun _=>?_);exact k.out)
    | (refine K.assign ?_;refine JO.q rfl rfl (qb rfl) (Qt.assign rfl) ?_;exact k.out)
    | (refine K.binOp ?_;refine JO.q rfl rfl (qb rfl) (Qt.cmp rfl rfl rfl) ?_;exact k.out)
    | (refine K.binOp ?_;refine JO.q rfl rfl (qb rfl) (Qt.uo rfl rfl) ?_;exact k.out)
    | (refine K.binOp ?_;refine JO.q rfl rfl (qb rfl) (Qt.uq rfl rfl) ?_;exact k.out)
    | (refine K.unOp ?_;refine JO.q rfl rfl (qb rfl) (Qt.not rfl) ?_;exact k.out)
    | (refine K.bi ?_;refine JO.q rfl rfl (qb rfl) (Qt.pR rfl) ?_;exact k.out)
    | (refine K.bi ?_;refine JO.q rfl rfl (qb rfl) (Qt.rH rfl) ?_;exact k.out)
    | (refine K.bi ?_;refine JO.q rfl rfl (qb rfl) (Qt.uu rfl) ?_;exact k.out)
    | (refine K.bi ?_;refine JO.q rfl rfl (qb rfl) (Qt.ur rfl) ?_;exact k.out)
    | (refine K.extract ?_;refine JO.q rfl rfl (qb rfl) (Qt.extract rfl rfl) ?_;exact k.out)
    | (refine K.pick ?_;refine JO.q rfl rfl (qb rfl) (Qt.pick rfl rfl) ?_;exact k.out)
    | (refine K.build ?_;refine JO.q rfl rfl (qb rfl) (Qt.build rfl (by kernel_rfl)) ?_;exact k.out)
    | (refine K.nilCheck ?_;refine JO.q rfl rfl (qb rfl) (Qt.nilCheck rfl rfl) ?_;exact k.out)
    | (refine K.field ?_;refine JO.q rfl rfl (qb rfl) (Qt.field rfl rfl (by kernel_rfl) rfl) ?_;exact k.out)
    | (refine K.convert ?_;refine JO.q rfl rfl (qb rfl) (Qt.conv rfl rfl) ?_;exact k.out)
    | (refine JO.nil ?_;exact k.out)
    | (refine J.seq ?_;exact k.out)
    | (refine J.region ?_;exact k.out)
    | (refine J.block ?_;exact k.out)
    | (refine J.inBlock ?_;exact k.out)
    | (refine J.skip ?_;exact k.out)
    | (refine J.exit rfl ?_;exact k.out)
    | (refine J.eZ rfl ?_;exact k.out)
    | (refine J.eK rfl ?_;exact k.out)
    | (refine K.binOp ?_;refine jq rfl rfl rfl (Qt.aD rfl rfl rfl (aV (by omega) (by omega))) ?_;exact k.out)
    | (refine JO.no rfl rfl (qb rfl) ?_;exact k.out)):G:=h ⟨k⟩
/-- the same,or a block is made (then its number is to be named) -/
theorem au {G B:Prop} (k:B) (h:K0 B→G:=by
  intro k
  first
    | (refine K.binOp ?_;refine jc rfl rfl rfl rfl (by assumption) rfl ?_;exact k.out)
    | (refine K.call ?_;refine jp (by assumption) rfl rfl rfl lq ?_;exact k.out)
    | (refine K.indexAddr ?_;refine jx rfl rfl rfl rfl (by omega) (xo (by assumption)) ?_;exact k.out)
    | (refine K.indexAddr ?_;refine jx rfl rfl rfl rfl (by omega) (xq (by assumption)) ?_;exact k.out)
    | (refine K.indexAddr ?_;refine jx rfl rfl rfl rfl (by omega) (xu (by assumption)) ?_;exact k.out)
    | (refine K.indexAddr ?_;refine jx rfl rfl rfl rfl (by omega) (by assumption) ?_;exact k.out)
    | (refine K.fieldAddr ?_;refine JO.q rfl rfl (qb rfl) (Qt.fieldAddr rfl rfl) ?_;exact k.out)
    | (refine K.load ?_;refine JO.q rfl rfl (qb rfl) (Qt.pM rfl .el rfl) ?_;exact k.out)
    | (refine K.load ?_;refine JO.q rfl rfl (qb rfl) (Qt.pO rfl .el rfl) ?_;exact k.out)
    | (refine K.load ?_;refine JO.q rfl rfl (qb rfl) (Qt.pN rfl .el rfl rfl) ?_;exact k.out)
    | (refine K.load ?_;refine JO.q rfl rfl (qb rfl) (Qt.oI rfl (by exact rfl)) ?_;exact k.out)
    | (refine K.load ?_;refine JO.q rfl rfl (qb rfl) (Qt.uj rfl (by exact rfl)) ?_;exact k.out)
    | (refine K.load ?_;refine JO.q rfl rfl (qb rfl) (Qt.uk rfl (by exact rfl) (by exact rfl)) ?_;exact k.out)
    | (refine K.move ?_;refine JO.q rfl rfl (qb rfl) (Qt.move rfl) ?_;exact k.out)
    | (refine K.store ?_;refine JO.ld (Ld.bu rfl rfl rfl (by exact rfl) (by exact rfl)) rfl (fun _=>?_);exact k.out)
    | (refine K.store ?_;refine JO.ld (Ld.cW rfl rfl (by exact rfl)) rfl (fun _=>?_);exact k.out)
    | (refine K.store ?_;refine JO.ld (Ld.mA rfl rfl rfl (by exact rfl) (by exact rfl)) rfl (fun _=>?_);exact k.out)
    | (refine K.assign ?_;refine JO.q rfl rfl (qb rfl) (Qt.assign rfl) ?_;exact k.out)
    | (refine K.binOp ?_;refine JO.q rfl rfl (qb rfl) (Qt.cmp rfl rfl rfl) ?_;exact k.out)
    | (refine K.binOp ?_;refine JO.q rfl rfl (qb rfl) (Qt.uo rfl rfl) ?_;exact k.out)
    | (refine K.binOp ?_;refine JO.q rfl rfl (qb rfl) (Qt.uq rfl rfl) ?_;exact k.out)
    | (refine K.unOp ?_;refine JO.q rfl rfl (qb rfl) (Qt.not rfl) ?_;exact k.out)
    | (refine K.bi ?_;refine JO.q rfl rfl (qb rfl) (Qt.pR rfl) ?_;exact k.out)
    | (refine K.bi ?_;refine JO.q rfl rfl (qb rfl) (Qt.rH rfl) ?_;exact k.out)
    | (refine K.bi ?_;refine JO.q rfl rfl (qb rfl) (Qt.uu rfl) ?_;exact k.out)
    | (refine K.bi ?_;refine JO.q rfl rfl (qb rfl) (Qt.ur rfl) ?_;exact k.out)
    | (refine K.extract ?_;refine JO.q rfl rfl (qb rfl) (Qt.extract rfl rfl) ?_;exact k.out)
    | (refine K.pick ?_;refine JO.q rfl rfl (qb rfl) (Qt.pick rfl rfl) ?_;exact k.out)
    | (refine K.build ?_;refine JO.q rfl rfl (qb rfl) (Qt.build rfl (by kernel_rfl)) ?_;exact k.out)
    | (refine K.nilCheck ?_;refine JO.q rfl rfl (qb rfl) (Qt.nilCheck rfl rfl) ?_;exact k.out)
    | (refine K.field ?_;refine JO.q rfl rfl (qb rfl) (Qt.field rfl rfl (by kernel_rfl) rfl) ?_;exact k.out)
    | (refine K.convert ?_;refine JO.q rfl rfl (qb rfl) (Qt.conv rfl rfl) ?_;exact k.out)
    | (refine JO.nil ?_;exact k.out)
    | (refine J.seq ?_;exact k.out)
    | (refine J.region ?_;exact k.out)
    | (refine J.block ?_;exact k.out)
    | (refine J.inBlock ?_;exact k.out)
    | (refine J.skip ?_;exact k.out)
    | (refine J.exit rfl ?_;exact k.out)
    | (refine J.eZ rfl ?_;exact k.out)
    | (refine J.eK rfl ?_;exact k.out)
    | (refine K.binOp ?_;refine jq rfl rfl rfl (Qt.aD rfl rfl rfl (aV (by omega) (by omega))) ?_;exact k.out)
    | (refine JO.alloc rfl (qb rfl) ?_;exact k.out)
    | (refine JO.box rfl (qb rfl) rfl rfl ?_;exact k.out)
    | (refine JO.eJ rfl (qb rfl) ?_;exact k.out)
    | (refine JO.dK rfl (qb rfl) rfl rfl rfl rfl rfl ?_;exact k.out)
    | (refine JO.no rfl rfl (qb rfl) ?_;exact k.out)):G:=h ⟨k⟩
/-- one move that needs no fact,and stays in the region -/
theorem r8 {G B:Prop} (k:B) (h:K0 B→G:=by
  intro k
  first
    | (refine K.binOp ?_;refine jc rfl rfl rfl rfl (by assumption) rfl ?_;exact k.out)
    | (refine K.call ?_;refine jp (by assumption) rfl rfl rfl lq ?_;exact k.out)
    | (refine K.indexAddr ?_;refine jx rfl rfl rfl rfl (by omega) (xo (by assumption)) ?_;exact k.out)
    | (refine K.indexAddr ?_;refine jx rfl rfl rfl rfl (by omega) (xq (by assumption)) ?_;exact k.out)
    | (refine K.indexAddr ?_;refine jx rfl rfl rfl rfl (by omega) (xu (by assumption)) ?_;exact k.out)
    | (refine K.indexAddr ?_;refine jx rfl rfl rfl rfl (by omega) (by assumption) ?_;exact k.out)
    | (refine K.fieldAddr ?_;refine JO.q rfl rfl (qb rfl) (Qt.fieldAddr rfl rfl) ?_;exact k.out)
    | (refine K.load ?_;refine JO.q rfl rfl (qb rfl) (Qt.pM rfl .el rfl) ?_;exact k.out)
    | (refine K.load ?_;refine JO.q rfl rfl (qb rfl) (Qt.pO rfl .el rfl) ?_;exact k.out)
    | (refine K.load ?_;refine JO.q rfl rfl (qb rfl) (Qt.pN rfl .el rfl rfl) ?_;exact k.out)
    | (refine K.load ?_;refine JO.q rfl rfl (qb rfl) (Qt.oI rfl (by exact rfl)) ?_;exact k.out)
    | (refine K.load ?_;refine JO.q rfl rfl (qb rfl) (Qt.uj rfl (by exact rfl)) ?_;exact k.out)
    | (refine K.load ?_;refine JO.q rfl rfl (qb rfl) (Qt.uk rfl (by exact rfl) (by exact rfl)) ?_;exact k.out)
    | (refine K.move ?_;refine JO.q rfl rfl (qb rfl) (Qt.move rfl) ?_;exact k.out)
    | (refine K.store ?_;refine JO.ld (Ld.bu rfl rfl rfl (by exact rfl) (by exact rfl)) rfl (fun _=>?_);exact k.out)
    | (refine K.store ?_;refine JO.ld (Ld.cW rfl rfl (by exact rfl)) rfl (fun _=>?_);exact k.out)
    | (refine K.store ?_;refine JO.ld (Ld.mA rfl rfl rfl (by exact rfl) (by exact rfl)) rfl (fun _=>?_);exact k.out)
    | (refine K.assign ?_;refine JO.q rfl rfl (qb rfl) (Qt.assign rfl) ?_;exact k.out)
    | (refine K.binOp ?_;refine JO.q rfl rfl (qb rfl) (Qt.cmp rfl rfl rfl) ?_;exact k.out)
    | (refine K.binOp ?_;refine JO.q rfl rfl (qb rfl) (Qt.uo rfl rfl) ?_;exact k.out)
    | (refine K.binOp ?_;refine JO.q rfl rfl (qb rfl) (Qt.uq rfl rfl) ?_;exact k.out)
    | (refine K.unOp ?_;refine JO.q rfl rfl (qb rfl) (Qt.not rfl) ?_;exact k.out)
    | (refine K.bi ?_;refine JO.q rfl rfl (qb rfl) (Qt.pR rfl) ?_;exact k.out)
    | (refine K.bi ?_;refine JO.q rfl rfl (qb rfl) (Qt.rH rfl) ?_;exact k.out)
    | (refine K.bi ?_;refine JO.q rfl rfl (qb rfl) (Qt.uu rfl) ?_;exact k.out)
    | (refine K.bi ?_;refine JO.q rfl rfl (qb rfl) (Qt.ur rfl) ?_;exact k.out)
    | (refine K.extract ?_;refine JO.q rfl rfl (qb rfl) (Qt.extract rfl rfl) ?_;exact k.out)
    | (refine K.pick ?_;refine JO.q rfl rfl (qb rfl) (Qt.pick rfl rfl) ?_;exact k.out)
    | (refine K.build ?_;refine JO.q rfl rfl (qb rfl) (Qt.build rfl (by kernel_rfl)) ?_;exact k.out)
    | (refine K.nilCheck ?_;refine JO.q rfl rfl (qb rfl) (Qt.nilCheck rfl rfl) ?_;exact k.out)
    | (refine K.field ?_;refine JO.q rfl rfl (qb rfl) (Qt.field rfl rfl (by kernel_rfl) rfl) ?_;exact k.out)
    | (refine K.convert ?_;refine JO.q rfl rfl (qb rfl) (Qt.conv rfl rfl) ?_;exact k.out)
    | (refine K.binOp ?_;refine jq rfl rfl rfl (Qt.aD rfl rfl rfl (aV (by omega) (by omega))) ?_;exact k.out)
    | (refine JO.no rfl rfl (qb rfl) ?_;exact k.out)):G:=h ⟨k⟩
/-- a block is made -/
theorem ga {G:Prop} {B:Nat→Prop} (k:∀ b,B b) (h:(∀ b,B b)→G:=by
  intro k
  first
    | (refine JO.alloc rfl (qb rfl) ?_;intro b;exact k b)
    | (refine JO.box rfl (qb rfl) rfl rfl ?_;intro b;exact k b)
    | (refine JO.eJ rfl (qb rfl) ?_;intro b;exact k b)
    | (refine JO.dK rfl (qb rfl) rfl rfl rfl rfl rfl ?_;intro b;exact k b)):G:=h k
/-- number i of a region that draws,which looks -/
def Tk (i:Nat) (B:Prop):Prop:=B
section
variable {P:Program} {c:Cx} {k:List Item} {f f0:Fm} {L L0:List ak} {ops:Array Oper} {o:Oper} {m:Option Nat} {T:List Nat} {n t:Nat} {d:D} {aQ:Array Bool} {U:List Nat}
theorem JD.fK {i:Nat} {B:Prop} (kk:Tk i B) (hi:ops[i]?=some o) (hd:o.dst=some t) (hk:rT .any ops m aQ i=true) (hw:dD ops o f0=true) (ht:t < c.N) (q:Qt P c U o f0 L0 d) (hu:(U.all fun j=>!T.contains j)=true) (hB:B=JD P c ops m T n (aQ.setIfInBounds i true) k ((t,d) :: f) L ((t,d) :: f0) L0):JD P c ops m T (n + 1) aQ k f L f0 L0 :=
  JD.take i hi hd hk hw ht q hu (hB ▸ kk)
end
theorem tk (i:Nat) {G B:Prop} (k:Tk i B) (h:Tk i B→G:=by
  intro k
  first
    | exact JD.fK k rfl rfl (by kernel_rfl) rfl (qb rfl) (Qt.move rfl) rfl rfl
    | exact JD.fK k rfl rfl (by kernel_rfl) rfl (qb rfl) (Qt.assign rfl) rfl rfl
    | exact JD.fK k rfl rfl (by kernel_rfl) rfl (qb rfl) (Qt.fieldAddr rfl rfl) rfl rfl
    | exact JD.fK k rfl rfl (by kernel_rfl) rfl (qb rfl) (Qt.nilCheck rfl rfl) rfl rfl
    | exact JD.fK k rfl rfl (by kernel_rfl) rfl (qb rfl) (Qt.pM rfl .el rfl) rfl rfl
    | exact JD.fK k rfl rfl (by kernel_rfl) rfl (qb rfl) (Qt.pO rfl .el rfl) rfl rfl
    | exact JD.fK k rfl rfl (by kernel_rfl) rfl (qb rfl) (Qt.pN rfl .el rfl rfl) rfl rfl
    | exact JD.fK k rfl rfl (by kernel_rfl) rfl (qb rfl) (Qt.oI rfl (by exact rfl)) rfl rfl
    | exact JD.fK k rfl rfl (by kernel_rfl) rfl (qb rfl) (Qt.uj rfl (by exact rfl)) rfl rfl
    | exact JD.fK k rfl rfl (by kernel_rfl) rfl (qb rfl) (Qt.uk rfl (by exact rfl) (by exact rfl)) rfl rfl
    | exact JD.fK k rfl rfl (by kernel_rfl) rfl (qb rfl) (Qt.extract rfl rfl) rfl rfl
    | exact JD.fK k rfl rfl (by kernel_rfl) rfl (qb rfl) (Qt.pick rfl rfl) rfl rfl
    | exact JD.fK k rfl rfl (by kernel_rfl) rfl (qb rfl) (Qt.not rfl) rfl rfl
    | exact JD.fK k rfl rfl (by kernel_rfl) rfl (qb rfl) (Qt.pR rfl) rfl rfl
    | exact JD.fK k rfl rfl (by kernel_rfl) rfl (qb rfl) (Qt.rH rfl) rfl rfl
    | exact JD.fK k rfl rfl (by kernel_rfl) rfl (qb rfl) (Qt.uu rfl) rfl rfl
    | exact JD.fK k rfl rfl (by kernel_rfl) rfl (qb rfl) (Qt.ur rfl) rfl rfl
    | exact JD.fK k rfl rfl (by kernel_rfl) rfl (qb rfl) (Qt.cmp rfl rfl rfl) rfl rfl
    | exact JD.fK k rfl rfl (by kernel_rfl) rfl (qb rfl) (Qt.uo rfl rfl) rfl rfl
    | exact JD.fK k rfl rfl (by kernel_rfl) rfl (qb rfl) (Qt.uq rfl rfl) rfl rfl
    | exact JD.fK k rfl rfl (by kernel_rfl) rfl (qb rfl) (Qt.build rfl (by kernel_rfl)) rfl rfl
    | exact JD.fK k rfl rfl (by kernel_rfl) rfl (qb rfl) (Qt.field rfl rfl (by kernel_rfl) rfl) rfl rfl
    | exact JD.fK k rfl rfl (by kernel_rfl) rfl (qb rfl) (Qt.conv rfl rfl) rfl rfl):G:=h k
theorem Tk.mk {i:Nat} {B:Prop} (h:B):Tk i B:=h
theorem la {cs ds:List A} (h:jM cs ds:=by (repeat (first | exact .nil | refine .cons .refl ?_)) <;> exact .nil):dm (.agg cs) (.agg ds):=.agg h
section
variable {P:Program} {c:Cx} {k:List Item} {f f0:Fm} {L L0:List ak} {ops:Array Oper} {o:Oper} {m:Option Nat} {T:List Nat} {n t:Nat} {d:D} {aQ:Array Bool} {U S:List Nat}
theorem jl (i:Nat) {ι:Type} {g:ι→D} {L':ι→List ak} (hi:ops[i]?=some o) (hd:o.dst=some t) (hw:dD ops o f=true) (ht:Nat.ble (t + 1) c.N=true) (q:Ld P c o f L S (fun x=>(t,g x) :: f) L') (hS:Since T L0 L S) (h:∀ x,JD P c ops m T n (aQ.setIfInBounds i true) k ((t,g x) :: f) (L' x) ((t,stays (g x)) :: f0) L0) (hr:Region.ready .any ops aQ=[i]:=by kernel_rfl):JD P c ops m T (n + 1) aQ k f L f0 L0:=JD.cE hr (JS.cC hi hd hw (qb ht) q hS h)
theorem jk (i:Nat) (hi:ops[i]?=some o) (hd:o.dst=some t) (hw:dD ops o f=true) (ht:Nat.ble (t + 1) c.N=true) (q:Qt P c U o f L d) (h:JD P c ops m T n (aQ.setIfInBounds i true) k ((t,d) :: f) L ((t,stays d) :: f0) L0) (hr:Region.ready .any ops aQ=[i]:=by kernel_rfl):JD P c ops m T (n + 1) aQ k f L f0 L0:=JD.cE hr (JS.q hi hd hw (qb ht) q h)
theorem jt (i:Nat) {ι:Type} {f':ι→Fm} {L':ι→List ak} (hi:ops[i]?=some o) (hw:dD ops o f=true) (q:Ld P c o f L S f' L') (h:∀ x,JW P c ops n (aQ.setIfInBounds i true) k (f' x) (L' x)) (hr:Region.ready .any ops aQ=[i]:=by kernel_rfl):JD P c ops (some i) T (n + 1) aQ k f L f0 L0:=JD.cE hr (JS.last hi hw q h)
theorem cz (i:Nat) {F:FuncId} {args:List Operand} {tys:Array TypeId} {cV ds:List D} {X:TypeId} {ps:String} {af:Array Edge} {gd:Option (Nat × Bool)} [aS P F] (hC:Pure P F ds d) (h:JD P c ops m T n (aQ.setIfInBounds i true) k ((t,d) :: f) L ((t,stays d) :: f0) L0) (hi:ops[i]?=some ⟨some t,.call ⟨.value (.func F),args.toArray,tys⟩,X,ps,af,gd⟩:=by exact rfl) (hw:dD ops ⟨some t,.call ⟨.value (.func F),args.toArray,tys⟩,X,ps,af,gd⟩ f=true:=by exact rfl) (ht:Nat.ble (t + 1) c.N=true:=by exact rfl) (he:fS f args=some cV:=by exact rfl) (hle:bR cV ds:=by exact lq) (hr:Region.ready .any ops aQ=[i]:=by kernel_rfl):JD P c ops m T (n + 1) aQ k f L f0 L0:=jl i hi rfl hw ht (Ld.pure hC (qb ht) he hle) .none (fun _=>h) hr
theorem aX (h:J P c k f L) (hl:Region.ready .any ops aQ=[]:=by kernel_rfl):JD P c ops m T n aQ k f L f0 L0:=JD.done hl h
theorem cH (h:J P c k f L) (hl:Region.ready .any ops aQ=[]:=by kernel_rfl):JW P c ops n aQ k f L:=JW.done hl h
end
section
variable {P:Program} {F:FuncId} {fn:Func} {ok:Nat→Prop} {e:World} {L0 L:List ak} {post:Unit→D × List ak} {N:Nat} {k:List Item} {f:Fm}
theorem az (hf:P.funcs[F]?=some fn) {rs:List ResultVar} {ds:List D} {d:D} (iW:fn.results=rs.toArray:=by exact rfl) (h:fE P f L rs ds:=by
  repeat (first | exact .nil | apply fE.cons (.tmp rfl) | apply fE.cons (.cell 0 rfl rfl rfl) | apply fE.cons (.cell 1 rfl rfl rfl) | apply fE.cons (.cell 2 rfl rfl rfl) | apply fE.cons (.cell 3 rfl rfl rfl) | apply fE.cons (.cell 4 rfl rfl rfl) | apply fE.cons (.cell 5 rfl rfl rfl) | apply fE.cons (.cell 6 rfl rfl rfl) | apply fE.cons (.cell 7 rfl rfl rfl) | apply fE.cons (.cell 8 rfl rfl rfl))) (hp:post ()=(d,[]):=by exact rfl) (hle:dm (lK ds) d:=by first | exact .refl | exact la):J P (cx F ok e L0 post N) (.code .ret :: k) f L:=J.ret hf iW h () hle [] .nil rfl hp
end
end Fl
open Go.RowKit
namespace Fl
open Sx Go.Proofs.Tryz
theorem set_perm {r r':ak}:∀ {L:List ak} {j:Nat},L[j]?=some r→(L.set j r').Perm (r' :: L.eraseIdx j)
 | [],j,h=>by simp at h
 | q :: L,0,h=>by simp
 | q :: L,j + 1,h=>by
  simp at h;simp only [List.set_cons_succ,List.eraseIdx_cons_succ];exact ((set_perm h).cons q).trans (List.Perm.swap r' q _)
section
variable {P:Program} {c:Cx} {k:List Item} {f:Fm} {L:List ak} {ops:Array Oper} {l:List Oper} {o:Oper} {T:TypeId} {ps:String} {af:Array Edge} {gd:Option (Nat × Bool)} {t:Nat}
theorem Ld.E9 (j:Nat) {F:FuncId} {args:List Operand} {tys:Array TypeId} {cV ds:List D} {r:ak} {ι:Type} {dd:ι→D} {r':ι→ak} {L':ι→List ak} [i:aS P F] (hC:aA P F ds [r] (fun x=>(dd x,[r' x]))) (hj:L[j]?=some r) (ht:t < c.N) (h:fS f args=some cV) (hle:bR cV ds) (hL:∀ x,L.set j (r' x)=L' x) :
  Ld P c ⟨some t,.call ⟨.value (.func F),args.toArray,tys⟩,T,ps,af,gd⟩ f L r.cA (fun x=>(t,dd x) :: f) L':=⟨fun a w s K Q hK=>by
 have hp:=rA L j hj;have h1:=Ld.call (P:=P) (c:=c) (T:=T) (ps:=ps) (af:=af) (gd:=gd) (L:=r :: L.eraseIdx j) (f:=f) (tys:=tys) hC ht h hle (Ll:=[r]) (Lr:=L.eraseIdx j) rfl;refine h1.go a w (s.perm hp) K Q fun x v w' kp sx hf=>?_
 have hq:=set_perm (r':=r' x) hj;rw [hL] at hq;refine hK x v w' (by simpa [bL] using kp) (sx.perm hq) fun y hy=>?_
 rcases hf y ((oN hq y).1 hy) with h | h
 ·exact .inl ((oN hp y).1 h)
 ·exact .inr h⟩
end
class xw (L:List ak) (r:ak) (j:outParam Nat):Prop where h:L[j]?=some r
instance xw.zero {r:ak} {M:List ak}:xw (r :: M) r 0:=⟨rfl⟩
section
variable {P:Program} {c:Cx} {k:List Item} {f:Fm} {L:List ak} {ops:Array Oper} {l:List Oper} {o:Oper} {T:TypeId} {ps:String} {af:Array Edge} {gd:Option (Nat × Bool)} {t:Nat}
theorem Ld.xx {F:FuncId} {args:List Operand} {tys:Array TypeId} {cV ds:List D} {r:ak} {j:Nat} {ι:Type} {dd:ι→D} {r':ι→ak} {L':ι→List ak} [i:aS P F] (hC:aA P F ds [r] (fun x=>(dd x,[r' x]))) [hj:xw L r j] [hL:∀ x,jZ L j (r' x) (L' x)] (ht:t < c.N) (h:fS f args=some cV) (hle:bR cV ds) :
  Ld P c ⟨some t,.call ⟨.value (.func F),args.toArray,tys⟩,T,ps,af,gd⟩ f L r.cA (fun x=>(t,dd x) :: f) L':=Ld.E9 j hC hj.h ht h hle fun x=>(hL x).h
theorem Ld.dP {F:FuncId} {args:List Operand} {tys:Array TypeId} {cV ds:List D} {ι:Type} {dd:ι→D} {L':ι→List ak} [i:aS P F] (hC:aA P F ds L (fun x=>(dd x,L' x))) (ht:t < c.N) (h:fS f args=some cV) (hle:bR cV ds) :
  Ld P c ⟨some t,.call ⟨.value (.func F),args.toArray,tys⟩,T,ps,af,gd⟩ f L (bL L) (fun x=>(t,dd x) :: f) L':=⟨fun a w s K Q hK =>
 (Ld.call (P:=P) (c:=c) (T:=T) (ps:=ps) (af:=af) (gd:=gd) (tys:=tys) hC ht h hle (Ll:=L) (Lr:=[]) (by simp)).go a w s K Q fun x v w' kp sx hf=>hK x v w' kp (by simpa using sx) (by simpa using hf)⟩
end
section
variable {P:Program} {F:FuncId} {ok:Nat→Prop} {e:World} {L0 L:List ak} {ι:Type} {post:ι→D × List ak} {fn:Func} {N:Nat} {f:Fm} {k:List Item}
theorem xy (L:List ak):(List.range L.length).map (fun i=>L[i]?)=L.map some:=by
 apply List.ext_getElem?;intro i;rw [List.getElem?_map,List.getElem?_map]
 by_cases h:i < L.length
 ·rw [List.getElem?_range h,List.getElem?_eq_getElem h];simp [List.getElem?_eq_getElem h]
 ·rw [List.getElem?_eq_none (by simpa using h),List.getElem?_eq_none (by omega)];rfl
theorem J.nG (hf:P.funcs[F]?=some fn) {rs:List ResultVar} {ds:List D} (iW:fn.results=rs.toArray) (h:fE P f L rs ds) {d:D} (i:ι) (hle:dm (lK ds) d) (hp:post i=(d,L)):J P (cx F ok e L0 post N) (.code .ret :: k) f L :=
 J.ret hf iW h i hle (List.range L.length) List.nodup_range (xy L) hp
theorem J.fo (hf:P.funcs[F]?=some fn) {rs:List ResultVar} {ds:List D} (iW:fn.results=rs.toArray) (h:fE P f L rs ds) {d:D} (i:ι) (hle:dm (lK ds) d) (hp:post i=(d,L)):J P (cx F ok e L0 post N) [] f L :=
 J.fin hf iW h i hle (List.range L.length) List.nodup_range (xy L) hp
theorem Af (E L:List ak):((List.range L.length).map (· + E.length)).map (fun i=>(E ++ L)[i]?)=L.map some:=by
 rw [List.map_map,← xy L];refine List.map_congr_left fun i _=>?_
 simp only [Function.comp];rw [List.getElem?_append_right (by omega)]
 congr 1;omega
theorem J.r9 (E:List ak) {L':List ak} (hL:L=E ++ L') (hf:P.funcs[F]?=some fn) {rs:List ResultVar} {ds:List D} (iW:fn.results=rs.toArray) (h:fE P f L rs ds) {d:D} (i:ι) (hle:dm (lK ds) d) (hp:post i=(d,L')):J P (cx F ok e L0 post N) (.code .ret :: k) f L:=by
 subst hL;exact J.ret hf iW h i hle ((List.range L'.length).map (· + E.length)) (List.pairwise_map.2 (List.nodup_range.imp (fun h e=>h (by omega)))) (Af E L') hp
theorem J.Ag (E:List ak) {L':List ak} (hL:L=E ++ L') (hf:P.funcs[F]?=some fn) {rs:List ResultVar} {ds:List D} (iW:fn.results=rs.toArray) (h:fE P f L rs ds) {d:D} (i:ι) (hle:dm (lK ds) d) (hp:post i=(d,L')):J P (cx F ok e L0 post N) [] f L:=by
 subst hL;exact J.fin hf iW h i hle ((List.range L'.length).map (· + E.length)) (List.pairwise_map.2 (List.nodup_range.imp (fun h e=>h (by omega)))) (Af E L') hp
end
structure Mn (Φ:World→List Nat→Prop):Prop where
 ig:∀ {w w':World} {S T:List Nat},Φ w S→aP T w w'→(∀ x∈S,x∉T)→Φ w' S
 lt:∀ {w:World} {S:List Nat},Φ w S→∀ x∈S,x < w.heap.size
def si (Φ:World→List Nat→Prop) (S:List Nat):ak:=.obj S (fun w=>Φ w S)
def sj {ι:Type} (M:ι→List ak) (w:World) (S:List Nat):Prop:=∃ x,bL (M x)=S∧fC (M x)∧∀ r∈M x,r.holds (fun _=>False) w
section
variable {P:Program} {F:FuncId} {ds:List D} {ι κ:Type} {M:ι→List ak} {M':κ→List ak}
end
section
variable {P:Program} {F:FuncId} {ds:List D} {L Ll Lr:List ak}
end
class Mo {ι:Type} (L Ll:List ak) (M:ι→List ak) (L':outParam (ι→List ak)):Prop where h:∃ E,L=E ++ Ll∧L'=fun x=>E ++ M x
class Mp (L:List ak) (b:Nat) (L0:outParam (List ak)):Prop where h:∃ B,L=L0 ++ B
class Mq (L:List ak) (b:Nat) (B:outParam (List ak)) (mk:outParam (List ak→List ak)):Prop where
 h:L=mk B
 e:∃ E,∀ X,mk X=E ++ X
section
variable {P:Program} {c:Cx} {k:List Item} {f:Fm} {L L2:List ak} {T X:TypeId} {ps:String} {af:Array Edge} {gd:Option (Nat × Bool)} {t:Nat}
theorem Ld.Fa {F:FuncId} {args:List Operand} {tys:Array TypeId} {cV ds:List D} {ι:Type} {dd:ι→D} {M L':ι→List ak} [i:aS P F] (hC:aA P F ds [] (fun x=>(dd x,M x))) (hL:∀ x,L' x=M x ++ L) (ht:t < c.N) (h:fS f args=some cV) (hle:bR cV ds) :
  Ld P c ⟨some t,.call ⟨.value (.func F),args.toArray,tys⟩,T,ps,af,gd⟩ f L [] (fun x=>(t,dd x) :: f) L':=by
 obtain rfl:L'=fun x=>M x ++ L:=funext hL
 exact Ld.call (P:=P) (c:=c) (T:=T) (ps:=ps) (af:=af) (gd:=gd) (L:=L) (f:=f) (tys:=tys) hC ht h hle (Ll:=[]) (Lr:=L) rfl
end
section
variable {P:Program} {c:Cx} {k:List Item} {f f0:Fm} {L L0:List ak} {ops:Array Oper} {o:Oper} {m:Option Nat} {n:Nat} {aQ:Array Bool}
end
section
variable {P:Program} {c:Cx} {f:Fm} {L:List ak} {T X:TypeId} {ps:String} {af:Array Edge} {gd:Option (Nat × Bool)} {t:Nat}
theorem Qt.max {x y:Operand} {tys:Array TypeId} {k1:IntKind} {m n r:Int} (h:aY f x=some (.c (.v (.int k1 m)))) (hy:aY f y=some (.c (.v (.int k1 n)))) (hr:(if n > m then n else m)=r):Qt P c [] ⟨t,.call ⟨.builtin .max,#[x,y],tys⟩,T,ps,af,gd⟩ f L (.c (.v (.int k1 r))):=⟨fun a w s=>by
 have rx:=s.val h;have ry:=s.val hy;subst hr;refine ⟨_,by unfold RD RA;exact ⟨rfl,rfl⟩,fun w' k=>?_⟩;simp only [execOp,resolve,invoke,builtin,Sem.run_bind];simp [rx,ry,Builtin.max_,Builtin.max2,Sem.run_bind]⟩
end
section
variable {P:Program} {c:Cx} {f:Fm} {L:List ak} {T X:TypeId} {ps:String} {af:Array Edge} {gd:Option (Nat × Bool)} {t:Nat}
end
def pt (b:Nat):Value:=.pointer (some ⟨b,0,none⟩)
def qg (l:List Int):List (List A):=l.map fun n=>[nI n]
end Fl
namespace Ss
variable {α:Type}
def sw (l:List α) (i j:Nat):List α:=match l[i]?,l[j]? with
 | some x,some y=>(l.set i y).set j x
 | _,_=>l
theorem Ah {l:List α} {i j:Nat} {x y:α} (hi:l[i]?=some x) (hj:l[j]?=some y):sw l i j=(l.set i y).set j x:=by unfold sw;rw [hi,hj]
theorem Fb (l:List α) (i j:Nat):(sw l i j).length=l.length:=by unfold sw;split <;> simp
theorem at_app (X:List α) (x:α) (Y:List α):(X ++ x :: Y)[X.length]?=some x:=by simp
theorem Ai (X:List α) (x y:α) (Y:List α):(X ++ x :: Y).set X.length y=X ++ y :: Y:=by simp
theorem Aj (X:List α) (x:α) (M:List α) (y:α) (Y:List α) (i j:Nat) (hi:i=X.length) (hj:j=X.length + M.length + 1) :
  sw (X ++ x :: (M ++ y :: Y)) i j=X ++ y :: (M ++ x :: Y):=by
 subst hi;have e:∀ a:α,∀ Z:List α,X ++ a :: (M ++ Z)=(X ++ a :: M) ++ Z:=by intro a Z;simp
 have l2:∀ a:α,(X ++ a :: M).length=j:=by intro a;simp;omega
 have h2:(X ++ x :: (M ++ y :: Y))[j]?=some y:=by rw [e,← l2 x];exact at_app _ _ _
 rw [Ah (at_app _ _ _) h2,Ai,e,← l2 y,Ai,← e]
theorem mG (X:List α) (x y:α) (Y:List α) (i j:Nat) (hi:i=X.length) (hj:j=X.length + 1):sw (X ++ x :: y :: Y) i j=X ++ y :: x :: Y:=Aj X x [] y Y i j hi (by simpa using hj)
theorem qh (l:List α) (i j:Nat):sw l i j=sw l j i:=by
 unfold sw
 cases h1:l[i]? with
 | none=>cases h2:l[j]? <;> rfl
 | some x =>
  cases h2:l[j]? with
  | none=>rfl
  | some y =>
   simp only
   by_cases h:i=j
   ·subst h;rw [h1] at h2;cases h2;rfl
   ·exact List.set_comm _ _ h
def eE (l:List α) (a b:Nat):Nat→List α
 | 0=>l
 | n + 1=>sw (eE l a b n) (a + n) (b + n)
theorem lO (l:List α) (a b:Nat):∀ n,(eE l a b n).length=l.length
 | 0=>rfl
 | n + 1=>by rw [eE,Fb,lO l a b n]
theorem uJ:∀ (n:Nat) (X A M B Y:List α) (a b:Nat),A.length=n→B.length=n→a=X.length→b=X.length + n + M.length→eE (X ++ A ++ M ++ B ++ Y) a b n=X ++ B ++ M ++ A ++ Y
 | 0,X,A,M,B,Y,a,b,hA,hB,_,_=>by
  rw [List.length_eq_zero_iff.1 hA,List.length_eq_zero_iff.1 hB];rfl
 | n + 1,X,A,M,B,Y,a,b,hA,hB,ha,hb=>by
  obtain ⟨A',x,rfl⟩:∃ A' x,A=A' ++ [x]:=⟨A.dropLast,A.getLast (by intro h;rw [h] at hA;simp at hA),(List.dropLast_concat_getLast _).symm⟩
  obtain ⟨B',y,rfl⟩:∃ B' y,B=B' ++ [y]:=⟨B.dropLast,B.getLast (by intro h;rw [h] at hB;simp at hB),(List.dropLast_concat_getLast _).symm⟩
  simp only [List.length_append,List.length_singleton] at hA hB;have ih:=uJ n X A' (x :: M) B' (y :: Y) a b (by omega) (by omega) ha (by simp;omega);have e:X ++ (A' ++ [x]) ++ M ++ (B' ++ [y]) ++ Y=X ++ A' ++ (x :: M) ++ B' ++ (y :: Y):=by simp
  rw [eE,e,ih];have e2:X ++ B' ++ (x :: M) ++ A' ++ (y :: Y)=(X ++ B') ++ x :: ((M ++ A') ++ y :: Y):=by simp
  rw [e2,Aj _ _ _ _ _ _ _ (by simp;omega) (by simp;omega)];simp
def jv (l:List α) (m i j:Nat):List α :=
 if h:i=j∨i=0∨j=0 then eE l (m - i) m i
 else if h2:j < i then jv (eE l (m - i) m j) m (i - j) j
 else jv (eE l (m - i) (m + j - i) i) m i (j - i)
termination_by i + j
decreasing_by all_goals omega
theorem uK (l:List α) (m i:Nat):jv l m i i=eE l (m - i) m i:=by rw [jv,dif_pos (.inl rfl)]
theorem uL (l:List α) (m i j:Nat) (h:j < i) (hj:j≠0):jv l m i j=jv (eE l (m - i) m j) m (i - j) j:=by rw [jv,dif_neg (by omega),dif_pos h]
theorem uM (l:List α) (m i j:Nat) (h:i < j) (hi:i≠0):jv l m i j=jv (eE l (m - i) (m + j - i) i) m i (j - i):=by rw [jv,dif_neg (by omega),dif_neg (by omega)]
theorem sk (m:Nat):∀ (s:Nat) (X U V Y:List α),U.length + V.length≤s→U.length≠0→V.length≠0→m=X.length + U.length→jv (X ++ U ++ V ++ Y) m U.length V.length=X ++ V ++ U ++ Y
 | 0,X,U,V,Y,hs,hu,hv,hm=>by omega
 | s + 1,X,U,V,Y,hs,hu,hv,hm=>by
  rcases Nat.lt_trichotomy U.length V.length with h | h | h
  ·rw [uM _ _ _ _ h hu];obtain ⟨V1,V2,rfl,hl⟩:∃ V1 V2,V=V1 ++ V2∧V2.length=U.length:=⟨V.take (V.length - U.length),V.drop (V.length - U.length),(List.take_append_drop _ _).symm,by simp;omega⟩
   simp only [List.length_append] at h hs hv ⊢;have e:=uJ U.length X U V1 V2 Y (m - U.length) (m + (V1.length + V2.length) - U.length) rfl hl (by omega) (by omega);rw [show X ++ U ++ (V1 ++ V2) ++ Y=X ++ U ++ V1 ++ V2 ++ Y by simp,e];have ih:=sk m s X V2 V1 (U ++ Y) (by omega) (by omega) (by omega) (by omega);rw [show X ++ V2 ++ V1 ++ U ++ Y=X ++ V2 ++ V1 ++ (U ++ Y) by simp,show V1.length + V2.length - U.length=V1.length by omega,← hl,ih];simp
  ·rw [← h,uK];have e:=uJ U.length X U [] V Y (m - U.length) m rfl h.symm (by omega) (by simp;omega);simpa using e
  ·rw [uL _ _ _ _ h hv];obtain ⟨U1,U2,rfl,hl⟩:∃ U1 U2,U=U1 ++ U2∧U1.length=V.length:=⟨U.take V.length,U.drop V.length,(List.take_append_drop _ _).symm,by simp;omega⟩
   simp only [List.length_append] at h hs hu hm ⊢;have e:=uJ V.length X U1 U2 V Y (m - (U1.length + U2.length)) m hl rfl (by omega) (by omega);rw [show X ++ (U1 ++ U2) ++ V ++ Y=X ++ U1 ++ U2 ++ V ++ Y by simp,e];have ih:=sk m s (X ++ V) U2 U1 Y (by omega) (by omega) (by omega) (by simp;omega);rw [show U1.length + U2.length - V.length=U2.length by omega,← hl,ih];simp
def bs (p:Nat→Bool) (i j:Nat):Nat:=if h:i < j then (if p ((i + j) / 2) then bs p ((i + j) / 2 + 1) j else bs p i ((i + j) / 2)) else i
termination_by j - i
decreasing_by all_goals omega
theorem lP {p:Nat→Bool} {i j:Nat} (h:i < j) (hp:p ((i + j) / 2)=true):bs p i j=bs p ((i + j) / 2 + 1) j:=by rw [bs,dif_pos h,if_pos hp]
theorem lQ {p:Nat→Bool} {i j:Nat} (h:i < j) (hp:p ((i + j) / 2)=false):bs p i j=bs p i ((i + j) / 2):=by rw [bs,dif_pos h,if_neg (by simp [hp])]
theorem kQ {p:Nat→Bool} {i j:Nat} (h:¬ i < j):bs p i j=i:=by rw [bs,dif_neg h]
theorem uN (p:Nat→Bool):∀ (n i j:Nat),j - i≤n→i≤j→i≤bs p i j∧bs p i j≤j∧(bs p i j=i∨p (bs p i j - 1)=true)∧(bs p i j=j∨p (bs p i j)=false)
 | 0,i,j,hn,h=>by rw [kQ (by omega)];exact ⟨Nat.le_refl _,h,.inl rfl,.inl (by omega)⟩
 | n + 1,i,j,hn,h=>by
  by_cases c:i < j
  ·cases hp:p ((i + j) / 2) with
   | true =>
    rw [lP c hp];obtain ⟨a,b,d,e⟩:=uN p n ((i + j) / 2 + 1) j (by omega) (by omega);refine ⟨by omega,b,.inr ?_,e⟩;rcases d with d | d
    ·rw [d];exact hp
    ·exact d
   | false =>
    rw [lQ c hp];obtain ⟨a,b,d,e⟩:=uN p n i ((i + j) / 2) (by omega) (by omega);refine ⟨a,by omega,d,.inr ?_⟩;rcases e with e | e
    ·rw [e];exact hp
    ·exact e
  ·rw [kQ c];exact ⟨Nat.le_refl _,h,.inl rfl,.inl (by omega)⟩
variable (key:α→Int)
def mg:List α→List α→List α
 | [],ys=>ys
 | x :: xs,[]=>x :: xs
 | x :: xs,y :: ys=>if key y < key x then y :: mg (x :: xs) ys else x :: mg xs (y :: ys)
termination_by xs ys=>xs.length + ys.length
def cu (l:List α):Prop:=l.Pairwise fun x y=>key x≤key y
variable {key}
theorem jw (ys:List α):mg key [] ys=ys:=by rw [mg]
theorem jQ:∀ xs:List α,mg key xs []=xs
 | []=>by rw [mg]
 | x :: xs=>by rw [mg]
theorem xz:∀ (n:Nat) (xs ys:List α),xs.length + ys.length≤n→(mg key xs ys).length=xs.length + ys.length
 | n,[],ys,_=>by rw [jw];simp
 | n,x :: xs,[],_=>by rw [jQ];simp
 | 0,x :: xs,y :: ys,h=>by simp at h
 | n + 1,x :: xs,y :: ys,h=>by
  simp only [List.length_cons] at h;rw [mg];split
  ·rw [List.length_cons,xz n (x :: xs) ys (by simp only [List.length_cons];omega)];simp;omega
  ·rw [List.length_cons,xz n xs (y :: ys) (by simp only [List.length_cons];omega)];simp;omega
theorem qo (xs ys:List α):(mg key xs ys).length=xs.length + ys.length:=xz _ xs ys (Nat.le_refl _)
theorem xA:∀ (n:Nat) (xs ys:List α),xs.length + ys.length≤n→∀ z,z∈mg key xs ys↔z∈xs∨z∈ys
 | n,[],ys,_,z=>by rw [jw];simp
 | n,x :: xs,[],_,z=>by rw [jQ];simp
 | 0,x :: xs,y :: ys,h,z=>by simp at h
 | n + 1,x :: xs,y :: ys,h,z=>by
  simp only [List.length_cons] at h;rw [mg];split
  ·rw [List.mem_cons,xA n (x :: xs) ys (by simp only [List.length_cons];omega) z];simp only [List.mem_cons];grind
  ·rw [List.mem_cons,xA n xs (y :: ys) (by simp only [List.length_cons];omega) z];simp only [List.mem_cons];grind
theorem Ak {xs ys:List α} {z:α}:z∈mg key xs ys↔z∈xs∨z∈ys:=xA _ xs ys (Nat.le_refl _) z
theorem sq:∀ (n:Nat) (A1 A2 B1 B2:List α),A1.length + B1.length≤n→(∀ x∈A1,∀ y∈B2,key x≤key y)→(∀ x∈A2,∀ y∈B1,key y < key x)→mg key (A1 ++ A2) (B1 ++ B2)=mg key A1 B1 ++ mg key A2 B2
 | n,[],A2,[],B2,_,_,_=>by rw [jw];rfl
 | 0,a :: A1,A2,B1,B2,h,_,_=>by simp at h
 | 0,[],A2,b :: B1,B2,h,_,_=>by simp at h
 | n + 1,[],A2,b :: B1,B2,h,h1,h2=>by
  simp only [List.length_cons,List.length_nil] at h;have ih:=sq n [] A2 B1 B2 (by simp only [List.length_nil];omega) (by simp) (fun x hx y hy=>h2 x hx y (List.mem_cons_of_mem _ hy));simp only [List.nil_append,jw] at ih ⊢
  cases A2 with
  | nil=>simp [jw]
  | cons a A2 =>
   rw [List.cons_append,mg,if_pos (h2 a (by simp) b (by simp)),ih];rfl
 | n + 1,a :: A1,A2,[],B2,h,h1,h2=>by
  simp only [List.length_cons,List.length_nil] at h;have ih:=sq n A1 A2 [] B2 (by simp only [List.length_nil];omega) (fun x hx y hy=>h1 x (List.mem_cons_of_mem _ hx) y hy) (by simp);simp only [List.nil_append,jQ] at ih ⊢
  cases B2 with
  | nil=>simp [jQ]
  | cons b B2 =>
   rw [List.cons_append,mg,if_neg (by have:=h1 a (by simp) b (by simp);omega),ih];rfl
 | n + 1,a :: A1,A2,b :: B1,B2,h,h1,h2=>by
  simp only [List.length_cons] at h;rw [List.cons_append,List.cons_append,mg,mg]
  split
  ·have ih:=sq n (a :: A1) A2 B1 B2 (by simp only [List.length_cons];omega) h1 (fun x hx y hy=>h2 x hx y (List.mem_cons_of_mem _ hy));rw [← List.cons_append,ih];rfl
  ·have ih:=sq n A1 A2 (b :: B1) B2 (by simp only [List.length_cons];omega) (fun x hx y hy=>h1 x (List.mem_cons_of_mem _ hx) y hy) h2;rw [← List.cons_append,ih];rfl
theorem lT {A1 A2 B1 B2:List α} (h1:∀ x∈A1,∀ y∈B2,key x≤key y) (h2:∀ x∈A2,∀ y∈B1,key y < key x):mg key (A1 ++ A2) (B1 ++ B2)=mg key A1 B1 ++ mg key A2 B2:=sq _ A1 A2 B1 B2 (Nat.le_refl _) h1 h2
variable (key) in
def ins:List α→α→List α
 | [],x=>[x]
 | y :: ys,x=>if ys.all (fun z=>decide (key x < key z)) && decide (key x < key y) then x :: y :: ys else y :: ins ys x
variable (key) in
def bg (l:List α):List α:=l.foldl (ins key) []
theorem sv (x:α):∀ (A B:List α),(∀ y∈B,key x < key y)→(A=[]∨∃ A' a,A=A' ++ [a]∧key a≤key x)→ins key (A ++ B) x=A ++ x :: B
 | [],[],_,_=>rfl
 | [],b :: B,h,_=>by
  rw [List.nil_append,ins,if_pos]
  ·rfl
  ·simp only [Bool.and_eq_true,List.all_eq_true,decide_eq_true_eq];exact ⟨fun y hy=>h y (List.mem_cons_of_mem _ hy),h b (by simp)⟩
 | a :: A,B,h,ha=>by
  rw [List.cons_append,ins,if_neg,sv x A B h]
  ·rfl
  ·rcases ha with ha | ⟨A',z,e,hz⟩
   ·cases ha
   ·rcases A with _ | ⟨a2,A⟩
    ·exact .inl rfl
    ·right
     rcases A' with _ | ⟨b,A'⟩
     ·simp at e
     ·simp only [List.cons_append,List.cons.injEq] at e;exact ⟨A',z,e.2,hz⟩
  ·simp only [Bool.and_eq_true,List.all_eq_true,decide_eq_true_eq];intro ⟨h1,h2⟩;rcases ha with ha | ⟨A',z,e,hz⟩
   ·cases ha
   ·rcases A' with _ | ⟨b,A'⟩
    ·simp only [List.nil_append,List.cons.injEq] at e;rw [e.1] at h2;omega
    ·simp only [List.cons_append,List.cons.injEq] at e;have:=h1 z (by rw [e.2];simp);omega
theorem cu.left {A B:List α} (h:cu key (A ++ B)):cu key A:=(List.pairwise_append.1 h).1
theorem cu.right {A B:List α} (h:cu key (A ++ B)):cu key B:=(List.pairwise_append.1 h).2.1
theorem cu.Fc {A B:List α} (h:cu key (A ++ B)):∀ x∈A,∀ y∈B,key x≤key y:=(List.pairwise_append.1 h).2.2
theorem cu.part (k:Int):∀ {l:List α},cu key l→∃ A B,l=A ++ B∧(∀ x∈A,key x≤k)∧∀ x∈B,k < key x
 | [],_=>⟨[],[],rfl,by simp,by simp⟩
 | a :: l,h=>by
  unfold cu at h;rw [List.pairwise_cons] at h
  by_cases c:key a≤k
  ·obtain ⟨A,B,e,h1,h2⟩:=cu.part k (l:=l) h.2;exact ⟨a :: A,B,by rw [e];rfl,by intro x hx;rcases List.mem_cons.1 hx with rfl | hx;exact c;exact h1 x hx,h2⟩
  ·exact ⟨[],a :: l,rfl,by simp,by intro x hx;rcases List.mem_cons.1 hx with rfl | hx;omega;have:=h.1 x hx;omega⟩
theorem uO {A B:List α} {x:α} (hA:∀ y∈A,key y≤key x) (hB:∀ y∈B,key x < key y):ins key (A ++ B) x=A ++ x :: B:=by
 refine sv x A B hB ?_;rcases List.eq_nil_or_concat A with h | ⟨A',a,h⟩
 ·exact .inl h
 ·exact .inr ⟨A',a,by simpa using h,hA a (by rw [h];simp)⟩
theorem Al (x:α):∀ l:List α,(ins key l x).length=l.length + 1
 | []=>rfl
 | y :: ys=>by rw [ins];split;rfl;rw [List.length_cons,Al x ys];rfl
theorem Ff {l:List α} {x:α} (h:cu key l):cu key (ins key l x):=by
 obtain ⟨A,B,rfl,h1,h2⟩:=h.part (key x);rw [uO h1 h2];unfold cu;rw [List.pairwise_append,List.pairwise_cons];refine ⟨h.left,⟨fun y hy=>Int.le_of_lt (h2 y hy),h.right⟩,fun y hy z hz=>?_⟩;rcases List.mem_cons.1 hz with rfl | hz
 ·exact h1 y hy
 ·exact Int.le_of_lt (Int.lt_of_le_of_lt (h1 y hy) (h2 z hz))
theorem Fg {X Y:List α} {x:α} (hX:cu key X) (hY:cu key Y):mg key X (ins key Y x)=ins key (mg key X Y) x:=by
 obtain ⟨X1,X2,rfl,x1,x2⟩:=hX.part (key x);obtain ⟨Y1,Y2,rfl,y1,y2⟩:=hY.part (key x);have s1:mg key (X1 ++ X2) (Y1 ++ Y2)=mg key X1 Y1 ++ mg key X2 Y2:=lT (fun a ha b hb=>Int.le_of_lt (Int.lt_of_le_of_lt (x1 a ha) (y2 b hb))) (fun a ha b hb=>Int.lt_of_le_of_lt (y1 b hb) (x2 a ha));have s2:mg key (X1 ++ X2) ((Y1 ++ [x]) ++ Y2)=mg key X1 (Y1 ++ [x]) ++ mg key X2 Y2:=lT (fun a ha b hb=>Int.le_of_lt (Int.lt_of_le_of_lt (x1 a ha) (y2 b hb))) (fun a ha b hb=>by
  rcases List.mem_append.1 hb with hb | hb
  ·exact Int.lt_of_le_of_lt (y1 b hb) (x2 a ha)
  ·rw [List.mem_singleton.1 hb];exact x2 a ha)
 have s3:mg key (X1 ++ []) (Y1 ++ [x])=mg key X1 Y1 ++ mg key [] [x]:=lT (fun a ha b hb=>by rw [List.mem_singleton.1 hb];exact x1 a ha) (by simp);rw [List.append_nil,jw] at s3;rw [uO y1 y2,show Y1 ++ x :: Y2=(Y1 ++ [x]) ++ Y2 by simp,s2,s3,s1,uO]
 ·simp
 ·intro y hy;rcases Ak.1 hy with hy | hy
  ·exact x1 y hy
  ·exact y1 y hy
 ·intro y hy;rcases Ak.1 hy with hy | hy
  ·exact x2 y hy
  ·exact y2 y hy
theorem nJ (l:List α) (x:α):bg key (l ++ [x])=ins key (bg key l) x:=by unfold bg;rw [List.foldl_append];rfl
theorem xB {p:List α→Prop} (h0:p []) (h1:∀ l x,p l→p (l ++ [x])) (l:List α):p l:=by
 have:∀ l:List α,p l.reverse:=by
  intro l
  induction l with
  | nil=>exact h0
  | cons x l ih=>rw [List.reverse_cons];exact h1 _ x ih
 have:=this l.reverse
 rwa [List.reverse_reverse] at this
theorem jd (l:List α):cu key (bg key l):=by
 induction l using xB with
 | h0=>exact List.Pairwise.nil
 | h1 l x ih=>rw [nJ];exact Ff ih
theorem fL (l:List α):(bg key l).length=l.length:=by
 induction l using xB with
 | h0=>rfl
 | h1 l x ih=>rw [nJ,Al,ih];simp
theorem qp (A B:List α):mg key (bg key A) (bg key B)=bg key (A ++ B):=by
 induction B using xB with
 | h0=>rw [List.append_nil];exact jQ _
 | h1 l x ih=>rw [nJ,Fg (jd A) (jd l),ih,← List.append_assoc,nJ]
variable (key) in
def cr (k:Nat) (l:List α):List α:=if h:l.length≤k∨k=0 then bg key l else bg key (l.take k) ++ cr k (l.drop k)
termination_by l.length
decreasing_by rw [List.length_drop];omega
theorem g9 {k:Nat} {l:List α} (h:l.length≤k):cr key k l=bg key l:=by rw [cr,dif_pos (.inl h)]
theorem Am {k:Nat} {l:List α} (h:k < l.length) (hk:k≠0):cr key k l=bg key (l.take k) ++ cr key k (l.drop k):=by rw [cr,dif_neg (by omega)]
theorem je {k:Nat} {l:List α} (h:k≤l.length) (hk:k≠0):cr key k l=bg key (l.take k) ++ cr key k (l.drop k):=by
 rcases Nat.lt_or_ge k l.length with c | c
 ·exact Am c hk
 ·rw [g9 c,g9 (by simp;omega),List.take_of_length_le c,List.drop_of_length_le c];simp [bg]
theorem uP:∀ (n k:Nat) (l:List α),l.length≤n→(cr key k l).length=l.length
 | 0,k,l,h=>by rw [g9 (by omega),fL]
 | n + 1,k,l,h=>by
  by_cases c:l.length≤k∨k=0
  ·rw [cr,dif_pos c,fL]
  ·rw [Am (by omega) (by omega),List.length_append,fL,uP n k (l.drop k) (by rw [List.length_drop];omega),List.length_take,List.length_drop];omega
variable (key) in
def ky (l:List α) (i:Nat):Int:=match l[i]? with
 | some x=>key x
 | none=>0
theorem jy {l:List α} {i:Nat} {x:α} (h:l[i]?=some x):ky key l i=key x:=by unfold ky;rw [h]
theorem at_mid (X B Y:List α) (i j:Nat) (hj:j=X.length + i) (hi:i < B.length):(X ++ B ++ Y)[j]?=B[i]?:=by
 subst hj;rw [List.append_assoc,List.getElem?_append_right (by omega),List.getElem?_append_left (by omega),show X.length + i - X.length=i by omega]
theorem qt (X B Y:List α) (i j:Nat) (hj:j=X.length + i) (hi:i < B.length):ky key (X ++ B ++ Y) j=ky key B i:=by unfold ky;rw [at_mid X B Y i j hj hi]
theorem cu.to {B:List α} (h:cu key B) {i:Nat} (hi:i < B.length):∀ y∈B.take (i + 1),key y≤ky key B i:=by
 intro y hy;rw [jy (List.getElem?_eq_getElem hi)];rw [List.take_succ_eq_append_getElem hi] at hy;have h':cu key (B.take i ++ B.drop i):=by rw [List.take_append_drop];exact h
 rcases List.mem_append.1 hy with hy | hy
 ·exact h'.Fc y hy _ (by rw [List.drop_eq_getElem_cons hi];exact List.mem_cons_self)
 ·rw [List.mem_singleton.1 hy];exact Int.le_refl _
theorem cu.dS {B:List α} (h:cu key B) {i:Nat} (hi:i < B.length):∀ y∈B.drop i,ky key B i≤key y:=by
 intro y hy;rw [jy (List.getElem?_eq_getElem hi)];have h':cu key (B.drop i):=by
  have:cu key (B.take i ++ B.drop i):=by rw [List.take_append_drop];exact h
  exact this.right
 rw [List.drop_eq_getElem_cons hi] at h' hy;rcases List.mem_cons.1 hy with rfl | hy
 ·exact Int.le_refl _
 ·exact (List.pairwise_cons.1 h').1 y hy
theorem search (p:Nat→Bool) (X B Y:List α) (m b:Nat) (hm:m=X.length) (hb:b=m + B.length):∃ B1 B2,B=B1 ++ B2∧bs p m b=m + B1.length∧(B1=[]∨p (m + (B1.length - 1))=true)∧(B2=[]∨p (m + B1.length)=false):=by
 obtain ⟨h1,h2,h3,h4⟩:=uN p (b - m) m b (Nat.le_refl _) (by omega);refine ⟨B.take (bs p m b - m),B.drop (bs p m b - m),(List.take_append_drop _ _).symm,by rw [List.length_take];omega,?_,?_⟩
 ·by_cases c:bs p m b=m
  ·left;rw [c];simp
  ·right
   rcases h3 with h3 | h3
   ·exact absurd h3 c
   ·rw [List.length_take,← h3];congr 1;omega
 ·by_cases c:bs p m b=b
  ·left;rw [c];apply List.drop_eq_nil_of_le;omega
  ·right
   rcases h4 with h4 | h4
   ·exact absurd h4 c
   ·rw [List.length_take,← h4];congr 1;omega
theorem An {B1 B2:List α} (h:cu key (B1 ++ B2)) (hn:B1≠[]):∀ y∈B1,key y≤ky key (B1 ++ B2) (B1.length - 1):=by
 have hl:0 < B1.length:=List.length_pos_iff.2 hn;have:=h.to (i:=B1.length - 1) (by simp;omega);rw [show B1.length - 1 + 1=B1.length by omega,List.take_left'] at this
 ·exact this
 ·rfl
theorem Ao {B1 B2:List α} (h:cu key (B1 ++ B2)) (hn:B2≠[]):∀ y∈B2,ky key (B1 ++ B2) B1.length≤key y:=by
 have hl:0 < B2.length:=List.length_pos_iff.2 hn;have:=h.dS (i:=B1.length) (by simp;omega);rw [List.drop_left'] at this
 ·exact this
 ·rfl
theorem xC (k0:Int) (X B Y:List α) (m b:Nat) (hm:m=X.length) (hb:b=m + B.length) (hs:cu key B) :
  ∃ B1 B2,B=B1 ++ B2∧bs (fun h=>decide (ky key (X ++ B ++ Y) h < k0)) m b=m + B1.length∧(∀ y∈B1,key y < k0)∧∀ y∈B2,k0≤key y:=by
 obtain ⟨B1,B2,rfl,h1,h2,h3⟩:=search (fun h=>decide (ky key (X ++ B ++ Y) h < k0)) X B Y m b hm hb;refine ⟨B1,B2,rfl,h1,fun y hy=>?_,fun y hy=>?_⟩
 ·have hn:B1≠[]:=List.ne_nil_of_mem hy;have hl:0 < B1.length:=List.length_pos_iff.2 hn;rcases h2 with h2 | h2
  ·exact absurd h2 hn
  ·rw [decide_eq_true_eq,qt X (B1 ++ B2) Y (B1.length - 1) _ (by omega) (by simp;omega)] at h2;have:=An hs hn y hy;omega
 ·have hn:B2≠[]:=List.ne_nil_of_mem hy;have hl:0 < B2.length:=List.length_pos_iff.2 hn;rcases h3 with h3 | h3
  ·exact absurd h3 hn
  ·rw [decide_eq_false_iff_not,qt X (B1 ++ B2) Y B1.length _ (by omega) (by simp;omega)] at h3;have:=Ao hs hn y hy;omega
theorem xD (k0:Int) (X B Y:List α) (m b:Nat) (hm:m=X.length) (hb:b=m + B.length) (hs:cu key B) :
  ∃ B1 B2,B=B1 ++ B2∧bs (fun h=>!decide (k0 < ky key (X ++ B ++ Y) h)) m b=m + B1.length∧(∀ y∈B1,key y≤k0)∧∀ y∈B2,k0 < key y:=by
 obtain ⟨B1,B2,rfl,h1,h2,h3⟩:=search (fun h=>!decide (k0 < ky key (X ++ B ++ Y) h)) X B Y m b hm hb;refine ⟨B1,B2,rfl,h1,fun y hy=>?_,fun y hy=>?_⟩
 ·have hn:B1≠[]:=List.ne_nil_of_mem hy;have hl:0 < B1.length:=List.length_pos_iff.2 hn;rcases h2 with h2 | h2
  ·exact absurd h2 hn
  ·rw [Bool.not_eq_true',decide_eq_false_iff_not,qt X (B1 ++ B2) Y (B1.length - 1) _ (by omega) (by simp;omega)] at h2;have:=An hs hn y hy;omega
 ·have hn:B2≠[]:=List.ne_nil_of_mem hy;have hl:0 < B2.length:=List.length_pos_iff.2 hn;rcases h3 with h3 | h3
  ·exact absurd h3 hn
  ·rw [Bool.not_eq_false',decide_eq_true_eq,qt X (B1 ++ B2) Y B1.length _ (by omega) (by simp;omega)] at h3;have:=Ao hs hn y hy;omega
theorem xE {x:α} {B1 B2:List α} (h1:∀ y∈B1,key y < key x) (h2:∀ y∈B2,key x≤key y):mg key [x] (B1 ++ B2)=B1 ++ x :: B2:=by
 have a:mg key ([] ++ [x]) (B1 ++ B2)=mg key [] B1 ++ mg key [x] B2:=lT (by simp) (fun z hz y hy=>by rw [List.mem_singleton.1 hz];exact h1 y hy);have c:mg key ([x] ++ []) ([] ++ B2)=mg key [x] [] ++ mg key [] B2:=lT (fun z hz y hy=>by rw [List.mem_singleton.1 hz];exact h2 y hy) (by simp);simp only [List.nil_append,List.append_nil,jw,jQ] at a c;rw [a,c];rfl
theorem xF {x:α} {A1 A2:List α} (h1:∀ y∈A1,key y≤key x) (h2:∀ y∈A2,key x < key y):mg key (A1 ++ A2) [x]=A1 ++ x :: A2:=by
 have a:mg key (A1 ++ A2) ([] ++ [x])=mg key A1 [] ++ mg key A2 [x]:=lT (fun z hz y hy=>by rw [List.mem_singleton.1 hy];exact h1 z hz) (by simp);have c:mg key ([] ++ A2) ([x] ++ [])=mg key [] [x] ++ mg key A2 []:=lT (by simp) (fun z hz y hy=>by rw [List.mem_singleton.1 hy];exact h2 z hz);simp only [List.nil_append,List.append_nil,jw,jQ] at a c;rw [a,c];rfl
theorem parts (X A B Y:List α) (a m b:Nat) (ha:a=X.length) (hm:m=a + A.length) (hb:b=m + B.length) (hA:cu key A) (hB:cu key B) (nA:A≠[]) (nB:B≠[]) (aG n s0 r0:Nat) (kf:aG=(a + b) / 2) (hn:n=aG + m)
  (h0:m > aG∧s0=n - b∧r0=aG∨¬ m > aG∧s0=a∧r0=m) (p:Nat→Bool) (hp:∀ c,s0≤c→c < r0→p c=!decide (ky key (X ++ A ++ B ++ Y) (n - 1 - c) < ky key (X ++ A ++ B ++ Y) c)) :
  ∃ A1 A2 B1 B2,A=A1 ++ A2∧B=B1 ++ B2∧bs p s0 r0=a + A1.length∧n - bs p s0 r0=m + B1.length∧A1.length + B1.length + a=aG∧(∀ x∈A1,∀ y∈B2,key x≤key y)∧(∀ x∈A2,∀ y∈B1,key y < key x):=by
 have lA:0 < A.length:=List.length_pos_iff.2 nA;have lB:0 < B.length:=List.length_pos_iff.2 nB;have b0:a≤s0∧s0≤r0∧r0≤m:=by omega
 have b1:∀ c,s0≤c→c≤r0→m≤n - c∧n - c≤b∧n - c - m + (c - a) + a=aG:=by omega
 obtain ⟨h1,h2,h3,h4⟩:=uN p (r0 - s0) s0 r0 (Nat.le_refl _) b0.2.1;generalize bs p s0 r0=s at h1 h2 h3 h4;have b2:=b1 s h1 h2;have kA:∀ c,a≤c→c < m→ky key (X ++ A ++ B ++ Y) c=ky key A (c - a):=fun c h h'=>by
  rw [show X ++ A ++ B ++ Y=X ++ A ++ (B ++ Y) by simp];exact qt X A (B ++ Y) (c - a) c (by omega) (by omega)
 have kB:∀ c,m≤c→c < b→ky key (X ++ A ++ B ++ Y) c=ky key B (c - m):=fun c h h'=>qt (X ++ A) B Y (c - m) c (by simp;omega) (by omega)
 have eA:=List.take_append_drop (s - a) A;have eB:=List.take_append_drop (n - s - m) B;have Mr:(A.take (s - a)).length=s - a:=by rw [List.length_take];omega
 have Ms:(B.take (n - s - m)).length=n - s - m:=by rw [List.length_take];omega
 refine ⟨A.take (s - a),A.drop (s - a),B.take (n - s - m),B.drop (n - s - m),eA.symm,eB.symm,by omega,by omega,by omega,?_,?_⟩
 ·intro x hx y hy;have n1:0 < (A.take (s - a)).length:=List.length_pos_iff.2 (List.ne_nil_of_mem hx);have n2:0 < (B.drop (n - s - m)).length:=List.length_pos_iff.2 (List.ne_nil_of_mem hy);rw [List.length_drop] at n2;rcases h3 with h3 | h3
  ·omega
  ·have q:=hp (s - 1) (by omega) (by omega);rw [h3,kA (s - 1) (by omega) (by omega),kB (n - 1 - (s - 1)) (by omega) (by omega),show n - 1 - (s - 1) - m=n - s - m by omega] at q;have q:ky key A (s - 1 - a)≤ky key B (n - s - m):=by simpa using q.symm
   have u:=hA.to (i:=s - 1 - a) (by omega) x (by rw [show s - 1 - a + 1=s - a by omega];exact hx);have v:=hB.dS (i:=n - s - m) (by omega) y hy;omega
 ·intro x hx y hy;have n1:0 < (B.take (n - s - m)).length:=List.length_pos_iff.2 (List.ne_nil_of_mem hy);have n2:0 < (A.drop (s - a)).length:=List.length_pos_iff.2 (List.ne_nil_of_mem hx);rw [List.length_drop] at n2;rcases h4 with h4 | h4
  ·omega
  ·by_cases z:s=r0
   ·omega
   have q:=hp s (by omega) (by omega);rw [h4,kA s (by omega) (by omega),kB (n - 1 - s) (by omega) (by omega)] at q;have q:ky key B (n - 1 - s - m) < ky key A (s - a):=by simpa using q.symm
   have u:=hA.dS (i:=s - a) (by omega) x hx;have v:=hB.to (i:=n - 1 - s - m) (by omega) y (by rw [show n - 1 - s - m + 1=n - s - m by omega];exact hy);omega
end Ss
open Go.RowKit
namespace Fl
open Sx Go.Proofs.Tryz
theorem J.lU {P:Program} {c:Cx} {k:List Item} {f:Fm} {L:List ak} {I:Item} {ι:Type} (f':ι→Fm) (L':ι→List ak) (rest:∀ x,J P c k (f' x) (L' x)) (h:∀ K,(∀ x,J P c K (f' x) (L' x))→J P c (I :: K) f L):J P c (I :: k) f L:=h k rest
theorem JO.lU {P:Program} {c:Cx} {k:List Item} {f:Fm} {L:List ak} {I:Item} {ops:Array Oper} {l:List Oper} {ι:Type} (f':ι→Fm) (L':ι→List ak) (rest:∀ x,J P c k (f' x) (L' x)) (h:∀ K,(∀ x,J P c K (f' x) (L' x))→JO P c ops l (I :: K) f L):JO P c ops l (I :: k) f L:=h k rest
def cq (m n:Int):Int:=if m < n then -1 else if m > n then 1 else 0
theorem fq {m n:Int} {r:Bool} (h:decide (m < n)=r):decide (cq m n < 0)=r:=by
 subst h;unfold cq
 split
 ·simp [*]
 ·split <;> simp [*]
structure dV (P:Program) (fv:Value) (C:List ak) {α:Type} (enc:α→List A) (key:α→Int):Prop where
 ld:∀ (c:Cx) (f:Fm) (L:List ak) (T:TypeId) (ps:String) (af:Array Edge) (gd:Option (Nat × Bool)) (t:Nat) (tys:Array TypeId) (x y z:Operand) (a b:α),(∃ E,L=E ++ C)→t < c.N→aY f x=some (.c (.v fv))→aY f y=some (.agg (enc a))→aY f z=some (.agg (enc b)) →
  Ld P c ⟨some t,.call ⟨.value x,#[y,z],tys⟩,T,ps,af,gd⟩ f L [] (fun _:Unit=>(t,.c (.v (.int .i64 (cq (key a) (key b))))) :: f) (fun _=>L)
section
variable {P:Program} {c:Cx} {k:List Item} {f:Fm} {L:List ak} {T X:TypeId} {ps:String} {af:Array Edge} {gd:Option (Nat × Bool)} {t:Nat}
theorem Ld.fu {fv:Value} {C:List ak} {α:Type} {enc:α→List A} {key:α→Int} (CF:dV P fv C enc key) (a b:α) {tys:Array TypeId} {x y z:Operand} (hL:∃ E,L=E ++ C) (ht:t < c.N) (hx:aY f x=some (.c (.v fv))) (hy:aY f y=some (.agg (enc a))) (hz:aY f z=some (.agg (enc b))) :
  Ld P c ⟨some t,.call ⟨.value x,#[y,z],tys⟩,T,ps,af,gd⟩ f L [] (fun _:Unit=>(t,.c (.v (.int .i64 (cq (key a) (key b))))) :: f) (fun _=>L):=CF.ld c f L T ps af gd t tys x y z a b hL ht hx hy hz
end
theorem cS {α:Type} {enc:α→List A} {l:List α} {i:Nat} {x:α} (h:l[i]?=some x):(l.map enc)[((i:Nat):Int).toNat]?=some (enc x):=by rw [Int.toNat_natCast,List.getElem?_map,h];rfl
theorem Fh {α:Type} {enc:α→List A} {l:List α} {i:Nat} (h:i < l.length):((i:Nat):Int) < ((l.map enc).length:Int):=by rw [List.length_map];omega
theorem dh {α:Type} {enc:α→List A} {l:List α} {i:Nat} {x:α} (h:l[i]?=some x):((i:Nat):Int) < ((l.map enc).length:Int):=Fh (List.getElem?_eq_some_iff.1 h).1
theorem ki {α:Type} {enc:α→List A} {l:List α} {i j:Nat} {x y:α} (hi:l[i]?=some x) (hj:l[j]?=some y):((l.map enc).set ((i:Nat):Int).toNat (enc y)).set ((j:Nat):Int).toNat (enc x)=(Ss.sw l i j).map enc:=by
 rw [Ss.Ah hi hj,Int.toNat_natCast,Int.toNat_natCast,List.map_set,List.map_set]
theorem dQ {m n:Nat} (h:m + n≤4000000):IntKind.i64.wrap (((m:Nat):Int) + ((n:Nat):Int))=((m + n:Nat):Int):=by rw [aV (by omega) (by omega)];omega
theorem kj {m:Nat} (h:m≤4000000):IntKind.u64.wrap ((m:Nat):Int)=((m:Nat):Int):=by simp [IntKind.wrap,IntKind.bits,IntKind.signed];omega
theorem kn {m:Nat} {w:World} {P:Program} {T:TypeId} (h:m≤4000000):(binOp .shr T (.int .u64 (m:Int)) (.int .u64 1)).run P w=.ok (.int .u64 ((m / 2:Nat):Int)) w:=by
 rw [binOp_shr,shift_shr .u64 .u64 _ _ (by decide) (by decide)];rfl
end Fl
open Go.RowKit
namespace Fl
open Sx Go.Proofs.Tryz
set_option maxRecDepth 100000
set_option maxHeartbeats 4000000
section
variable {α:Type} {enc:α→List A} {key:α→Int} {fv:Value} {C:List ak}
theorem Fi (CF:dV prog fv C enc key) (hz:∀ x,(enc x).length=3) (v:Value) (X A0 Y:List α) (hs:X.length + A0.length + Y.length≤1000000) :
  aA prog 138 [.c (.v v),.c (nI X.length),.c (nI (X.length + A0.length:Nat)),.c (.v fv)] (.row v 111 3 ((X ++ A0 ++ Y).map enc) :: C) (fun _:Unit=>(.aU [],.row v 111 3 ((X ++ Ss.bg key A0 ++ Y).map enc) :: C)):=by
 refine aA.intro func138 rfl rfl rfl (fun ok e=>?_);have w0:IntKind.i64.wrap ((X.length:Int) + 1)=((X.length + 1:Nat):Int):=by rw [aV (by omega) (by omega)];omega
 repeat (first | (refine K.binOp ?_;refine jq rfl rfl rfl ((Qt.aD rfl rfl rfl w0)) ?_) | refine gn ?_)
 have e0:A0=Ss.bg key (A0.take 1) ++ A0.drop 1:=by cases A0 <;> rfl
 refine J.bq (L':=.row v 111 3 ((X ++ (Ss.bg key (A0.take 1) ++ A0.drop 1) ++ Y).map enc) :: C) (by rw [← e0]) ?_;refine J.loop (ι:={ k:Nat // 1≤k∧k≤A0.length + 1 }) (fun q=>[(8,.c (nI (X.length + q.1:Nat))),(0,.c (.v v)),(1,.c (nI X.length)),(2,.c (nI (X.length + A0.length:Nat))),(3,.c (.v fv))]) (fun q=>.row v 111 3 ((X ++ (Ss.bg key (A0.take q.1) ++ A0.drop q.1) ++ Y).map enc) :: C) (fun q=>A0.length - q.1) ⟨1,Nat.le_refl _,by omega⟩ (fun X h=>h.aF ⟨rfl,rfl,rfl,rfl,rfl,trivial⟩) (fun q ih=>?_);obtain ⟨k,k1,k2⟩:=q;simp only at k1 k2 ih ⊢
 by_cases hk:k < A0.length
 ·have t1:decide (((X.length + k:Nat):Int) < ((X.length + A0.length:Nat):Int))=true:=decide_eq_true (by omega);obtain ⟨x,hx⟩:∃ x,A0[k]?=some x:=⟨_,List.getElem?_eq_getElem hk⟩
  have hd:A0.drop k=x :: A0.drop (k + 1):=by rw [List.drop_eq_getElem_cons hk];rw [List.getElem?_eq_getElem hk] at hx;cases hx;rfl
  have ht:A0.take (k + 1)=A0.take k ++ [x]:=by rw [List.take_add_one,hx];rfl
  have cM:=ih ⟨k + 1,by omega,by omega⟩ (by simp only;omega);clear ih;simp only at cM;rw [ht,Ss.nJ] at cM;have lS:(Ss.bg key (A0.take k)).length=k:=by rw [Ss.fL,List.length_take];omega
  rw [hd];have lD:(A0.drop (k + 1)).length=A0.length - (k + 1):=List.length_drop;generalize A0.drop (k + 1)=D at cM lD ⊢;generalize Ss.bg key (A0.take k)=S at cM lS ⊢
  repeat (refine gn ?_)
  refine J.bq (L':=.row v 111 3 ((X ++ (S ++ x :: [] ++ D) ++ Y).map enc) :: C) (by simp) ?_;refine J.loop (ι:={ q:List α × List α // S=q.1 ++ q.2∧∀ y∈q.2,key x < key y }) (fun q=>[(9,.c (nI (X.length + q.1.1.length:Nat))),(8,.c (nI (X.length + k:Nat))),(0,.c (.v v)),(1,.c (nI X.length)),(2,.c (nI (X.length + A0.length:Nat))),(3,.c (.v fv))]) (fun q=>.row v 111 3 ((X ++ (q.1.1 ++ x :: q.1.2 ++ D) ++ Y).map enc) :: C) (fun q=>q.1.1.length) ⟨(S,[]),by simp,by simp⟩ (fun X h=>h.aF ⟨by rw [lS];rfl,rfl,rfl,rfl,rfl,rfl,trivial⟩) (fun q iO=>?_);obtain ⟨⟨S1,S2⟩,qS,qx⟩:=q;simp only at qS qx iO ⊢;have w1:IntKind.i64.wrap (((X.length + k:Nat):Int) + 1)=((X.length + (k + 1):Nat):Int):=by rw [aV (by omega) (by omega)];omega
  have out:(S1=[]∨∃ A' a,S1=A' ++ [a]∧key a≤key x)→Ss.ins key S x=S1 ++ x :: S2:=fun h=>by rw [qS];exact Ss.sv x S1 S2 qx h
  rcases List.eq_nil_or_concat S1 with h | ⟨aJ,z,h⟩
  ·have t2:decide (((X.length + S1.length:Nat):Int) > (X.length:Int))=false:=decide_eq_false (by rw [h];simp);have ho:=out (.inl h)
   repeat ((refine J.seq ?_))
   refine J.draw (by kernel_rfl) rfl ?_;refine JW.base none ?_;refine tk 0 ?_;refine tk 1 ?_;refine JD.take 2 rfl rfl (by kernel_rfl) rfl (qb rfl) (Qt.cmp rfl rfl (congrArg some t2)) rfl ?_;refine tk 3 ?_
   (refine JD.skip 4 rfl rfl (by kernel_rfl) rfl (qb rfl) ?_)
   (refine JD.skip 5 rfl rfl (by kernel_rfl) rfl (qb rfl) ?_)
   (refine JD.skip 6 rfl rfl (by kernel_rfl) rfl (qb rfl) ?_)
   refine JD.skip 7 rfl rfl (by kernel_rfl) rfl (qb rfl) ?_
   (refine JD.skip 8 rfl rfl (by kernel_rfl) rfl (qb rfl) ?_)
   (refine JD.skip 9 rfl rfl (by kernel_rfl) rfl (qb rfl) ?_)
   (refine JD.skip 10 rfl rfl (by kernel_rfl) rfl (qb rfl) ?_)
   (refine JD.skip 11 rfl rfl (by kernel_rfl) rfl (qb rfl) ?_)
   refine JD.skip 12 rfl rfl (by kernel_rfl) rfl (qb rfl) ?_
   (refine JD.skip 13 rfl rfl (by kernel_rfl) rfl (qb rfl) ?_)
   (refine JD.skip 14 rfl rfl (by kernel_rfl) rfl (qb rfl) ?_)
   (refine JD.skip 15 rfl rfl (by kernel_rfl) rfl (qb rfl) ?_)
   refine tk 16 ?_;refine aX ?_
   repeat (first | (refine K.binOp ?_;refine jq rfl rfl rfl ((Qt.aD rfl rfl rfl w1)) ?_) | refine gn ?_)
   refine J.bq ?_ (cM.aF ⟨rfl,rfl,rfl,rfl,rfl,trivial⟩);rw [ho]
  ·rw [List.concat_eq_append] at h;subst h;have l1:(aJ ++ [z]).length=aJ.length + 1:=by simp
   have lq:k=aJ.length + 1 + S2.length:=by rw [← lS,qS];simp;omega
   rw [l1];have t2:decide (((X.length + (aJ.length + 1):Nat):Int) > (X.length:Int))=true:=decide_eq_true (by omega);have w2:IntKind.i64.wrap (((X.length + (aJ.length + 1):Nat):Int) - 1)=((X.length + aJ.length:Nat):Int):=by rw [aV (by omega) (by omega)];omega
   have er:X ++ (aJ ++ [z] ++ x :: S2 ++ D) ++ Y=(X ++ aJ) ++ z :: x :: (S2 ++ D ++ Y):=by simp
   rw [er];have a1:((X ++ aJ) ++ z :: x :: (S2 ++ D ++ Y))[X.length + aJ.length]?=some z:=by rw [show X.length + aJ.length=(X ++ aJ).length by simp];exact Ss.at_app _ _ _
   have a2:((X ++ aJ) ++ z :: x :: (S2 ++ D ++ Y))[X.length + (aJ.length + 1)]?=some x:=by rw [show X.length + (aJ.length + 1)=((X ++ aJ) ++ [z]).length by simp only [List.length_append,List.length_singleton];omega,show (X ++ aJ) ++ z :: x :: (S2 ++ D ++ Y)=((X ++ aJ) ++ [z]) ++ x :: (S2 ++ D ++ Y) by simp];exact Ss.at_app _ _ _
   have b1:=cS (enc:=enc) a1;have b2:=cS (enc:=enc) a2;have c1:=dh (enc:=enc) a1;have c2:=dh (enc:=enc) a2;have z1:(0:Int)≤((X.length + aJ.length:Nat):Int):=Int.natCast_nonneg _;have z2:(0:Int)≤((X.length + (aJ.length + 1):Nat):Int):=Int.natCast_nonneg _;have sw:=ki (enc:=enc) a2 a1;rw [Ss.qh,Ss.mG (X ++ aJ) z x (S2 ++ D ++ Y) _ _ (by simp) (by simp;omega)] at sw;generalize hR:(X ++ aJ) ++ z :: x :: (S2 ++ D ++ Y)=R at er b1 b2 c1 c2 sw ⊢
   cases t3:decide (key x < key z) with
   | false =>
    have ho:=out (.inr ⟨aJ,z,rfl,by have:=of_decide_eq_false t3;omega⟩)
    repeat ((refine J.seq ?_))
    refine J.draw (by kernel_rfl) rfl ?_;refine JW.base none ?_;refine tk 0 ?_;refine tk 1 ?_;refine JD.take 2 rfl rfl (by kernel_rfl) rfl (qb rfl) (Qt.cmp rfl rfl (congrArg some t2)) rfl ?_;refine tk 3 ?_;refine tk 4 ?_;refine tk 5 ?_;refine tk 6 ?_
    (refine JD.take 7 rfl rfl (by kernel_rfl) rfl (qb rfl) (Qt.aN rfl rfl z2 c2) rfl ?_)
    (refine JD.take 8 rfl rfl (by kernel_rfl) rfl (qb rfl) (Qt.bk rfl b2 (hz _)) rfl ?_)
    refine tk 9 ?_;refine tk 10 ?_
    (refine JD.take 11 rfl rfl (by kernel_rfl) rfl (qb rfl) (Qt.aD rfl rfl rfl w2) rfl ?_)
    (refine JD.take 12 rfl rfl (by kernel_rfl) rfl (qb rfl) (Qt.aN rfl rfl z1 c1) rfl ?_)
    (refine JD.take 13 rfl rfl (by kernel_rfl) rfl (qb rfl) (Qt.bk rfl b1 (hz _)) rfl ?_)
    refine jl 14 rfl rfl rfl rfl (Ld.fu CF x z ⟨[_],rfl⟩ (qb rfl) rfl rfl rfl) .none (fun _=>?_)
    (refine JD.take 15 rfl rfl (by kernel_rfl) rfl (qb rfl) (Qt.cmp rfl rfl (congrArg some (fq t3))) rfl ?_)
    refine jk 16 rfl rfl rfl rfl (Qt.pick rfl rfl) ?_;refine aX ?_
    repeat (first | (refine K.binOp ?_;refine jq rfl rfl rfl ((Qt.aD rfl rfl rfl w1)) ?_) | refine gn ?_)
    refine J.bq ?_ (cM.aF ⟨rfl,rfl,rfl,rfl,rfl,trivial⟩);rw [ho,er]
   | true =>
    have sz:=hz;have b3:(R.map enc).set ((X.length + (aJ.length + 1):Nat):Int).toNat (enc z)=((R.map enc).set ((X.length + (aJ.length + 1):Nat):Int).toNat (enc z)):=rfl;have dH:((X.length + (aJ.length + 1):Nat):Int).toNat < (R.map enc).length:=by omega
    have dG:((X.length + aJ.length:Nat):Int).toNat < ((R.map enc).set ((X.length + (aJ.length + 1):Nat):Int).toNat (enc z)).length:=by rw [List.length_set];omega
    repeat ((refine J.seq ?_))
    refine J.draw (by kernel_rfl) rfl ?_;refine JW.base none ?_;refine tk 0 ?_;refine tk 1 ?_;refine JD.take 2 rfl rfl (by kernel_rfl) rfl (qb rfl) (Qt.cmp rfl rfl (congrArg some t2)) rfl ?_;refine tk 3 ?_;refine tk 4 ?_;refine tk 5 ?_;refine tk 6 ?_
    (refine JD.take 7 rfl rfl (by kernel_rfl) rfl (qb rfl) (Qt.aN rfl rfl z2 c2) rfl ?_)
    (refine JD.take 8 rfl rfl (by kernel_rfl) rfl (qb rfl) (Qt.bk rfl b2 (hz _)) rfl ?_)
    refine tk 9 ?_;refine tk 10 ?_
    (refine JD.take 11 rfl rfl (by kernel_rfl) rfl (qb rfl) (Qt.aD rfl rfl rfl w2) rfl ?_)
    (refine JD.take 12 rfl rfl (by kernel_rfl) rfl (qb rfl) (Qt.aN rfl rfl z1 c1) rfl ?_)
    (refine JD.take 13 rfl rfl (by kernel_rfl) rfl (qb rfl) (Qt.bk rfl b1 (hz _)) rfl ?_)
    refine jl 14 rfl rfl rfl rfl (Ld.fu CF x z ⟨[_],rfl⟩ (qb rfl) rfl rfl rfl) .none (fun _=>?_)
    (refine JD.take 15 rfl rfl (by kernel_rfl) rfl (qb rfl) (Qt.cmp rfl rfl (congrArg some (fq t3))) rfl ?_)
    refine jk 16 rfl rfl rfl rfl (Qt.pick rfl rfl) ?_;refine aX ?_
    repeat (refine gn ?_)
    refine J.draw (by kernel_rfl) rfl ?_;refine JW.iu none (.tmp 0) rfl ?_;refine tk 0 ?_;refine tk 1 ?_;refine tk 2 ?_;refine tk 3 ?_;refine JD.take 4 rfl rfl (by kernel_rfl) rfl (qb rfl) (Qt.aD rfl rfl rfl w2) rfl ?_;refine tk 5 ?_;refine tk 6 ?_;refine JD.take 7 rfl rfl (by kernel_rfl) rfl (qb rfl) (Qt.aD rfl rfl rfl w2) rfl ?_;refine JD.take 8 rfl rfl (by kernel_rfl) rfl (qb rfl) (Qt.aN rfl rfl z1 c1) rfl ?_;refine tk 10 ?_;refine tk 11 ?_;refine JD.take 12 rfl rfl (by kernel_rfl) rfl (qb rfl) (Qt.aN rfl rfl z2 c2) rfl ?_;refine JD.cF (i:=9) (j:=13) (by kernel_rfl) ?_ ?_;refine JS.q rfl rfl rfl (qb rfl) (Qt.bk rfl b1 (hz _)) ?_;refine jk 13 rfl rfl rfl rfl (Qt.bk rfl b2 (hz _)) ?_;refine JD.take 14 rfl rfl (by kernel_rfl) rfl (qb rfl) (Qt.aN rfl rfl z2 c2) rfl ?_;refine JD.cE (i:=15) (by kernel_rfl) ?_;refine JS.st rfl rfl rfl (Ld.bM rfl rfl rfl (hz _) dH) (.cK rfl) (fun _=>?_);refine JD.take 16 rfl rfl (by kernel_rfl) rfl (qb rfl) (Qt.aN rfl rfl z1 c1) rfl ?_;refine JD.cE (i:=17) (by kernel_rfl) ?_;refine JS.st rfl rfl rfl (Ld.bM rfl rfl rfl (hz _) dG) (.cK rfl) (fun _=>?_);refine aX ?_
    rotate_left
    refine JS.q rfl rfl rfl (qb rfl) (Qt.bk rfl b2 (hz _)) ?_;refine jk 9 rfl rfl rfl rfl (Qt.bk rfl b1 (hz _)) ?_;refine JD.take 14 rfl rfl (by kernel_rfl) rfl (qb rfl) (Qt.aN rfl rfl z2 c2) rfl ?_;refine JD.cE (i:=15) (by kernel_rfl) ?_;refine JS.st rfl rfl rfl (Ld.bM rfl rfl rfl (hz _) dH) (.cK rfl) (fun _=>?_);refine JD.take 16 rfl rfl (by kernel_rfl) rfl (qb rfl) (Qt.aN rfl rfl z1 c1) rfl ?_;refine JD.cE (i:=17) (by kernel_rfl) ?_;refine JS.st rfl rfl rfl (Ld.bM rfl rfl rfl (hz _) dG) (.cK rfl) (fun _=>?_);refine aX ?_
    rotate_left
    all_goals
     repeat (first | (refine K.binOp ?_;refine jq rfl rfl rfl ((Qt.aD rfl rfl rfl w2)) ?_) | refine gn ?_)
     refine J.bq ?_ ((iO ⟨(aJ,z :: S2),by simp [qS],by simp only [List.mem_cons];rintro y (rfl | hy);exact of_decide_eq_true t3;exact qx y hy⟩ (by simp only;omega)).aF ⟨rfl,rfl,rfl,rfl,rfl,rfl,trivial⟩);simp only;refine congrArg (fun r=>ak.row v 111 3 r :: C) (Eq.trans ?_ sw.symm);simp
 ·have t1:decide (((X.length + k:Nat):Int) < ((X.length + A0.length:Nat):Int))=false:=decide_eq_false (by omega);rw [List.take_of_length_le (by omega),List.drop_of_length_le (by omega),List.append_nil]
  repeat (refine gn ?_)
  (exact J.fo func138 rfl .nil () (by exact .refl) rfl)
theorem Ap (CF:dV prog fv C enc key) (hz:∀ x,(enc x).length=3) (v:Value) (l X A0 Y:List α) (a b:Nat) (hl:l=X ++ A0 ++ Y) (ha:a=X.length) (hb:b=a + A0.length) (hs:X.length + A0.length + Y.length≤1000000) :
  aA prog 138 [.c (.v v),.c (nI a),.c (nI b),.c (.v fv)] (.row v 111 3 (l.map enc) :: C) (fun _:Unit=>(.aU [],.row v 111 3 ((X ++ Ss.bg key A0 ++ Y).map enc) :: C)):=by
 subst hl ha hb;exact Fi CF hz v X A0 Y hs
theorem xG (hz:∀ x,(enc x).length=3) (v:Value) (l:List α) (a b n:Nat) (ha:a + n≤l.length) (hb:b + n≤l.length) (hs:l.length≤1000000) :
  aA prog 170 [.c (.v v),.c (nI a),.c (nI b),.c (nI n),.c (.v fv)] [.row v 111 3 (l.map enc)] (fun _:Unit=>(.aU [],[.row v 111 3 ((Ss.eE l a b n).map enc)])):=by
 refine aA.intro func170 rfl rfl rfl (fun ok e=>?_)
 repeat (refine gn ?_)
 refine J.loop (ι:={ i:Nat // i≤n }) (fun q=>[(10,.c (nI q.1)),(0,.c (.v v)),(1,.c (nI a)),(2,.c (nI b)),(3,.c (nI n)),(4,.c (.v fv))]) (fun q=>[.row v 111 3 ((Ss.eE l a b q.1).map enc)]) (fun q=>n - q.1) ⟨0,Nat.zero_le _⟩ (fun X h=>h.aF ⟨rfl,rfl,rfl,rfl,rfl,rfl,trivial⟩) (fun q ih=>?_);obtain ⟨i,hi⟩:=q;simp only at hi ih ⊢
 by_cases hk:i < n
 ·have t1:decide ((i:Int) < (n:Int))=true:=decide_eq_true (by omega);have lR:=Ss.lO l a b i;have cM:=ih ⟨i + 1,by omega⟩ (by simp only;omega);clear ih;simp only [Ss.eE] at cM;generalize Ss.eE l a b i=R at lR cM ⊢;obtain ⟨x,a1⟩:∃ x,R[a + i]?=some x:=⟨_,List.getElem?_eq_getElem (by omega)⟩
  obtain ⟨y,a2⟩:∃ y,R[b + i]?=some y:=⟨_,List.getElem?_eq_getElem (by omega)⟩
  have w1:IntKind.i64.wrap ((a:Int) + (i:Int))=((a + i:Nat):Int):=dQ (by omega);have w2:IntKind.i64.wrap ((b:Int) + (i:Int))=((b + i:Nat):Int):=dQ (by omega);have w3:IntKind.i64.wrap ((i:Int) + 1)=((i + 1:Nat):Int):=by rw [aV (by omega) (by omega)];omega
  have b1:=cS (enc:=enc) a1;have b2:=cS (enc:=enc) a2;have c1:=dh (enc:=enc) a1;have c2:=dh (enc:=enc) a2;have z1:(0:Int)≤((a + i:Nat):Int):=Int.natCast_nonneg _;have z2:(0:Int)≤((b + i:Nat):Int):=Int.natCast_nonneg _;have sw:=ki (enc:=enc) a1 a2;have dH:((a + i:Nat):Int).toNat < (R.map enc).length:=by omega
  have dG:((b + i:Nat):Int).toNat < ((R.map enc).set ((a + i:Nat):Int).toNat (enc y)).length:=by rw [List.length_set];omega
  repeat (refine gn ?_)
  refine J.draw (by kernel_rfl) rfl ?_;refine JW.iu none (.tmp 0) rfl ?_;refine tk 0 ?_;refine tk 1 ?_;refine tk 2 ?_;refine JD.take 3 rfl rfl (by kernel_rfl) rfl (qb rfl) (Qt.aD rfl rfl rfl w1) rfl ?_;refine tk 4 ?_;refine tk 5 ?_;refine tk 6 ?_;refine JD.take 7 rfl rfl (by kernel_rfl) rfl (qb rfl) (Qt.aD rfl rfl rfl w2) rfl ?_;refine tk 8 ?_;refine tk 9 ?_;refine tk 10 ?_;refine JD.take 11 rfl rfl (by kernel_rfl) rfl (qb rfl) (Qt.aD rfl rfl rfl w2) rfl ?_;refine JD.take 12 rfl rfl (by kernel_rfl) rfl (qb rfl) (Qt.aN rfl rfl z2 c2) rfl ?_;refine tk 14 ?_;refine tk 15 ?_;refine tk 16 ?_;refine JD.take 17 rfl rfl (by kernel_rfl) rfl (qb rfl) (Qt.aD rfl rfl rfl w1) rfl ?_;refine JD.take 18 rfl rfl (by kernel_rfl) rfl (qb rfl) (Qt.aN rfl rfl z1 c1) rfl ?_;refine JD.cF (i:=13) (j:=19) (by kernel_rfl) ?_ ?_;refine JS.q rfl rfl rfl (qb rfl) (Qt.bk rfl b2 (hz _)) ?_;refine jk 19 rfl rfl rfl rfl (Qt.bk rfl b1 (hz _)) ?_;refine JD.take 20 rfl rfl (by kernel_rfl) rfl (qb rfl) (Qt.aN rfl rfl z1 c1) rfl ?_;refine JD.cE (i:=21) (by kernel_rfl) ?_;refine JS.st rfl rfl rfl (Ld.bM rfl rfl rfl (hz _) dH) (.cK rfl) (fun _=>?_);refine JD.take 22 rfl rfl (by kernel_rfl) rfl (qb rfl) (Qt.aN rfl rfl z2 c2) rfl ?_;refine JD.cE (i:=23) (by kernel_rfl) ?_;refine JS.st rfl rfl rfl (Ld.bM rfl rfl rfl (hz _) dG) (.cK rfl) (fun _=>?_);refine aX ?_
  rotate_left
  refine JS.q rfl rfl rfl (qb rfl) (Qt.bk rfl b1 (hz _)) ?_;refine jk 13 rfl rfl rfl rfl (Qt.bk rfl b2 (hz _)) ?_;refine JD.take 20 rfl rfl (by kernel_rfl) rfl (qb rfl) (Qt.aN rfl rfl z1 c1) rfl ?_;refine JD.cE (i:=21) (by kernel_rfl) ?_;refine JS.st rfl rfl rfl (Ld.bM rfl rfl rfl (hz _) dH) (.cK rfl) (fun _=>?_);refine JD.take 22 rfl rfl (by kernel_rfl) rfl (qb rfl) (Qt.aN rfl rfl z2 c2) rfl ?_;refine JD.cE (i:=23) (by kernel_rfl) ?_;refine JS.st rfl rfl rfl (Ld.bM rfl rfl rfl (hz _) dG) (.cK rfl) (fun _=>?_);refine aX ?_
  rotate_left
  all_goals
   repeat (first | (refine K.binOp ?_;refine jq rfl rfl rfl ((Qt.aD rfl rfl rfl w3)) ?_) | refine gn ?_)
   refine J.bq ?_ (cM.aF ⟨rfl,rfl,rfl,rfl,rfl,rfl,trivial⟩);exact congrArg (fun r=>[ak.row v 111 3 r]) sw.symm
 ·obtain rfl:i=n:=by omega
  have t1:decide ((i:Int) < (i:Int))=false:=decide_eq_false (by omega)
  repeat (refine gn ?_)
  (exact J.fo func170 rfl .nil () (by exact .refl) rfl)
theorem Fj (hz:∀ x,(enc x).length=3) (v:Value) (l0 X U V Y:List α) (a m b:Nat) (hl:l0=X ++ U ++ V ++ Y) (ha:a=X.length) (hm:m=a + U.length) (hb:b=m + V.length) (hu:U.length≠0) (hv:V.length≠0) (hs:l0.length≤1000000) :
  aA prog 161 [.c (.v v),.c (nI a),.c (nI m),.c (nI b),.c (.v fv)] [.row v 111 3 (l0.map enc)] (fun _:Unit=>(.aU [],[.row v 111 3 ((X ++ V ++ U ++ Y).map enc)])):=by
 have e0:=Ss.sk m _ X U V Y (Nat.le_refl _) hu hv (by omega);rw [← hl] at e0;have len:m + V.length≤l0.length:=by rw [hl];simp;omega
 generalize X ++ V ++ U ++ Y=r at e0 ⊢;have w0:IntKind.i64.wrap ((m:Int) - (a:Int))=(U.length:Int):=by rw [aV (by omega) (by omega)];omega
 have w1:IntKind.i64.wrap ((b:Int) - (m:Int))=(V.length:Int):=by rw [aV (by omega) (by omega)];omega
 refine aA.intro func161 rfl rfl rfl (fun ok e=>?_)
 repeat (first | (refine K.binOp ?_;first | refine jq rfl rfl rfl ((Qt.aD rfl rfl rfl w0)) ?_ | refine jq rfl rfl rfl ((Qt.aD rfl rfl rfl w1)) ?_) | refine gn ?_)
 refine J.loop (ι:={ q:List α × Nat × Nat // q.1.length=l0.length∧0 < q.2.1∧q.2.1≤m∧0 < q.2.2∧m + q.2.2≤l0.length∧Ss.jv q.1 m q.2.1 q.2.2=r }) (fun q=>[(10,.c (nI q.1.2.1)),(11,.c (nI q.1.2.2)),(0,.c (.v v)),(2,.c (nI m)),(4,.c (.v fv))]) (fun q=>[.row v 111 3 (q.1.1.map enc)]) (fun q=>q.1.2.1 + q.1.2.2) ⟨(l0,U.length,V.length),rfl,by simp only;omega,by simp only;omega,by simp only;omega,len,e0⟩ (fun X h=>h.aF ⟨rfl,rfl,rfl,rfl,rfl,trivial⟩) (fun q ih=>?_);obtain ⟨⟨l,i,j⟩,NF,qi,qm,qj,qn,qr⟩:=q;simp only at NF qi qm qj qn qr ih ⊢;have w2:IntKind.i64.wrap ((m:Int) - (i:Int))=((m - i:Nat):Int):=by rw [aV (by omega) (by omega)];omega
 rcases Nat.lt_trichotomy i j with h | h | h
 ·have t1:((i:Int) != (j:Int))=true:=by simp;omega
  have t2:decide ((i:Int) > (j:Int))=false:=decide_eq_false (by omega);have w3:IntKind.i64.wrap ((j:Int) - (i:Int))=((j - i:Nat):Int):=by rw [aV (by omega) (by omega)];omega
  have w4:IntKind.i64.wrap ((m:Int) + (j:Int))=((m + j:Nat):Int):=dQ (by omega);have w5:IntKind.i64.wrap (((m + j:Nat):Int) - (i:Int))=((m + j - i:Nat):Int):=by rw [aV (by omega) (by omega)];omega
  have CS:=xG (fv:=fv) hz v l (m - i) (m + j - i) i (by omega) (by omega) (by omega)
  repeat (first | (refine K.binOp ?_;first | refine jq rfl rfl rfl ((Qt.aD rfl rfl rfl w2)) ?_ | refine jq rfl rfl rfl ((Qt.aD rfl rfl rfl w3)) ?_ | refine jq rfl rfl rfl ((Qt.aD rfl rfl rfl w4)) ?_ | refine jq rfl rfl rfl ((Qt.aD rfl rfl rfl w5)) ?_) | (refine K.call ?_;refine JO.ld (Ld.dP (CS) (qb rfl) rfl (.cons .refl (.cons .refl (.cons .refl (.cons .refl (.cons .refl .nil)))))) rfl (fun _=>?_)) | refine gn ?_)
  exact (ih ⟨(Ss.eE l (m - i) (m + j - i) i,i,j - i),by simp only [Ss.lO];exact NF,qi,qm,by simp only;omega,by simp only;omega,by simp only;rw [← Ss.uM l m i j h (by omega)];exact qr⟩ (by simp only;omega)).aF ⟨rfl,rfl,rfl,rfl,rfl,trivial⟩
 ·subst h;rw [Ss.uK] at qr;have t1:((i:Int) != (i:Int))=false:=by simp
  have CS:=xG (fv:=fv) hz v l (m - i) m i (by omega) (by omega) (by omega);rw [qr] at CS
  repeat (first | (refine K.binOp ?_;refine jq rfl rfl rfl ((Qt.aD rfl rfl rfl w2)) ?_) | (refine K.call ?_;refine JO.ld (Ld.dP (CS) (qb rfl) rfl (.cons .refl (.cons .refl (.cons .refl (.cons .refl (.cons .refl .nil)))))) rfl (fun _=>?_)) | refine gn ?_)
  (exact J.fo func161 rfl .nil () (by exact .refl) rfl)
 ·have t1:((i:Int) != (j:Int))=true:=by simp;omega
  have t2:decide ((i:Int) > (j:Int))=true:=decide_eq_true (by omega);have w3:IntKind.i64.wrap ((i:Int) - (j:Int))=((i - j:Nat):Int):=by rw [aV (by omega) (by omega)];omega
  have CS:=xG (fv:=fv) hz v l (m - i) m j (by omega) (by omega) (by omega)
  repeat (first | (refine K.binOp ?_;first | refine jq rfl rfl rfl ((Qt.aD rfl rfl rfl w2)) ?_ | refine jq rfl rfl rfl ((Qt.aD rfl rfl rfl w3)) ?_) | (refine K.call ?_;refine JO.ld (Ld.dP (CS) (qb rfl) rfl (.cons .refl (.cons .refl (.cons .refl (.cons .refl (.cons .refl .nil)))))) rfl (fun _=>?_)) | refine gn ?_)
  exact (ih ⟨(Ss.eE l (m - i) m j,i - j,j),by simp only [Ss.lO];exact NF,by simp only;omega,by simp only;omega,qj,qn,by simp only;rw [← Ss.uL l m i j h (by omega)];exact qr⟩ (by simp only;omega)).aF ⟨rfl,rfl,rfl,rfl,rfl,trivial⟩
end
end Fl
open Go.RowKit
namespace Fl
open Sx Go.Proofs.Tryz
set_option maxRecDepth 100000
set_option maxHeartbeats 4000000
section
variable {α:Type} {enc:α→List A} {key:α→Int} {fv:Value} {C:List ak}
theorem Fk (CF:dV prog fv C enc key) (hz:∀ x,(enc x).length=3) (v:Value) (l X A0 B0 Y:List α) (a m b:Nat) (hl:l=X ++ A0 ++ B0 ++ Y) (ha:a=X.length) (hm:m=a + A0.length) (hb:b=m + B0.length) (nA:A0.length≠0) (nB:B0.length≠0) (sA:Ss.cu key A0) (sB:Ss.cu key B0) (hn:l.length≤1000000) (h1:A0.length=1) :
  aA prog 139 [.c (.v v),.c (nI a),.c (nI m),.c (nI b),.c (.v fv)] (.row v 111 3 (l.map enc) :: C) (fun _:Unit=>(.aU [],.row v 111 3 ((X ++ Ss.mg key A0 B0 ++ Y).map enc) :: C)):=by
 have len:l.length=b + Y.length:=by rw [hl];simp;omega
 have w0:IntKind.i64.wrap ((m:Int) - (a:Int))=(A0.length:Int):=by rw [aV (by omega) (by omega)];omega
 have w1:IntKind.i64.wrap ((b:Int) - (m:Int))=(B0.length:Int):=by rw [aV (by omega) (by omega)];omega
 refine aA.intro func139 rfl rfl rfl (fun ok e=>?_);have t0:((A0.length:Int) == 1)=true:=by rw [h1];rfl
 obtain ⟨x,rfl⟩:=List.length_eq_one_iff.1 h1;obtain ⟨B1,B2,rfl,hr,k1,k2⟩:=Ss.xC (key x) (X ++ [x]) B0 Y m b (by simp;omega) hb sB;rw [Ss.xE k1 k2];rw [← hl] at hr;have ax:l[a]?=some x:=by rw [hl,ha,show X ++ [x] ++ (B1 ++ B2) ++ Y=X ++ x :: (B1 ++ B2 ++ Y) by simp];exact Ss.at_app _ _ _
 generalize hp:(fun h=>decide (Ss.ky key l h < key x))=p at hr;have nk:(B1 ++ B2).length=B1.length + B2.length:=List.length_append;have bx:=cS (enc:=enc) ax;have cx:=dh (enc:=enc) ax;have zx:(0:Int)≤(a:Int):=Int.natCast_nonneg _
 repeat (first | (refine K.binOp ?_;refine jq rfl rfl rfl ((Qt.aD rfl rfl rfl w0)) ?_) | refine gn ?_)
 refine J.loop (ι:={ q:Nat × Nat // m≤q.1∧q.1≤q.2∧q.2≤b∧Ss.bs p q.1 q.2=m + B1.length }) (fun q=>[(10,.c (nI q.1.1)),(11,.c (nI q.1.2)),(0,.c (.v v)),(1,.c (nI a)),(2,.c (nI m)),(3,.c (nI b)),(4,.c (.v fv))]) (fun q=>.row v 111 3 (l.map enc) :: C) (fun q=>q.1.2 - q.1.1) ⟨(m,b),Nat.le_refl _,by simp only;omega,Nat.le_refl _,hr⟩ (fun X h=>h.aF ⟨rfl,rfl,rfl,rfl,rfl,rfl,rfl,trivial⟩) (fun q ih=>?_);obtain ⟨⟨i,j⟩,q1,q2,q3,q4⟩:=q;simp only at q1 q2 q3 q4 ih ⊢
 by_cases hk:i < j
 ·have t1:decide ((i:Int) < (j:Int))=true:=decide_eq_true (by omega);obtain ⟨y,ay⟩:∃ y,l[(i + j) / 2]?=some y:=⟨_,List.getElem?_eq_getElem (by omega)⟩
  have eF:=cS (enc:=enc) ay
  have cy:=dh (enc:=enc) ay;have zy:(0:Int)≤(((i + j) / 2:Nat):Int):=Int.natCast_nonneg _;have py:p ((i + j) / 2)=decide (key y < key x):=by rw [← hp];simp only;rw [Ss.jy ay]
  have w2:IntKind.i64.wrap ((i:Int) + (j:Int))=((i + j:Nat):Int):=dQ (by omega);have w3:IntKind.u64.wrap ((i + j:Nat):Int)=((i + j:Nat):Int):=kj (by omega);have w4:IntKind.i64.wrap (((i + j) / 2:Nat):Int)=(((i + j) / 2:Nat):Int):=aV (by omega) (by omega);have w5:IntKind.i64.wrap ((((i + j) / 2:Nat):Int) + 1)=(((i + j) / 2 + 1:Nat):Int):=by rw [aV (by omega) (by omega)];omega
  have hh:i + j≤4000000:=by omega
  repeat (first | (refine K.binOp ?_;first | refine jq rfl rfl rfl ((Qt.aD rfl rfl rfl w2)) ?_ | refine jq rfl rfl rfl (Qt.bin rfl rfl (fun w=>kn hh)) ?_) | (refine K.convert ?_;first | refine jq rfl rfl rfl (Qt.conv rfl w3) ?_ | refine jq rfl rfl rfl (Qt.conv rfl w4) ?_) | refine gn ?_)
  cases t3:decide (key y < key x) with
  | true =>
   rw [t3] at py;refine J.draw (by kernel_rfl) rfl ?_;refine JW.base none ?_;refine tk 0 ?_;refine tk 1 ?_;refine tk 2 ?_;refine JD.take 3 rfl rfl (by kernel_rfl) rfl (qb rfl) (Qt.aN rfl rfl zy cy) rfl ?_;refine JD.take 4 rfl rfl (by kernel_rfl) rfl (qb rfl) (Qt.bk rfl eF (hz _)) rfl ?_;refine tk 5 ?_;refine tk 6 ?_;refine JD.take 7 rfl rfl (by kernel_rfl) rfl (qb rfl) (Qt.aN rfl rfl zx cx) rfl ?_;refine JD.take 8 rfl rfl (by kernel_rfl) rfl (qb rfl) (Qt.bk rfl bx (hz _)) rfl ?_;refine jl 9 rfl rfl rfl rfl (Ld.fu CF y x ⟨[_],rfl⟩ (qb rfl) rfl rfl rfl) .none (fun _=>?_);refine jk 10 rfl rfl rfl rfl (Qt.cmp rfl rfl (congrArg some (fq t3))) ?_;refine aX ?_
   repeat (first | (refine K.binOp ?_;refine jq rfl rfl rfl ((Qt.aD rfl rfl rfl w5)) ?_) | refine gn ?_)
   exact (ih ⟨((i + j) / 2 + 1,j),by simp only;omega,by simp only;omega,q3,by simp only;rw [← Ss.lP hk py];exact q4⟩ (by simp only;omega)).aF ⟨rfl,rfl,rfl,rfl,rfl,rfl,rfl,trivial⟩
  | false =>
   rw [t3] at py;refine J.draw (by kernel_rfl) rfl ?_;refine JW.base none ?_;refine tk 0 ?_;refine tk 1 ?_;refine tk 2 ?_;refine JD.take 3 rfl rfl (by kernel_rfl) rfl (qb rfl) (Qt.aN rfl rfl zy cy) rfl ?_;refine JD.take 4 rfl rfl (by kernel_rfl) rfl (qb rfl) (Qt.bk rfl eF (hz _)) rfl ?_;refine tk 5 ?_;refine tk 6 ?_;refine JD.take 7 rfl rfl (by kernel_rfl) rfl (qb rfl) (Qt.aN rfl rfl zx cx) rfl ?_;refine JD.take 8 rfl rfl (by kernel_rfl) rfl (qb rfl) (Qt.bk rfl bx (hz _)) rfl ?_;refine jl 9 rfl rfl rfl rfl (Ld.fu CF y x ⟨[_],rfl⟩ (qb rfl) rfl rfl rfl) .none (fun _=>?_);refine jk 10 rfl rfl rfl rfl (Qt.cmp rfl rfl (congrArg some (fq t3))) ?_;refine aX ?_
   repeat (refine gn ?_)
   exact (ih ⟨(i,(i + j) / 2),q1,by simp only;omega,by simp only;omega,by simp only;rw [← Ss.lQ hk py];exact q4⟩ (by simp only;omega)).aF ⟨rfl,rfl,rfl,rfl,rfl,rfl,rfl,trivial⟩
 ·have t1:decide ((i:Int) < (j:Int))=false:=decide_eq_false (by omega);rw [Ss.kQ hk] at q4;clear ih q1 q2 q3 hp hr bx cx;subst q4;rw [hl];clear hl ax
  repeat (refine gn ?_)
  refine J.bq (L':=.row v 111 3 ((X ++ ([] ++ x :: B1 ++ B2) ++ Y).map enc) :: C) (by simp) ?_;refine J.loop (ι:={ q:List α × List α // B1=q.1 ++ q.2 }) (fun q=>[(13,.c (nI (a + q.1.1.length:Nat))),(10,.c (nI (m + B1.length:Nat))),(0,.c (.v v)),(1,.c (nI a)),(4,.c (.v fv))]) (fun q=>.row v 111 3 ((X ++ (q.1.1 ++ x :: q.1.2 ++ B2) ++ Y).map enc) :: C) (fun q=>q.1.2.length) ⟨([],B1),rfl⟩ (fun X h=>h.aF ⟨rfl,rfl,rfl,rfl,rfl,trivial⟩) (fun q ih=>?_);obtain ⟨⟨S1,S2⟩,qS⟩:=q;simp only at qS ih ⊢;have lB:B1.length=S1.length + S2.length:=by rw [qS];simp
  have w2:IntKind.i64.wrap (((m + B1.length:Nat):Int) - 1)=((m + B1.length - 1:Nat):Int):=by rw [aV (by omega) (by omega)];omega
  cases S2 with
  | nil =>
   have t2:decide (((a + S1.length:Nat):Int) < ((m + B1.length - 1:Nat):Int))=false:=decide_eq_false (by simp at lB h1 hm;omega);rw [List.append_nil] at qS;subst qS
   repeat (first | (refine K.binOp ?_;refine jq rfl rfl rfl ((Qt.aD rfl rfl rfl w2)) ?_) | refine gn ?_)
   refine J.bq (L':=.row v 111 3 ((X ++ (B1 ++ x :: B2) ++ Y).map enc) :: C) (by simp) ?_
   (exact J.nG func139 rfl .nil () (by exact .refl) rfl)
  | cons z S2 =>
   have t2:decide (((a + S1.length:Nat):Int) < ((m + B1.length - 1:Nat):Int))=true:=decide_eq_true (by simp only [List.length_cons,List.length_nil] at lB hm;omega);have w3:IntKind.i64.wrap (((a + S1.length:Nat):Int) + 1)=((a + (S1.length + 1):Nat):Int):=by simp only [List.length_cons,List.length_nil] at lB hm;rw [aV (by omega) (by omega)];omega
   have er:X ++ (S1 ++ x :: z :: S2 ++ B2) ++ Y=(X ++ S1) ++ x :: z :: (S2 ++ B2 ++ Y):=by simp
   rw [er];have a1:((X ++ S1) ++ x :: z :: (S2 ++ B2 ++ Y))[a + S1.length]?=some x:=by rw [show a + S1.length=(X ++ S1).length by simp;omega];exact Ss.at_app _ _ _
   have a2:((X ++ S1) ++ x :: z :: (S2 ++ B2 ++ Y))[a + (S1.length + 1)]?=some z:=by rw [show a + (S1.length + 1)=((X ++ S1) ++ [x]).length by simp only [List.length_append,List.length_singleton];omega,show (X ++ S1) ++ x :: z :: (S2 ++ B2 ++ Y)=((X ++ S1) ++ [x]) ++ z :: (S2 ++ B2 ++ Y) by simp];exact Ss.at_app _ _ _
   have b1:=cS (enc:=enc) a1;have b2:=cS (enc:=enc) a2;have c1:=dh (enc:=enc) a1;have c2:=dh (enc:=enc) a2;have z1:(0:Int)≤((a + S1.length:Nat):Int):=Int.natCast_nonneg _;have z2:(0:Int)≤((a + (S1.length + 1):Nat):Int):=Int.natCast_nonneg _;have sw:=ki (enc:=enc) a1 a2;rw [Ss.mG (X ++ S1) x z (S2 ++ B2 ++ Y) _ _ (by simp;omega) (by simp;omega)] at sw;generalize hR:(X ++ S1) ++ x :: z :: (S2 ++ B2 ++ Y)=R at er b1 b2 c1 c2 sw ⊢;have dH:((a + S1.length:Nat):Int).toNat < (R.map enc).length:=by omega
   have dG:((a + (S1.length + 1):Nat):Int).toNat < ((R.map enc).set ((a + S1.length:Nat):Int).toNat (enc z)).length:=by rw [List.length_set];omega
   repeat (first | (refine K.binOp ?_;refine jq rfl rfl rfl ((Qt.aD rfl rfl rfl w2)) ?_) | refine gn ?_)
   refine J.draw (by kernel_rfl) rfl ?_;refine JW.iu none (.tmp 0) rfl ?_;refine tk 0 ?_;refine tk 1 ?_;refine tk 2 ?_;refine tk 3 ?_;refine JD.take 4 rfl rfl (by kernel_rfl) rfl (qb rfl) (Qt.aD rfl rfl rfl w3) rfl ?_;refine tk 5 ?_;refine tk 6 ?_;refine JD.take 7 rfl rfl (by kernel_rfl) rfl (qb rfl) (Qt.aD rfl rfl rfl w3) rfl ?_;refine JD.take 8 rfl rfl (by kernel_rfl) rfl (qb rfl) (Qt.aN rfl rfl z2 c2) rfl ?_;refine tk 10 ?_;refine tk 11 ?_;refine JD.take 12 rfl rfl (by kernel_rfl) rfl (qb rfl) (Qt.aN rfl rfl z1 c1) rfl ?_;refine JD.cF (i:=9) (j:=13) (by kernel_rfl) ?_ ?_;refine JS.q rfl rfl rfl (qb rfl) (Qt.bk rfl b2 (hz _)) ?_;refine jk 13 rfl rfl rfl rfl (Qt.bk rfl b1 (hz _)) ?_;refine JD.take 14 rfl rfl (by kernel_rfl) rfl (qb rfl) (Qt.aN rfl rfl z1 c1) rfl ?_;refine JD.cE (i:=15) (by kernel_rfl) ?_;refine JS.st rfl rfl rfl (Ld.bM rfl rfl rfl (hz _) dH) (.cK rfl) (fun _=>?_);refine JD.take 16 rfl rfl (by kernel_rfl) rfl (qb rfl) (Qt.aN rfl rfl z2 c2) rfl ?_;refine JD.cE (i:=17) (by kernel_rfl) ?_;refine JS.st rfl rfl rfl (Ld.bM rfl rfl rfl (hz _) dG) (.cK rfl) (fun _=>?_);refine aX ?_
   rotate_left
   refine JS.q rfl rfl rfl (qb rfl) (Qt.bk rfl b1 (hz _)) ?_;refine jk 9 rfl rfl rfl rfl (Qt.bk rfl b2 (hz _)) ?_;refine JD.take 14 rfl rfl (by kernel_rfl) rfl (qb rfl) (Qt.aN rfl rfl z1 c1) rfl ?_;refine JD.cE (i:=15) (by kernel_rfl) ?_;refine JS.st rfl rfl rfl (Ld.bM rfl rfl rfl (hz _) dH) (.cK rfl) (fun _=>?_);refine JD.take 16 rfl rfl (by kernel_rfl) rfl (qb rfl) (Qt.aN rfl rfl z2 c2) rfl ?_;refine JD.cE (i:=17) (by kernel_rfl) ?_;refine JS.st rfl rfl rfl (Ld.bM rfl rfl rfl (hz _) dG) (.cK rfl) (fun _=>?_);refine aX ?_
   rotate_left
   all_goals
    repeat (first | (refine K.binOp ?_;refine jq rfl rfl rfl ((Qt.aD rfl rfl rfl w3)) ?_) | refine gn ?_)
    refine J.bq ?_ ((ih ⟨(S1 ++ [z],S2),by simp [qS]⟩ (by simp)).aF ⟨by simp only [List.length_append,List.length_singleton];rfl,rfl,rfl,rfl,rfl,trivial⟩);simp only;refine congrArg (fun r=>ak.row v 111 3 r :: C) (Eq.trans ?_ sw.symm);simp
theorem Fo (CF:dV prog fv C enc key) (hz:∀ x,(enc x).length=3) (v:Value) (l X A0 B0 Y:List α) (a m b:Nat) (hl:l=X ++ A0 ++ B0 ++ Y) (ha:a=X.length) (hm:m=a + A0.length) (hb:b=m + B0.length) (nA:A0.length≠0) (nB:B0.length≠0) (sA:Ss.cu key A0) (sB:Ss.cu key B0) (hn:l.length≤1000000) (h1:A0.length≠1) (h2:B0.length=1) :
  aA prog 139 [.c (.v v),.c (nI a),.c (nI m),.c (nI b),.c (.v fv)] (.row v 111 3 (l.map enc) :: C) (fun _:Unit=>(.aU [],.row v 111 3 ((X ++ Ss.mg key A0 B0 ++ Y).map enc) :: C)):=by
 have len:l.length=b + Y.length:=by rw [hl];simp;omega
 have w0:IntKind.i64.wrap ((m:Int) - (a:Int))=(A0.length:Int):=by rw [aV (by omega) (by omega)];omega
 have w1:IntKind.i64.wrap ((b:Int) - (m:Int))=(B0.length:Int):=by rw [aV (by omega) (by omega)];omega
 refine aA.intro func139 rfl rfl rfl (fun ok e=>?_);have t0:((A0.length:Int) == 1)=false:=by simp;omega
 have t9:((B0.length:Int) == 1)=true:=by rw [h2];rfl
 obtain ⟨y,rfl⟩:=List.length_eq_one_iff.1 h2;obtain ⟨A1,A2,rfl,hr,k1,k2⟩:=Ss.xD (key y) X A0 ([y] ++ Y) a m ha hm sA;rw [Ss.xF k1 k2];rw [show X ++ (A1 ++ A2) ++ ([y] ++ Y)=l by rw [hl];simp] at hr;have ay:l[m]?=some y:=by rw [hl,show X ++ (A1 ++ A2) ++ [y] ++ Y=(X ++ (A1 ++ A2)) ++ y :: Y by simp,show m=(X ++ (A1 ++ A2)).length by rw [List.length_append];omega];exact Ss.at_app _ _ _
 generalize hp:(fun h=>!decide (key y < Ss.ky key l h))=p at hr;have nk:(A1 ++ A2).length=A1.length + A2.length:=List.length_append;have eF:=cS (enc:=enc) ay
 have cy:=dh (enc:=enc) ay;have zy:(0:Int)≤(m:Int):=Int.natCast_nonneg _
 repeat (first | (refine K.binOp ?_;first | refine jq rfl rfl rfl ((Qt.aD rfl rfl rfl w0)) ?_ | refine jq rfl rfl rfl ((Qt.aD rfl rfl rfl w1)) ?_) | refine gn ?_)
 refine J.loop (ι:={ q:Nat × Nat // a≤q.1∧q.1≤q.2∧q.2≤m∧Ss.bs p q.1 q.2=a + A1.length }) (fun q=>[(14,.c (nI q.1.1)),(15,.c (nI q.1.2)),(0,.c (.v v)),(2,.c (nI m)),(4,.c (.v fv))]) (fun q=>.row v 111 3 (l.map enc) :: C) (fun q=>q.1.2 - q.1.1) ⟨(a,m),Nat.le_refl _,by simp only;omega,Nat.le_refl _,hr⟩ (fun X h=>h.aF ⟨rfl,rfl,rfl,rfl,rfl,trivial⟩) (fun q ih=>?_);obtain ⟨⟨i,j⟩,q1,q2,q3,q4⟩:=q;simp only at q1 q2 q3 q4 ih ⊢
 by_cases hk:i < j
 ·have t1:decide ((i:Int) < (j:Int))=true:=decide_eq_true (by omega);obtain ⟨x,ax⟩:∃ x,l[(i + j) / 2]?=some x:=⟨_,List.getElem?_eq_getElem (by omega)⟩
  have bx:=cS (enc:=enc) ax;have cx:=dh (enc:=enc) ax;have zx:(0:Int)≤(((i + j) / 2:Nat):Int):=Int.natCast_nonneg _;have py:p ((i + j) / 2)=!decide (key y < key x):=by rw [← hp];simp only;rw [Ss.jy ax]
  have w2:IntKind.i64.wrap ((i:Int) + (j:Int))=((i + j:Nat):Int):=dQ (by omega);have w3:IntKind.u64.wrap ((i + j:Nat):Int)=((i + j:Nat):Int):=kj (by omega);have w4:IntKind.i64.wrap (((i + j) / 2:Nat):Int)=(((i + j) / 2:Nat):Int):=aV (by omega) (by omega);have w5:IntKind.i64.wrap ((((i + j) / 2:Nat):Int) + 1)=(((i + j) / 2 + 1:Nat):Int):=by rw [aV (by omega) (by omega)];omega
  have hh:i + j≤4000000:=by omega
  repeat (first | (refine K.binOp ?_;first | refine jq rfl rfl rfl ((Qt.aD rfl rfl rfl w2)) ?_ | refine jq rfl rfl rfl (Qt.bin rfl rfl (fun w=>kn hh)) ?_) | (refine K.convert ?_;first | refine jq rfl rfl rfl (Qt.conv rfl w3) ?_ | refine jq rfl rfl rfl (Qt.conv rfl w4) ?_) | refine gn ?_)
  cases t3:decide (key y < key x) with
  | true =>
   rw [t3] at py;refine J.draw (by kernel_rfl) rfl ?_;refine JW.base none ?_;refine tk 0 ?_;refine tk 1 ?_;refine tk 2 ?_;refine JD.take 3 rfl rfl (by kernel_rfl) rfl (qb rfl) (Qt.aN rfl rfl zy cy) rfl ?_;refine JD.take 4 rfl rfl (by kernel_rfl) rfl (qb rfl) (Qt.bk rfl eF (hz _)) rfl ?_;refine tk 5 ?_;refine tk 6 ?_;refine JD.take 7 rfl rfl (by kernel_rfl) rfl (qb rfl) (Qt.aN rfl rfl zx cx) rfl ?_;refine JD.take 8 rfl rfl (by kernel_rfl) rfl (qb rfl) (Qt.bk rfl bx (hz _)) rfl ?_;refine jl 9 rfl rfl rfl rfl (Ld.fu CF y x ⟨[_],rfl⟩ (qb rfl) rfl rfl rfl) .none (fun _=>?_);refine jk 10 rfl rfl rfl rfl (Qt.cmp rfl rfl (congrArg some (fq t3))) ?_;refine jk 11 rfl rfl rfl rfl (Qt.not rfl) ?_;refine aX ?_
   repeat (refine gn ?_)
   exact (ih ⟨(i,(i + j) / 2),q1,by simp only;omega,by simp only;omega,by simp only;rw [← Ss.lQ hk py];exact q4⟩ (by simp only;omega)).aF ⟨rfl,rfl,rfl,rfl,rfl,trivial⟩
  | false =>
   rw [t3] at py;refine J.draw (by kernel_rfl) rfl ?_;refine JW.base none ?_;refine tk 0 ?_;refine tk 1 ?_;refine tk 2 ?_;refine JD.take 3 rfl rfl (by kernel_rfl) rfl (qb rfl) (Qt.aN rfl rfl zy cy) rfl ?_;refine JD.take 4 rfl rfl (by kernel_rfl) rfl (qb rfl) (Qt.bk rfl eF (hz _)) rfl ?_;refine tk 5 ?_;refine tk 6 ?_;refine JD.take 7 rfl rfl (by kernel_rfl) rfl (qb rfl) (Qt.aN rfl rfl zx cx) rfl ?_;refine JD.take 8 rfl rfl (by kernel_rfl) rfl (qb rfl) (Qt.bk rfl bx (hz _)) rfl ?_;refine jl 9 rfl rfl rfl rfl (Ld.fu CF y x ⟨[_],rfl⟩ (qb rfl) rfl rfl rfl) .none (fun _=>?_);refine jk 10 rfl rfl rfl rfl (Qt.cmp rfl rfl (congrArg some (fq t3))) ?_;refine jk 11 rfl rfl rfl rfl (Qt.not rfl) ?_;refine aX ?_
   repeat (first | (refine K.binOp ?_;refine jq rfl rfl rfl ((Qt.aD rfl rfl rfl w5)) ?_) | refine gn ?_)
   exact (ih ⟨((i + j) / 2 + 1,j),by simp only;omega,by simp only;omega,q3,by simp only;rw [← Ss.lP hk py];exact q4⟩ (by simp only;omega)).aF ⟨rfl,rfl,rfl,rfl,rfl,trivial⟩
 ·have t1:decide ((i:Int) < (j:Int))=false:=decide_eq_false (by omega);rw [Ss.kQ hk] at q4;clear ih q1 q2 q3 hp hr eF cy
  subst q4;rw [hl];clear hl ay
  repeat (refine gn ?_)
  refine J.bq (L':=.row v 111 3 ((X ++ (A1 ++ A2 ++ y :: []) ++ Y).map enc) :: C) (by simp) ?_;refine J.loop (ι:={ q:List α × List α // A2=q.1 ++ q.2 }) (fun q=>[(17,.c (nI (a + A1.length + q.1.1.length:Nat))),(14,.c (nI (a + A1.length:Nat))),(0,.c (.v v)),(4,.c (.v fv))]) (fun q=>.row v 111 3 ((X ++ (A1 ++ q.1.1 ++ y :: q.1.2) ++ Y).map enc) :: C) (fun q=>q.1.1.length) ⟨(A2,[]),by simp⟩ (fun X h=>h.aF ⟨by rw [show m=a + A1.length + A2.length by omega];rfl,rfl,rfl,rfl,trivial⟩) (fun q ih=>?_);obtain ⟨⟨S1,S2⟩,qS⟩:=q;simp only at qS ih ⊢;have lB:A2.length=S1.length + S2.length:=by rw [qS];simp
  rcases List.eq_nil_or_concat S1 with h | ⟨aJ,z,h⟩
  ·subst h;have t2:decide (((a + A1.length + ([]:List α).length:Nat):Int) > ((a + A1.length:Nat):Int))=false:=decide_eq_false (by simp);rw [List.nil_append] at qS;subst qS
   repeat (refine gn ?_)
   refine J.bq (L':=.row v 111 3 ((X ++ (A1 ++ y :: A2) ++ Y).map enc) :: C) (by simp) ?_
   (exact J.nG func139 rfl .nil () (by exact .refl) rfl)
  ·rw [List.concat_eq_append] at h;subst h;have l1:(aJ ++ [z]).length=aJ.length + 1:=by simp
   rw [l1] at lB ⊢;have t2:decide (((a + A1.length + (aJ.length + 1):Nat):Int) > ((a + A1.length:Nat):Int))=true:=decide_eq_true (by omega);have w3:IntKind.i64.wrap (((a + A1.length + (aJ.length + 1):Nat):Int) - 1)=((a + A1.length + aJ.length:Nat):Int):=by rw [aV (by omega) (by omega)];omega
   have er:X ++ (A1 ++ (aJ ++ [z]) ++ y :: S2) ++ Y=(X ++ A1 ++ aJ) ++ z :: y :: (S2 ++ Y):=by simp
   rw [er];have a1:((X ++ A1 ++ aJ) ++ z :: y :: (S2 ++ Y))[a + A1.length + aJ.length]?=some z:=by rw [show a + A1.length + aJ.length=(X ++ A1 ++ aJ).length by simp;omega];exact Ss.at_app _ _ _
   have a2:((X ++ A1 ++ aJ) ++ z :: y :: (S2 ++ Y))[a + A1.length + (aJ.length + 1)]?=some y:=by rw [show a + A1.length + (aJ.length + 1)=((X ++ A1 ++ aJ) ++ [z]).length by simp only [List.length_append,List.length_singleton];omega,show (X ++ A1 ++ aJ) ++ z :: y :: (S2 ++ Y)=((X ++ A1 ++ aJ) ++ [z]) ++ y :: (S2 ++ Y) by simp];exact Ss.at_app _ _ _
   have b1:=cS (enc:=enc) a1;have b2:=cS (enc:=enc) a2;have c1:=dh (enc:=enc) a1;have c2:=dh (enc:=enc) a2;have z1:(0:Int)≤((a + A1.length + aJ.length:Nat):Int):=Int.natCast_nonneg _;have z2:(0:Int)≤((a + A1.length + (aJ.length + 1):Nat):Int):=Int.natCast_nonneg _;have sw:=ki (enc:=enc) a2 a1;rw [Ss.qh,Ss.mG (X ++ A1 ++ aJ) z y (S2 ++ Y) _ _ (by simp;omega) (by simp;omega)] at sw;generalize hR:(X ++ A1 ++ aJ) ++ z :: y :: (S2 ++ Y)=R at er b1 b2 c1 c2 sw ⊢;have dH:((a + A1.length + (aJ.length + 1):Nat):Int).toNat < (R.map enc).length:=by omega
   have dG:((a + A1.length + aJ.length:Nat):Int).toNat < ((R.map enc).set ((a + A1.length + (aJ.length + 1):Nat):Int).toNat (enc z)).length:=by rw [List.length_set];omega
   repeat (refine gn ?_)
   refine J.draw (by kernel_rfl) rfl ?_;refine JW.iu none (.tmp 0) rfl ?_;refine tk 0 ?_;refine tk 1 ?_;refine tk 2 ?_;refine tk 3 ?_;refine JD.take 4 rfl rfl (by kernel_rfl) rfl (qb rfl) (Qt.aD rfl rfl rfl w3) rfl ?_;refine tk 5 ?_;refine tk 6 ?_;refine JD.take 7 rfl rfl (by kernel_rfl) rfl (qb rfl) (Qt.aD rfl rfl rfl w3) rfl ?_;refine JD.take 8 rfl rfl (by kernel_rfl) rfl (qb rfl) (Qt.aN rfl rfl z1 c1) rfl ?_;refine tk 10 ?_;refine tk 11 ?_;refine JD.take 12 rfl rfl (by kernel_rfl) rfl (qb rfl) (Qt.aN rfl rfl z2 c2) rfl ?_;refine JD.cF (i:=9) (j:=13) (by kernel_rfl) ?_ ?_;refine JS.q rfl rfl rfl (qb rfl) (Qt.bk rfl b1 (hz _)) ?_;refine jk 13 rfl rfl rfl rfl (Qt.bk rfl b2 (hz _)) ?_;refine JD.take 14 rfl rfl (by kernel_rfl) rfl (qb rfl) (Qt.aN rfl rfl z2 c2) rfl ?_;refine JD.cE (i:=15) (by kernel_rfl) ?_;refine JS.st rfl rfl rfl (Ld.bM rfl rfl rfl (hz _) dH) (.cK rfl) (fun _=>?_);refine JD.take 16 rfl rfl (by kernel_rfl) rfl (qb rfl) (Qt.aN rfl rfl z1 c1) rfl ?_;refine JD.cE (i:=17) (by kernel_rfl) ?_;refine JS.st rfl rfl rfl (Ld.bM rfl rfl rfl (hz _) dG) (.cK rfl) (fun _=>?_);refine aX ?_
   rotate_left
   refine JS.q rfl rfl rfl (qb rfl) (Qt.bk rfl b2 (hz _)) ?_;refine jk 9 rfl rfl rfl rfl (Qt.bk rfl b1 (hz _)) ?_;refine JD.take 14 rfl rfl (by kernel_rfl) rfl (qb rfl) (Qt.aN rfl rfl z2 c2) rfl ?_;refine JD.cE (i:=15) (by kernel_rfl) ?_;refine JS.st rfl rfl rfl (Ld.bM rfl rfl rfl (hz _) dH) (.cK rfl) (fun _=>?_);refine JD.take 16 rfl rfl (by kernel_rfl) rfl (qb rfl) (Qt.aN rfl rfl z1 c1) rfl ?_;refine JD.cE (i:=17) (by kernel_rfl) ?_;refine JS.st rfl rfl rfl (Ld.bM rfl rfl rfl (hz _) dG) (.cK rfl) (fun _=>?_);refine aX ?_
   rotate_left
   all_goals
    repeat (first | (refine K.binOp ?_;refine jq rfl rfl rfl ((Qt.aD rfl rfl rfl w3)) ?_) | refine gn ?_)
    refine J.bq ?_ ((ih ⟨(aJ,z :: S2),by simp [qS]⟩ (by simp)).aF ⟨rfl,rfl,rfl,rfl,trivial⟩);simp only;refine congrArg (fun r=>ak.row v 111 3 r :: C) (Eq.trans ?_ sw.symm);simp
end
end Fl
end Go.Proofs.YtgjpdogjekmemaaGreat
