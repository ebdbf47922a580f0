/-
  What the laws need, part B2.
  Conditions: none.
-/
import Derived.Test.YtdjhhbpedllnhaaGreatB1
import Derived.Laws.CopyRow
import Derived.Laws.OwnMore
import Derived.OwnWalk
import Derived.ProofKit
set_option linter.unusedVariables false
set_option linter.unusedSimpArgs false
set_option linter.unnecessarySimpa false
set_option maxHeartbeats 2000000
namespace Go.Proofs.YtdjhhbpedllnhaaGreat
open Go.RowKit
namespace Fl
theorem RX.take {ok:Nat→Prop} {w:World} {sz:Nat}:∀ (n:Nat) {l:List (List A)} {xs:List Value},RX ok w sz l xs→RX ok w sz (l.take n) (xs.take (n * sz))
 | 0,l,xs,h=>by simp [RX]
 | n + 1,[],xs,h=>by unfold RX at h;subst h;simp [RX]
 | n + 1,cs :: l,xs,h=>by
  obtain ⟨vs,ys,rfl,h2,h3,h4⟩:=h;have e1:(vs ++ ys).take ((n + 1) * sz)=vs ++ ys.take (n * sz):=by
   rw [List.take_append,List.take_of_length_le (by rw [h2,Nat.add_mul];omega),h2]
   congr 2;rw [Nat.add_mul];omega
  rw [e1];exact ⟨vs,_,rfl,h2,h3,RX.take n h4⟩
theorem RX.drop {ok:Nat→Prop} {w:World} {sz:Nat}:∀ (n:Nat) {l:List (List A)} {xs:List Value},RX ok w sz l xs→RX ok w sz (l.drop n) (xs.drop (n * sz))
 | 0,l,xs,h=>by simpa using h
 | n + 1,[],xs,h=>by unfold RX at h;subst h;simp [RX]
 | n + 1,cs :: l,xs,h=>by
  obtain ⟨vs,ys,rfl,h2,h3,h4⟩:=h;have e1:(vs ++ ys).drop ((n + 1) * sz)=ys.drop (n * sz):=by
   rw [List.drop_append,List.drop_of_length_le (by rw [h2,Nat.add_mul];omega),h2];simp only [List.nil_append]
   congr 1;rw [Nat.add_mul];omega
  rw [e1];exact RX.drop n h4
section
variable {P:Program} {c:Cx} {k:List Item} {f:Fm} {L:List aj} {ops:Array Oper} {T X:TypeId} {ps:String} {af:Array Edge} {gd:Option (Nat × Bool)} {t:Nat}
theorem xR {x:Operand} {lo hi:Option Operand} {e sz j:Nat} {v:Value} {l l':List (List A)} {L':List aj} {m n:Int} [i:fu P X e sz] [bx:fU L v e sz l j] [er:mM L j L'] (ht:t < c.N) (h:bg f x=some (.c (.v v))) (xN:oE f lo 0=some m) (xO:oE f hi l.length=some n) (h1:0≤m) (h2:m≤n) (h3:n≤l.length) (hl:(l.take n.toNat).drop m.toNat=l') :
  Ld P c ⟨some t,.slice X x lo hi none,T,ps,af,gd⟩ f L (cX v) (fun v':Value=>(t,.c (.v v')) :: f) (fun v'=>.row v' e sz l' :: L'):=Ld.perm (Dt bx.h er.h) ⟨fun a w s K Q hK=>by
 subst hl;have rx:=s.val h;obtain ⟨xs,r1,r2⟩:=s.res _ (List.mem_cons_self ..);have ap:=List.pairwise_cons.1 s.ap;obtain ⟨h0,ao,cap,hx,g1,g2,g3⟩:=r1;have hn:n.toNat≤l.length:=by omega
 have Dp:∀ w,(match lo.map a.eval with | some v=>Instr.sliceBound v n.toNat .sliceB | none=>pure 0:Sem Nat).run P w=.ok m.toNat w:=fun w=>by
  rcases oE.run s xN with ⟨rfl,rfl⟩ | ⟨y,kd,rfl,hy⟩
  ·simp
  ·simp only [Option.map_some,hy,Instr.sliceBound,asIntOf,Sem.run_bind,Sem.run_pure,Result.andThen_ok];rw [if_pos ⟨h1,by omega⟩];rfl
 have Dq:∀ w,(match hi.map a.eval,(none:Option Value) with | some v,some _=>Instr.sliceBound v cap .slice3B | some v,none=>Instr.sliceBound v cap (if true then .sliceAcap else .sliceAlen) | none,none=>pure l.length | none,some _=>stuck "Slice: max without high":Sem Nat).run P w=.ok n.toNat w:=fun w=>by
  rcases oE.run s xO with ⟨rfl,rfl⟩ | ⟨y,kd,rfl,hy⟩
  ·simp
  ·simp only [Option.map_some,hy,Instr.sliceBound,asIntOf,Sem.run_bind,Sem.run_pure,Result.andThen_ok];rw [if_pos ⟨by omega,by omega⟩];rfl
 have pY:∀ w,(Instr.sliceBounds true l.length cap (lo.map a.eval) (hi.map a.eval) none).run P w=.ok (m.toNat,n.toNat,cap) w:=fun w=>by
  unfold Instr.sliceBounds;simp only [Sem.run_bind,Sem.run_pure,Result.andThen_ok,Option.isSome_none,Bool.false_eq_true,↓reduceIte];have a1:=Dq w;have a2:=Dp w
  cases Dr:hi.map a.eval <;> cases Ds:lo.map a.eval <;> rw [Dr] at a1 <;> rw [Ds] at a2 <;> simp only [↓reduceIte,Sem.run_pure,Result.ok.injEq,and_true] at a1 a2 <;> simp [Sem.run_bind,a1,a2]
 have fJ:(execOp a.eval ⟨some t,.slice X x lo hi none,T,ps,af,gd⟩).run P w=.ok (.value (.slice (if cap=m.toNat then ao else ao.map (·.add (m.toNat * sz))) (n.toNat - m.toNat) (cap - m.toNat))) w:=by
  simp only [execOp,Option.map_none,Instr.sliceAt,Instr.slice,rx,hx,Sem.run_bind,run_underlying (ke.jA i.h),Result.andThen_ok,pY,iQ.run i.s,Sem.run_pure]
 have hlen:((l.take n.toNat).drop m.toNat).length=n.toNat - m.toNat:=by simp [hn]
 have hf:cX (.slice (if cap=m.toNat then ao else ao.map (·.add (m.toNat * sz))) (n.toNat - m.toNat) (cap - m.toNat))=cX v:=by
  subst hx
  cases ao with
  | none=>simp [cX]
  | some A=>split <;> simp [cX,Addr.add] <;> split <;> rfl
 have hR:(aj.row (.slice (if cap=m.toNat then ao else ao.map (·.add (m.toNat * sz))) (n.toNat - m.toNat) (cap - m.toNat)) e sz ((l.take n.toNat).drop m.toNat)).holds (bM c (.row v e sz l :: L')) w:=by
  refine ⟨(xs.take (n.toNat * sz)).drop (m.toNat * sz),?_,(r2.take n.toNat).drop m.toNat⟩;rw [hf,hlen];refine ⟨?_,_,_,rfl,by omega,by omega,?_⟩
  ·have:=((r2.take n.toNat).drop m.toNat).len;rw [this,hlen]
  ·rcases g3 with ⟨rfl,g4,g5,g6⟩ | ⟨g,off,cur,rfl,g5,g6,g7,g8⟩
   ·exact .inl ⟨by simp,by omega,by omega,g6⟩
   ·by_cases hc:cap=m.toNat
    ·refine .inr ⟨g,off,cur,by rw [if_pos hc],g5,g6,by rw [hc];have:off≤off + cap * sz:=Nat.le_add_right _ _;simp;omega,fun q hq=>?_⟩;have qU:=((r2.take n.toNat).drop m.toNat).len;rw [qU,hlen,show n.toNat - m.toNat=0 by omega] at hq;omega
    ·refine .inr ⟨g,off + m.toNat * sz,cur,by rw [if_neg hc];simp [Addr.add_mid],g5,g6,?_,fun q hq=>?_⟩
     ·have e1:m.toNat * sz + (cap - m.toNat) * sz=cap * sz:=by rw [← Nat.add_mul];congr 1;omega
      omega
     ·have vu:q < xs.length:=by
       have:=hq;simp only [List.length_drop,List.length_take] at this;omega
      have Nw:m.toNat * sz + q < n.toNat * sz:=by
       have:=hq;simp only [List.length_drop,List.length_take] at this;omega
      have Nx:m.toNat * sz + q < xs.length:=by
       have:=hq;simp only [List.length_drop,List.length_take] at this;omega
      rw [List.getElem?_drop,List.getElem?_take,if_pos Nw,← g8 _ Nx]
      congr 1;omega
 have ho:bM c (.row (.slice (if cap=m.toNat then ao else ao.map (·.add (m.toNat * sz))) (n.toNat - m.toNat) (cap - m.toNat)) e sz ((l.take n.toNat).drop m.toNat) :: L')=bM c (.row v e sz l :: L'):=by
  funext x;unfold bM;simp only [iR,aj.cA,hf]
 unfold Oper.wp;rw [fJ];refine hK _ _ w (aP.refl _ _) (s.put ht (by unfold RD RA;exact ⟨rfl,rfl⟩) s.kp (fun q hq=>?_) (fun y hy=>s.fL y ?_) ?_ (by rw [ho];exact Mon.refl _ _)) (fun y hy=>.inl ?_)
 ·rw [ho];rcases List.mem_cons.1 hq with rfl | hq
  ·exact hR
  ·exact s.res q (List.mem_cons_of_mem _ hq)
 ·rw [iR,aj.cA,hf] at hy;exact (iR _ _ _).2 hy
 ·exact List.pairwise_cons.2 ⟨fun q hq y hy Ny=>ap.1 q hq y (by rw [aj.cA,hf] at hy;exact hy) Ny,ap.2⟩
 ·rw [iR,aj.cA,hf] at hy;exact (iR _ _ _).2 hy⟩
theorem J.join {I:Item} {ι:Type} (f':ι→Fm) (L':ι→List aj) (rest:∀ x,J P c k (f' x) (L' x)) (h:(∀ x,J P c k (f' x) (L' x))→J P c (I :: k) f L):J P c (I :: k) f L:=h rest
theorem J.G3 (t u n:Nat) {v:Value} {e sz i j b o B:Nat} {ll:List (List A)} {cs:List A} {L1 L2:List aj} [r:fU L v e sz ll i] [bx:lW L b B cs j] [st:jB L j (.box b B (cs.set n (.r sz ll))) L1] [er:mM L1 i L2] (h1:look f t=some (.c (.v v))) (h2:look f u=some (.c (.v (.pointer (some ⟨b,o,none⟩))))) (hc:cs[n]?=some (.v v)) (h:J P c k f L2):J P c k f L :=
 J.vn i j n r.h bx.h hc (by rw [st.h,er.h];exact h)
theorem J.cS (i:Nat) {L2:List aj} [er:mM L i L2] (h:J P c k f L2):J P c k f L:=J.drop i (by rw [er.h];exact h)
end
class xS (L:List aj) (d:D) (j:outParam Nat):Prop where h:True
instance xS.box {L:List aj} {b o B j:Nat} {cs:List A} [lW L b B cs j]:xS L (.c (.v (.pointer (some ⟨b,o,none⟩)))) j:=⟨trivial⟩
instance xS.row {L:List aj} {v:Value} {e sz j:Nat} {l:List (List A)} [fU L v e sz l j]:xS L (.c (.v v)) j:=⟨trivial⟩
section
variable {P:Program} {c:Cx} {k:List Item} {f:Fm} {L:List aj} {ops:Array Oper} {n:Nat} {aU:Array Bool}
theorem Gx.mono {S S':World→Prop} {md:Region.Mode} {Q:Exit→Act→World→Prop} {m:Option Nat} (hS:∀ w,S' w→S w):∀ (n:Nat) (aU:Array Bool) (a:Act) (w:World),Gx P md ops Q S' m n aU a w→Gx P md ops Q S m n aU a w
 | 0,_,_,_,h=>h
 | n + 1,_,_,_,h=>⟨h.1,fun i hi=>wpOp_mono (fun a' w' h'=>h'.elim .inl (fun h'=>.inr ⟨hS _ h'.1,Gx.mono hS n _ _ _ h'.2⟩)) (h.2 i hi)⟩
theorem JD.lB {m:Option Nat} {T:List Nat} {f0:Fm} {L0:List aj} (h:JD P c ops m [] n aU k f L f L):JD P c ops m T n aU k f L f0 L0:=⟨fun a w w0 s s0 kp ho =>
 Gx.mono (fun w' h'=>kp.trans h' (fun x hx=>by simp [jR] at hx)) _ _ _ _ (h.go a w w s s (aP.refl _ _) (fun x hx=>.inl hx))⟩
theorem JW.sv (m:Option Nat) (x:Operand) {d:D} {j:Nat} (hx:bg f x=some d) [xS L d j] (h:JD P c ops m [j] n aU k f L f L):JW P c ops n aU k f L:=JW.iZ _ _ h
end
end Fl
open Go.RowKit
namespace Fl
section
variable {P:Program} {ops:Array Oper} {Q:Exit→Act→World→Prop} {md:Region.Mode} {S:World→Prop}
def reach (md:Region.Mode) (ops:Array Oper) (aU:Array Bool):Nat→Nat→Nat→Bool
 | 0,m,i=>waitsFor md ops m i
 | n + 1,m,i=>waitsFor md ops m i || match ops[m]? with
  | none=>false
  | some o=>o.after.any (fun e=>Region.binds md e && !(aU.getD e.on false) && reach md ops aU n e.on i)
theorem G4 {aU:Array Bool} {m i:Nat} (hr:i∈Region.ready md ops aU) (hw:waitsFor md ops m i=true):m∉Region.ready md ops aU:=fun hm=>by
 obtain ⟨_,oj,nL,qI⟩:=mem_ready.1 hm;have pU:=CY hr qI;unfold waitsFor at hw;rw [nL] at hw;obtain ⟨x,hx,hp⟩:=Array.any_eq_true'.1 hw;simp only [Bool.and_eq_true,beq_iff_eq] at hp;exact pU x hx hp.2 hp.1
theorem G5 {aU:Array Bool} {i:Nat} (hr:i∈Region.ready md ops aU):∀ (n m:Nat),reach md ops aU n m i=true→m∉Region.ready md ops aU
 | 0,m,h=>G4 hr h
 | n + 1,m,h=>fun hm=>by
  unfold reach at h;rw [Bool.or_eq_true] at h;rcases h with h | h
  ·exact G4 hr h hm
  ·obtain ⟨_,oj,nL,qI⟩:=mem_ready.1 hm;rw [nL] at h;obtain ⟨x,hx,hp⟩:=Array.any_eq_true'.1 h;simp only [Bool.and_eq_true,Bool.not_eq_true'] at hp;have:=qI x hx hp.1.1;rw [hp.1.2] at this
   cases this
theorem G6 {aU:Array Bool} {i j:Nat} (hr:i∈Region.ready md ops aU) (hj:j∈Region.ready md ops aU):∀ (n m:Nat),reach md ops aU n m i=true→reach md ops (aU.setIfInBounds j true) n m i=true
 | 0,m,h=>h
 | n + 1,m,h=>by
  unfold reach at h ⊢;rw [Bool.or_eq_true] at h ⊢;rcases h with h | h
  ·exact .inl h
  ·refine .inr ?_
   cases ho:ops[m]? with
   | none=>rw [ho] at h;cases h
   | some o =>
    rw [ho] at h;obtain ⟨x,hx,hp⟩:=Array.any_eq_true'.1 h;simp only [Bool.and_eq_true,Bool.not_eq_true'] at hp;have bV:j≠x.on:=fun e=>G5 hr n x.on hp.2 (e ▸ hj)
    refine Array.any_eq_true'.2 ⟨x,hx,?_⟩;simp only [Bool.and_eq_true,Bool.not_eq_true'];exact ⟨⟨hp.1.1,by rw [getD_set_ne false bV];exact hp.1.2⟩,G6 hr hj n x.on hp.2⟩
def Du (md:Region.Mode) (ops:Array Oper) (m:Option Nat) (aU:Array Bool) (i:Nat):Bool:=match m with
 | none=>true
 | some j=>reach md ops aU ops.size j i
theorem Gx.G7 {m:Option Nat} {i:Nat} {oi:Oper} {v:Value} (hi:ops[i]?=some oi) (tT:∀ (j:Nat) (o:Oper) cs b,ops[j]?=some o→o.op≠.select cs b) (hQ:∀ c a w,Q (.panic c) (a.put oi.dst v) w→Q (.panic c) a w) :
  ∀ (n:Nat) (aU:Array Bool) (a:Act) (w:World),Du md ops m aU i=true→(∀ (j:Nat) oj,ops[j]?=some oj→j≠i→aU.getD j true=false→(∀ e∈oj.after,Region.binds md e=true→e.on≠i)→oi.apart ops oj=true) →
   i∈Region.ready md ops aU→YieldsIf P ops S oi v a→S w→Gx P md ops Q S m n (aU.setIfInBounds i true) (a.put oi.dst v) w→Gx P md ops Q S m (n + 1) aU a w
 | n,aU,a,w,hm,xF,hr,hy,hS,H=>by
  refine ⟨fun h=>(by rw [h] at hr;cases hr),fun j hj=>?_⟩
  by_cases lu:j=i
  ·subst lu;exact hy.wpOp hi hS (.inr ⟨hS,H⟩)
  ·cases n with
   | zero =>
    have:=ready_mono hj lu;rw [H.1] at this
    cases this
   | succ n =>
    obtain ⟨xG,oj,nL,qI⟩:=mem_ready.1 hj;have pU:=CY hr qI;have pV:some j≠m:=fun e=>by
     subst e;exact G5 hr _ _ hm hj
    have cG:Du md ops m (aU.setIfInBounds j true) i=true:=by
     cases m with
     | none=>rfl
     | some q=>exact G6 hr hj _ _ hm
    have h2:=wpOp_putIf nL (xF j oj nL lu xG pU) (fun cs b=>tT i oi cs b hi) (fun cs b=>tT j oj cs b nL) hQ hy (H.2 j (ready_mono hj lu));have ki:i∈Region.ready md ops (aU.setIfInBounds j true):=ready_mono hr (Ne.symm lu);refine wpOp_mono (fun a' w' h3=>?_) h2;have Dk:=Array.setIfInBounds_comm (xs:=aU) true true lu;obtain ⟨h4,h5⟩:S w'∧_:=h3.2.resolve_left (fun h=>pV h.1);exact .inr ⟨h4,Gx.G7 hi tT hQ n (aU.setIfInBounds j true) a' w' cG (fun k ok hk Dl xH pU=>by
     refine xF k ok hk Dl ?_ pU
     by_cases xI:j=k
     ·subst xI;exact xG
     ·rw [getD_set_ne true xI] at xH;exact xH) ki h3.1 h4 (by rw [Dk];exact h5)⟩
end
def G8 (md:Region.Mode) (ops:Array Oper) (m:Option Nat) (aU:Array Bool) (i:Nat):Bool :=
 Region.noSelect ops && Region.free md ops aU i && (Region.ready md ops aU).contains i && Du md ops m aU i
section
variable {P:Program} {c:Cx} {k:List Item} {f f0:Fm} {L L0:List aj} {ops:Array Oper} {n:Nat} {aU:Array Bool} {m:Option Nat} {T:List Nat} {o:Oper}
theorem JD.bz (i:Nat) {t:Nat} {d:D} {U:List Nat} (hi:ops[i]?=some o) (hd:o.dst=some t) (hk:G8 .any ops m aU i=true) (hw:eL ops o f0=true) (ht:t < c.N) (q:Qt P c U o f0 L0 d) (hu:(U.all fun j=>!T.contains j)=true) (h:JD P c ops m T n (aU.setIfInBounds i true) k ((t,d) :: f) L ((t,d) :: f0) L0):JD P c ops m T (n + 1) aU k f L f0 L0:=⟨fun a w w0 s s0 kp ho=>by
 obtain ⟨v,h1,h2⟩:=q.go a w0 s0;unfold G8 at hk;simp only [Bool.and_eq_true] at hk;obtain ⟨⟨⟨k1,k2⟩,k3⟩,k4⟩:=hk;have m1:Mon (bM c L0) (bM c L) w0 w:=Mon.j8 kp fun g hg gB=>⟨⟨gB.1,fun hx=>by rcases ho g hx with h | h;exact gB.2 h;omega⟩,fun hm=>gB.2 (Ao hm)⟩
 have Dm:∀ w',aP (jR L0 T) w0 w'→r9 L0 U w0 w':=fun w' tU=>⟨_,tU,fun x hx=>Ao hx,fun x hx j hj r hr qS=>by
  obtain ⟨i,hi,r2,ki,qO⟩:=xK.1 hx;have xE:j≠i:=fun e=>by
   subst e;have:=List.all_eq_true.1 hu j hj;simp [hi] at this
  exact ij.ne s0.ap hr ki xE x qS qO⟩
 refine Gx.G7 hi (Region.noSelect_spec k1) (fun c a w h=>by cases h.1) n aU a w k4 (Region.free_spec hi k2) (by simpa using k3) (v:=v) (.inl ⟨eL.run hw s0,fun w' tU=>h2 w' (Dm w' tU)⟩) kp ?_;have:=h.go (a.put o.dst v) w w0 (by rw [hd];exact s.lU ht (RD.cO m1 _ _ h1)) (by rw [hd];exact s0.lU ht h1) kp ho;exact this⟩
end
end Fl
open Go.RowKit
namespace Fl
section
variable {P:Program} {c:Cx} {k:List Item} {f:Fm} {L:List aj} {ops:Array Oper} {n:Nat} {aU:Array Bool} {o:Oper}
structure JT (P:Program) (c:Cx) (ops:Array Oper) (n:Nat) (aU:Array Bool) (k:List Item) (f:Fm) (L:List aj) (i:Nat):Prop where
 go:∀ a w,St c f L a w→wpOp P ops (fun e a' w'=>e=.normal∧j9 P c k a' w') i (fun a' w'=>wpAny P .any ops (fun e a' w'=>e=.normal∧j9 P c k a' w') n (aU.setIfInBounds i true) a' w') a w
variable {T:TypeId} {ps:String} {af:Array Edge} {gd:Option (Nat × Bool)} {t:Nat}
theorem Ld.Nz {F:FuncId} {args:List Operand} {tys:Array TypeId} {dh ds:List D} {ι:Type} {dd:ι→D} {M:ι→List aj} {Ll:List aj} (Lr:List aj) (L':ι→List aj) [i:aG P F] (hC:an P F ds Ll (fun x=>(dd x,M x))) (hL:(Ll ++ Lr).Perm L) (sw:∀ x,(L' x).Perm (M x ++ Lr)) (ht:t < c.N) (h:iw f args=some dh) (hle:aJ dh ds) :
  Ld P c ⟨some t,.call ⟨.value (.func F),args.toArray,tys⟩,T,ps,af,gd⟩ f L (bu Ll) (fun x=>(t,dd x) :: f) L':=⟨fun a w s K Q hK=>by
 have h1:=Ld.call (P:=P) (c:=c) (T:=T) (ps:=ps) (af:=af) (gd:=gd) (L:=Ll ++ Lr) (f:=f) (tys:=tys) hC ht h hle (Ll:=Ll) (Lr:=Lr) rfl;refine h1.go a w (s.perm hL) K Q fun x v w' kp sx hf=>?_
 refine hK x v w' kp (sx.perm (sw x)) fun y hy=>?_
 rcases hf y ((qX (sw x) y).1 hy) with h | h
 ·exact .inl ((qX hL y).1 h)
 ·exact .inr h⟩
end
end Fl
open Go.RowKit
namespace Fl
theorem RX.rep {ok:Nat→Prop} {w:World} {zs:List Value} (h:zs.all (·.oneCell')=true):∀ n:Nat,RX ok w zs.length (List.replicate n (vs zs)) ((List.replicate n ()).flatMap fun _=>zs)
 | 0=>rfl
 | n + 1=>⟨zs,(List.replicate n ()).flatMap fun _=>zs,by rw [List.replicate_succ,List.flatMap_cons],rfl,RC.vs h,RX.rep h n⟩
section
variable {P:Program} {c:Cx} {k:List Item} {f:Fm} {L:List aj} {T X:TypeId} {ps:String} {af:Array Edge} {gd:Option (Nat × Bool)} {t:Nat}
theorem Ld.make {e sz bytes:Nat} {z:Value} {zs:List Value} [E:gf P X e sz bytes z] [Z:bw P e zs] {x y:Operand} {kl kc:IntKind} {N:Int} (n:Nat) (ht:t < c.N) (hx:bg f x=some (.c (.v (.int kl N)))) (hy:bg f y=some (.c (.v (.int kc N)))) (hN:N=(n:Int)) (hb:n * bytes≤281474976710656) :
  Ld P c ⟨some t,.makeSlice X x y,T,ps,af,gd⟩ f L [] (fun b:Nat=>(t,.c (.v (.slice (some ⟨b,0,none⟩) n n))) :: f) (fun b=>.row (.slice (some ⟨b,0,none⟩) n n) e sz (List.replicate n (vs zs)) :: L):=⟨fun a w s K Q hK=>by
 subst hN;obtain ⟨hu,kX,hz,qD,r8⟩:=E.h;obtain ⟨i,hi,eJ,dM,iY⟩:=info_parts kX;have Gv:n≤281474976710656:=Nat.le_trans (Nat.le_mul_of_pos_right _ r8) hb;have rx:=s.val hx;have ry:=s.val hy;obtain ⟨w',fJ,r1,r2⟩:=run_make_full (P:=P) w 0 X e i z sz hu hi eJ dM kl kc n (by rw [iY,Nat.mul_comm];exact hb) (by simp only [maxLen];omega) (Nat.zero_le _);have hk:aP [] w w':=(aP.refl [] w).grown r2 (by simp);have hr:=(Row.Gs r1).1;have w9:z.cells.toList=zs:=by
  have h1:=Z.h;unfold pR at h1;rw [hi] at h1;simpa [eJ] using h1
 have hl:zs.length=sz:=by rw [← w9];simpa using hz
 have tW:(aj.row (.slice (some ⟨w.heap.size,0,none⟩) n n) e sz (List.replicate n (vs zs))).holds (bM c (.row (.slice (some ⟨w.heap.size,0,none⟩) n n) e sz (List.replicate n (vs zs)) :: L)) w':=by
  refine ⟨(List.replicate n ()).flatMap fun _=>zs,?_,?_⟩
  ·rw [List.length_replicate,← MH (f:=fun _=>zs) (fun _=>hl) (x0:=()) w9 qD n];exact hr
  ·subst hl;exact RX.rep Z.o n
 have hf:∀ y∈(aj.row (.slice (some ⟨w.heap.size,0,none⟩) n n) e sz (List.replicate n (vs zs))).cA,w.heap.size≤y:=by simp [aj.cA,cX]
 unfold Oper.wp;simp only [execOp,rx,ry,fJ,Result.andThen,Sem.run_bind];exact hK w.heap.size _ _ hk (s.new ht hk hf tW (by unfold RD RA;exact ⟨rfl,rfl⟩)) (tK hf)⟩
theorem Ld.Dv {e sz bytes:Nat} {z:Value} [E:gf P X e sz bytes z] {x y:Operand} {kl kc:IntKind} {N:Int} (n:Nat) (ht:t < c.N) (hx:bg f x=some (.c (.v (.int kl 0)))) (hy:bg f y=some (.c (.v (.int kc N)))) (hN:N=(n:Int)) (hb:n * bytes≤281474976710656) :
  Ld P c ⟨some t,.makeSlice X x y,T,ps,af,gd⟩ f L [] (fun b:Nat=>(t,.c (.v (.slice (some ⟨b,0,none⟩) 0 n))) :: f) (fun b=>.row (.slice (some ⟨b,0,none⟩) 0 n) e sz [] :: L):=⟨fun a w s K Q hK=>by
 subst hN;obtain ⟨hu,kX,hz,qD,r8⟩:=E.h;obtain ⟨i,hi,eJ,dM,iY⟩:=info_parts kX;have Gv:n≤281474976710656:=Nat.le_trans (Nat.le_mul_of_pos_right _ r8) hb;have rx:=s.val hx;have ry:=s.val hy;obtain ⟨w',fJ,r1,r2⟩:=run_make_own (P:=P) w 0 X e i z sz hu hi eJ dM kl kc n (by rw [iY,Nat.mul_comm];exact hb) (by simp only [maxLen];omega) (Nat.zero_le _);have hk:aP [] w w':=(aP.refl [] w).grown r2 (by simp);have hr:=(Row.Gs r1).1;have tW:(aj.row (.slice (some ⟨w.heap.size,0,none⟩) 0 n) e sz []).holds (bM c (.row (.slice (some ⟨w.heap.size,0,none⟩) 0 n) e sz [] :: L)) w':=⟨[],hr,rfl⟩
 have hf:∀ y∈(aj.row (.slice (some ⟨w.heap.size,0,none⟩) 0 n) e sz []).cA,w.heap.size≤y:=by simp [aj.cA,cX]
 unfold Oper.wp;simp only [execOp,rx,ry,fJ,Result.andThen,Sem.run_bind];exact hK w.heap.size _ _ hk (s.new ht hk hf tW (by unfold RD RA;exact ⟨rfl,rfl⟩)) (tK hf)⟩
theorem Ld.copy {e bytes:Nat} {z:Value} [E:gf P X e 1 bytes z] {x y:Operand} {v:Value} {l1 l2:List (List A)} {i:Nat} {L':List aj} [bx:fU L v e 1 l1 i] [st:jB L i (.row v e 1 l2) L'] (ht:t < c.N) (hx:bg f x=some (.c (.v v))) (hy:bg f y=some (.c (.r 1 l2))) (hn:l1.length=l2.length) :
  Ld P c ⟨some t,.call ⟨.builtin .copy,#[x,y],#[X,X]⟩,T,ps,af,gd⟩ f L (cX v) (fun _:Unit=>(t,.c (.v (.int .i64 l2.length))) :: f) (fun _=>L'):=⟨fun a w s K Q hK=>by
 obtain ⟨hu,kX,hz,qD,r8⟩:=E.h;obtain ⟨ti,hi,eJ,dM,iY⟩:=info_parts kX;have jN:(P.info? e).map (·.size)=some 1:=by rw [hi];simp [dM]
 have rx:=s.val hx;have ry:=s.ev hy;unfold RD at ry;obtain ⟨ys,S,v1,v2,v3⟩:=ry.view;obtain ⟨xs,⟨hl,ao,cap,rfl,nG,lR,h4⟩,q2⟩:=s.res _ (List.mem_of_getElem? bx.h);obtain ⟨iP,bo,mJ,lX,Af,Ag,pN⟩:=v1;have xT:∀ u∈ys,u.oneCell'=true:=v2.one;have fJ:∃ w',(execOp a.eval ⟨some t,.call ⟨.builtin .copy,#[x,y],#[X,X]⟩,T,ps,af,gd⟩).run P w=.ok (.value (.int .i64 l2.length)) w'∧aP (cX (.slice ao l1.length cap)) w w'∧Row w' (.slice ao l1.length cap) e 1 l1.length ys (cX (.slice ao l1.length cap)):=by
  by_cases h0:l2.length=0
  ·refine ⟨w,?_,aP.refl _ _,?_⟩
   ·have hr:=run_copy_none (P:=P) w X X T e ao bo l1.length cap l2.length mJ hu jN (by rw [hn,h0];rfl);rw [h0] at hr lX ⊢;simp [execOp,resolve,invoke,builtin,rx,lX,hr,Sem.run_bind,goInt]
   ·have e1:ys=[]:=List.eq_nil_of_length_eq_zero (by rw [iP,h0]);have e2:xs=[]:=List.eq_nil_of_length_eq_zero (by rw [hl,hn,h0]);rw [e1,← e2];exact ⟨hl,ao,cap,rfl,nG,lR,h4⟩
  ·rcases h4 with ⟨_,h,_⟩ | ⟨g,off,cur,rfl,hS,hb,wY,hc⟩
   ·omega
   ·rcases pN with ⟨h,_⟩ | ⟨ug,tD,rfl,_,Ah,qE⟩
    ·omega
    ·have hr:=run_copy_row (P:=P) w X X T e g off l1.length cap ⟨ug,tD,none⟩ l2.length mJ cur.toArray e ys hu jN hb (by rw [iP,hn];simp) (fun j y hj=>by
      rw [Addr.add_lit,qE j (List.getElem?_eq_some_iff.1 hj).1];exact hj) (by rw [iP,List.size_toArray];omega) xT
     refine ⟨_,?_,(aP.refl _ w).setRow (g:=g) (.inl (by simp [cX])) (cur.toArray.toList.take off ++ ys ++ cur.toArray.toList.drop (off + ys.length)).toArray,?_⟩
     ·simp only [execOp,resolve,invoke,builtin,Sem.run_bind];simp [rx,lX,hr,iP,goInt,Sem.run_bind]
     ·refine ⟨by rw [iP,hn],_,_,rfl,nG,lR,.inr ⟨g,off,_,rfl,hS,setRow_heap w g cur.toArray _ e _ hb,?_,?_⟩⟩
      ·simp only [List.length_append,List.length_take,List.length_drop,iP];omega
      ·intro j hj;have mK:(cur.take off).length=off:=by rw [List.length_take];omega
       rw [List.append_assoc,List.getElem?_append_right (by rw [mK];omega),mK,show off + j - off=j by omega,List.getElem?_append_left hj]
 obtain ⟨w',fJ,hk,tW⟩:=fJ;unfold Oper.wp;rw [fJ];have m:Mon (bM c L) (bM c L) w w':=Mon.j8 hk fun g hg ho=>⟨ho,fun hm=>ho.2 (dz.2 ⟨_,List.mem_of_getElem? bx.h,hm⟩)⟩
 have hh:(aj.row (.slice ao l1.length cap) e 1 l2).holds (bM c L) w':=⟨ys,by rw [← hn];exact tW,RX.cO m _ _ v2⟩
 have s2:=s.set bx.h (r':=.row (.slice ao l1.length cap) e 1 l2) rfl hk hh;rw [st.h] at s2;refine hK () _ w' hk (s2.lU ht (by unfold RD RA;exact ⟨rfl,rfl⟩)) fun y hy=>?_
 rw [← st.h] at hy;exact .inl ((tM bx.h (r':=.row (.slice ao l1.length cap) e 1 l2) rfl y).1 hy)⟩
theorem Ld.jS {e sz:Nat} {x:Operand} {d:D} {cs:List A} {zs:List Value} [i:fu P X e sz] [z:bw P e zs] (ht:t < c.N) (h:bg f x=some d) (hc:ia d=some cs) (hn:cs.length=sz) (h0:Nat.ble 1 sz=true) (hs:Nat.ble sz 1000=true) :
  Ld P c ⟨some t,.buildSlice X 1 #[(0,x)],T,ps,af,gd⟩ f L [] (fun _:Unit=>(t,.c (.r sz [cs])) :: f) (fun _=>L):=⟨fun a w s K Q hK =>
 (Ld.fM (P:=P) (c:=c) (T:=T) (ps:=ps) (af:=af) (gd:=gd) (f:=f) (L:=L) (e:=e) (sz:=sz) (zs:=zs) (X:=X) (t:=t) ht h hc hn h0 hs).go a w s K Q fun b u w' k' s' hf=>hK () u w' k' s'.freeze fun y hy=>hf y ((iR _ _ _).2 (.inr hy))⟩
theorem Ld.NA {e sz:Nat} [i:fu P X e sz] (ht:t < c.N):Ld P c ⟨some t,.buildSlice X 0 #[],T,ps,af,gd⟩ f L [] (fun _:Unit=>(t,.c (.r sz [])) :: f) (fun _=>L):=⟨fun a w s K Q hK =>
 (Ld.gJ (P:=P) (c:=c) (T:=T) (ps:=ps) (af:=af) (gd:=gd) (f:=f) (L:=L) (e:=e) (sz:=sz) (X:=X) (t:=t) ht).go a w s K Q fun b u w' k' s' hf=>hK () u w' k' s'.freeze fun y hy=>hf y ((iR _ _ _).2 (.inr hy))⟩
theorem Qt.min {x y:Operand} {tys:Array TypeId} {k1:IntKind} {m n r:Int} (h:bg f x=some (.c (.v (.int k1 m)))) (hy:bg f y=some (.c (.v (.int k1 n)))) (hr:(if n < m then n else m)=r):Qt P c [] ⟨t,.call ⟨.builtin .min,#[x,y],tys⟩,T,ps,af,gd⟩ f L (.c (.v (.int k1 r))):=⟨fun a w s=>by
 have rx:=s.val h;have ry:=s.val hy;subst hr;refine ⟨_,by unfold RD RA;exact ⟨rfl,rfl⟩,fun w' k=>?_⟩;simp only [execOp,resolve,invoke,builtin,Sem.run_bind];simp [rx,ry,Builtin.min_,Builtin.min2,Sem.run_bind]⟩
end
end Fl
namespace Pn
structure Cs where
 send:Bool
 ch:Int
 v:Int
structure Op where
 kind:Int
 ch:Int
 n:Int
 v:Int
 cases:List Cs
 de:Bool
theorem Cs.ext {a b:Cs} (h1:a.send=b.send) (h2:a.ch=b.ch) (h3:a.v=b.v):a=b:=by cases a;cases b;simp_all
theorem Op.ext {a b:Op} (h1:a.kind=b.kind) (h2:a.ch=b.ch) (h3:a.n=b.n) (h4:a.v=b.v) (h5:a.cases=b.cases) (h6:a.de=b.de):a=b:=by cases a;cases b;simp_all
instance:DecidableEq Cs:=fun a b=>decidable_of_iff (a.send=b.send∧a.ch=b.ch∧a.v=b.v) ⟨fun ⟨h1,h2,h3⟩=>Cs.ext h1 h2 h3,fun h=>by subst h;simp⟩
instance:DecidableEq Op:=fun a b=>decidable_of_iff (a.kind=b.kind∧a.ch=b.ch∧a.n=b.n∧a.v=b.v∧a.cases=b.cases∧a.de=b.de) ⟨fun ⟨h1,h2,h3,h4,h5,h6⟩=>Op.ext h1 h2 h3 h4 h5 h6,fun h=>by subst h;simp⟩
instance:Inhabited Cs:=⟨⟨false,0,0⟩⟩
instance:Inhabited Op:=⟨⟨0,0,0,0,[],false⟩⟩
def jD (k:Int):Bool:=decide (2≤k) && decide (k≤8)
def jE (k:Int):Bool:=(k == 2) || (k == 4)
def kL (c:Cs):Bool:=decide (0≤c.ch∧c.ch≤8∧0≤c.v∧c.v≤255∧(c.send=false→c.v=0))
def fG (o:Op):Bool:=decide (1≤o.kind∧o.kind≤9∧0≤o.ch∧o.ch≤8∧0≤o.n∧o.n≤4∧0≤o.v∧o.v≤255∧o.cases.length≤6 ∧
 (jD o.kind=false→o.ch=0)∧(jE o.kind=false→o.v=0)∧(o.kind≠1→o.n=0)∧(o.kind≠9→o.cases=[]∧o.de=false)∧∀ c∈o.cases,kL c=true)
def lY (l:List Op):Bool:=decide (l.length≤16∧∀ o∈l,fG o=true)
def right (p:List (List Op)):Bool:=decide (1≤p.length∧p.length≤8∧∀ l∈p,lY l=true)
section
variable {α:Type} {f:Nat→α × Nat}
end
end Pn
namespace Md
structure Ch where
 cap:Int
 buf:List Int
 closed:Bool
structure St where
 av:List Ch
 waits:Int→Option Pn.Op
structure Sd where
 ch:Int
 send:Bool
 v:Int
structure aj where
 code:Int
 cs:Int
 v:Int
 ok:Bool
 n:Int
end Md
namespace Sx
structure Gr where
 ops:List Pn.Op
 at_:Int
 place:Int
 status:Int
 token:Bool
 call:Int
 bG:Bool
 param:Int
 bh:Int
 hold:Int
 t:Int
 iy:Int
 bT:Int
 wi:Int
 dm:Int
 res:Md.aj
 order:List Int
 aB:List Int
 aq:List Int
 au:List Int
 k:Int
structure Cn where
 cap:Int
 buf:List Int
 closed:Bool
 lock:Int
 recv:List Int
 send:List Int
structure Su where
 live:Bool
 g:Int
 ch:Int
 cs:Int
 send:Bool
 v:Int
 done:Bool
structure Mk where
 g:Int
 op:Int
 call:Int
 iy:Int
 bT:Int
 wi:Int
 dm:Int
 re:Int
 res:Md.aj
structure ah where
 dx:Int
 bX:Int
 step:Int
 gs:List Gr
 av:List Cn
 aA:List Su
 cache:List (List Int)
 middle:List Int
 fresh:Int
 di:List Int
 drawn:Int
 done:List Mk
def NB:Md.aj:=⟨0,-1,0,false,0⟩
def clean (ops:List Pn.Op) (a:Int):Gr:=⟨ops,a,0,0,false,0,false,-1,-1,-1,0,0,0,-1,-1,NB,[],[],[],[],0⟩
def fB:Su:=⟨false,0,0,0,false,0,false⟩
def sy:ah:=⟨0,0,0,[],[],[],[],[],0,[],0,[]⟩
def can (s g c:Int):Bool:=decide (0≤s∧s≤64∧0≤g∧g≤8∧1≤c∧c≤16)
def start (p:List (List Pn.Op)) (s c:Int) (d:List Int):ah:=⟨s,c,0,p.map (clean · 0),[],List.replicate s.toNat fB,p.map (fun _=>[]),[],0,d,0,[]⟩
def new (p:List (List Pn.Op)) (s c:Int) (d:List Int):ah × Int :=
 if Pn.right p=false then (sy,3) else if can s p.length c=false then (sy,1) else (start p s c d,0)
end Sx
namespace Po
def fits (size dX most:Int):Bool:=decide (0≤size∧size≤64∧0≤dX∧dX≤8∧1≤most∧most≤16)
theorem G9 {size dX most:Int} (h:fits size dX most=true):0≤size∧size≤64∧0≤dX∧dX≤8∧1≤most∧most≤16:=by simpa [fits] using h
end Po
namespace Po
def lC (C:List (List Int)) (g:Int):Bool:=decide (0≤g) && decide (g < C.length)
def live (f:Int) (H:List Bool) (x:Int):Bool:=decide (0≤x) && decide (x < f) && !(H.getD x.toNat false)
def cache (C:List (List Int)) (g:Int):List Int:=if lC C g then C.getD g.toNat [] else []
def outs (H:List Bool) (k:Nat):Nat:=((H.take k).filter (fun t=>!t)).length
theorem NC (H:List Bool) (k:Nat) (t:Bool) (h:H[k]?=some t):outs H (k + 1)=outs H k + (if t then 0 else 1):=by
 obtain ⟨hk,rfl⟩:=List.getElem?_eq_some_iff.1 h;unfold outs;rw [List.take_succ_eq_append_getElem hk,List.filter_append,List.length_append]
 cases H[k] <;> simp
structure St where
 C:List (List Int)
 M:List Int
 f:Nat
 H:List Bool
def room (most:Nat):Nat:=max 1 (most / 2)
def nM (most:Nat) (c M:List Int):Nat:=if c=[] then min (room most) M.length else 0
def own (most:Nat) (c M:List Int):List Int:=c ++ M.reverse.take (nM most c M)
def bH (most:Nat) (c M:List Int):List Int:=M.take (M.length - nM most c M)
def sA (s:St) (g:Nat) (o m:List Int):St:=⟨s.C.set g o.dropLast,m,s.f,s.H.set (o.getLastD 0).toNat false⟩
def take (size most:Nat) (s:St) (g:Int):St × Int × Bool :=
 if lC s.C g then
  if own most (s.C.getD g.toNat []) s.M=[] then (if s.f < size then (⟨s.C,s.M,s.f + 1,s.H⟩,(s.f:Int),true) else (s,0,false))
  else (sA s g.toNat (own most (s.C.getD g.toNat []) s.M) (bH most (s.C.getD g.toNat []) s.M),(own most (s.C.getD g.toNat []) s.M).getLastD 0,true)
 else (s,0,false)
def ez (most:Nat) (c:List Int):Nat:=if c.length=most then c.length - most / 2 else 0
def qY (most:Nat) (s:St) (g:Nat) (c:List Int) (x:Int):St:=⟨s.C.set g (c.take (c.length - ez most c) ++ [x]),s.M ++ c.reverse.take (ez most c),s.f,s.H.set x.toNat true⟩
def cz (most:Nat) (s:St) (g x:Int):St × Bool :=
 if lC s.C g && live s.f s.H x then (qY most s g.toNat (s.C.getD g.toNat []) x,true) else (s,false)
def ei (s:St) (a:Int):Nat:=s.M.count a + s.C.flatten.count a
structure Inv (size most:Nat) (s:St):Prop where
 m1:1≤most
 m2:most≤16
 s1:size≤64
 hl:s.H.length=size
 fl:s.f≤size
 one:∀ a,ei s a≤1
 bound:∀ a,1≤ei s a→0≤a∧a < s.f
 home:∀ x:Nat,x < size→s.H.getD x false=decide (1≤ei s (x:Int))
 pZ:∀ c∈s.C,c.length≤most
theorem count_set {α:Type} [BEq α] [LawfulBEq α] (a:α):∀ (C:List (List α)) (g:Nat) (c c':List α),C[g]?=some c→(C.set g c').flatten.count a + c.count a=C.flatten.count a + c'.count a
 | [],g,c,c',h=>by simp at h
 | y :: r,0,c,c',h=>by
  simp at h;subst h;simp [List.count_append];omega
 | y :: r,g + 1,c,c',h=>by
  have:=count_set a r g c c' (by simpa using h);simp [List.count_append];omega
theorem He {α:Type} [BEq α] [LawfulBEq α] (a:α) (l:List α) (k:Nat):(l.take k).count a + (l.drop k).count a=l.count a:=by
 rw [← List.count_append,List.take_append_drop]
theorem Hf (M:List Int) (n:Nat):M.reverse.take n=(M.drop (M.length - n)).reverse:=by
 rw [List.take_reverse]
theorem ND (most:Nat) (c M:List Int) (a:Int):(own most c M).count a + (bH most c M).count a=c.count a + M.count a:=by
 unfold own bH;rw [Hf,List.count_append,List.count_reverse];have:=He a M (M.length - nM most c M);omega
theorem Dw {most:Nat} (h1:1≤most) {c M:List Int} (h:own most c M=[]):c=[]∧M=[]:=by
 unfold own nM room at h;simp only [List.append_eq_nil_iff] at h;obtain ⟨rfl,h⟩:=h;refine ⟨rfl,?_⟩;rw [if_pos rfl] at h
 cases M with
 | nil=>rfl
 | cons x r =>
  have:=congrArg List.length h;simp at this
theorem NF {s:St} {a:Int}:1≤ei s a↔a∈s.M∨∃ c∈s.C,a∈c:=by
 unfold ei
 constructor
 ·intro h;have h2:0 < s.M.count a∨0 < s.C.flatten.count a:=by omega
  rcases h2 with h2 | h2
  ·exact .inl (List.count_pos_iff.1 h2)
  ·right
   have:=List.count_pos_iff.1 h2;simpa using this
 ·rintro (h | ⟨c,hc,h⟩)
  ·have:=List.count_pos_iff.2 h;omega
  ·have:0 < s.C.flatten.count a:=List.count_pos_iff.2 (List.mem_flatten.2 ⟨c,hc,h⟩);omega
theorem xU {o:List Int} (h:o≠[]):o=o.dropLast ++ [o.getLastD 0]:=by
 have:=List.dropLast_concat_getLast h;rw [List.getLastD_eq_getLast?,List.getLast?_eq_some_getLast h];exact this.symm
theorem lZ {α:Type} (l:List α) (i j:Nat) (t d:α) (h:i < l.length):(l.set i t).getD j d=if i=j then t else l.getD j d:=by
 by_cases e:i=j
 ·subst e;simp [h]
 ·simp [List.getD,e]
theorem Inv.last {size most:Nat} {s:St} (v:Inv size most s) {g:Nat} {c:List Int} (hg:s.C[g]?=some c) {o:List Int} (ho:o=own most c s.M) (h0:o≠[]) :
  0≤o.getLastD 0∧o.getLastD 0 < s.f:=by
 have hm:o.getLastD 0∈o:=by
  have:=xU h0;generalize o.getLastD 0=x at *;rw [this];simp
 apply v.bound;apply NF.2;generalize o.getLastD 0=x at *;rw [ho] at hm;unfold own at hm;rcases List.mem_append.1 hm with h | h
 ·exact .inr ⟨c,List.mem_of_getElem? hg,h⟩
 ·left
  have:=List.mem_of_mem_take h;simpa using this
theorem Hg {most:Nat} (h1:1≤most) {c M:List Int} (hc:c.length≤most):(own most c M).length≤most:=by
 unfold own nM room
 by_cases h:c=[]
 ·subst h;simp;omega
 ·simp [h];exact hc
def ind (x a:Int):Nat:=if x=a then 1 else 0
theorem NG {o:List Int} (h:o≠[]) (a:Int):o.count a=o.dropLast.count a + ind (o.getLastD 0) a:=by
 conv=>lhs;rw [xU h]
 rw [List.count_append,List.count_singleton];unfold ind
 by_cases e:o.getLastD 0=a <;> simp [e]
theorem Dx {size most:Nat} {s:St} {g:Nat} {c:List Int} (hg:s.C[g]?=some c) (h0:own most c s.M≠[]) (a:Int) :
  ei (sA s g (own most c s.M) (bH most c s.M)) a + ind ((own most c s.M).getLastD 0) a=ei s a:=by
 have e1:=count_set a s.C g c (own most c s.M).dropLast hg;have e2:=ND most c s.M a;have e3:=NG h0 a
 show (bH most c s.M).count a + (s.C.set g (own most c s.M).dropLast).flatten.count a + _=s.M.count a + s.C.flatten.count a;omega
theorem mem_set {α:Type} {l:List α} {g:Nat} {c x:α} (h:x∈l.set g c):x∈l∨x=c:=List.mem_or_eq_of_mem_set h
theorem Inv.sA {size most:Nat} {s:St} (v:Inv size most s) {g:Nat} {c:List Int} (hg:s.C[g]?=some c) (h0:own most c s.M≠[]) :
  Inv size most (sA s g (own most c s.M) (bH most c s.M)):=by
 have hb:=v.last hg rfl h0;have sB:=Dx (size:=size) hg h0;have xe:=Hg v.m1 (M:=s.M) (v.pZ c (List.mem_of_getElem? hg));have jC:ei s ((own most c s.M).getLastD 0)≤1:=v.one _;refine ⟨v.m1,v.m2,v.s1,by simpa [Po.sA] using v.hl,v.fl,fun a=>by have:=sB a;have:=v.one a;omega,fun a ha=>v.bound a (by have:=sB a;omega),?_,?_⟩
 ·intro x hx;have kM:=sB (x:Int);have qO:=v.one (x:Int);have xV:=v.home x hx;have qP:=v.fl;have jM:=sB ((own most c s.M).getLastD 0)
  show (s.H.set ((own most c s.M).getLastD 0).toNat false).getD x false=_;rw [lZ _ _ _ _ _ (by rw [v.hl];omega)];unfold ind at kM jM;rw [if_pos rfl] at jM
  by_cases e:((own most c s.M).getLastD 0).toNat=x
  ·rw [if_pos e];have e2:(own most c s.M).getLastD 0=(x:Int):=by omega
   rw [if_pos e2] at kM;simp;omega
  ·rw [if_neg e];have e2:(own most c s.M).getLastD 0≠(x:Int):=by omega
   rw [if_neg e2] at kM;rw [xV];simp only [decide_eq_decide];omega
 ·intro d hd;rcases mem_set hd with h | rfl
  ·exact v.pZ d h
  ·simp;omega
theorem Inv.fresh {size most:Nat} {s:St} (v:Inv size most s) (h:s.f < size):Inv size most ⟨s.C,s.M,s.f + 1,s.H⟩ :=
 ⟨v.m1,v.m2,v.s1,v.hl,h,v.one,fun a ha=>by have:=v.bound a ha;exact ⟨this.1,by simp;omega⟩,v.home,v.pZ⟩
theorem Hh {most:Nat} {s:St} {g:Nat} {c:List Int} (hg:s.C[g]?=some c) (x a:Int):ei (qY most s g c x) a=ei s a + ind x a:=by
 have e1:=count_set a s.C g c (c.take (c.length - ez most c) ++ [x]) hg;have e2:=He a c (c.length - ez most c);have e3:[x].count a=ind x a:=by unfold ind;rw [List.count_singleton];by_cases e:x=a <;> simp [e]
 show (s.M ++ c.reverse.take (ez most c)).count a + (s.C.set g (c.take (c.length - ez most c) ++ [x])).flatten.count a=s.M.count a + s.C.flatten.count a + _;rw [List.count_append,Hf,List.count_reverse];rw [List.count_append,e3] at e1;omega
theorem Inv.live {size most:Nat} {s:St} (v:Inv size most s) (x:Int):live s.f s.H x=(decide (0≤x) && decide (x < s.f) && decide (ei s x=0)):=by
 unfold Po.live
 by_cases h1:0≤x
 ·by_cases h2:x < s.f
  ·have:=v.home x.toNat (by have:=v.fl;omega);rw [this,Int.toNat_of_nonneg h1];simp only [h1,h2,decide_true,Bool.true_and];rw [Bool.eq_iff_iff];simp
  ·simp [h2]
 ·simp [h1]
theorem Inv.qY {size most:Nat} {s:St} (v:Inv size most s) {g:Nat} {c:List Int} (hg:s.C[g]?=some c) {x:Int} (hx:Po.live s.f s.H x=true) :
  Inv size most (qY most s g c x):=by
 rw [v.live] at hx;simp only [Bool.and_eq_true,decide_eq_true_eq] at hx;obtain ⟨⟨vv,kM⟩,qO⟩:=hx;have sB:=Hh (most:=most) hg x;have cF:=v.pZ c (List.mem_of_getElem? hg);refine ⟨v.m1,v.m2,v.s1,by simpa [Po.qY] using v.hl,v.fl,?_,?_,?_,?_⟩
 ·intro a;rw [sB];have:=v.one a;unfold ind
  split
  ·rename_i e;subst e;omega
  ·omega
 ·intro a ha;rw [sB] at ha;unfold ind at ha
  split at ha
  ·rename_i e;subst e;exact ⟨vv,kM⟩
  ·exact v.bound a (by omega)
 ·intro y hy;rw [sB];have qP:=v.fl
  show (s.H.set x.toNat true).getD y false=_;rw [lZ _ _ _ _ _ (by rw [v.hl];omega),v.home y hy];unfold ind
  by_cases e:x.toNat=y
  ·rw [if_pos e,if_pos (show x=(y:Int) by omega)];simp
  ·rw [if_neg e,if_neg (show x≠(y:Int) by omega)];simp
 ·intro d hd;rcases mem_set hd with h | rfl
  ·exact v.pZ d h
  ·have:=v.m1;simp only [List.length_append,List.length_take,List.length_singleton];unfold ez
   split <;> omega
theorem Inv.take {size most:Nat} {s:St} (v:Inv size most s) (g:Int):Inv size most (take size most s g).1:=by
 unfold Po.take
 split
 ·rename_i ht;simp only [lC,Bool.and_eq_true,decide_eq_true_eq] at ht;have hg:s.C[g.toNat]?=some (s.C.getD g.toNat []):=by
   rw [List.getD_eq_getElem?_getD,List.getElem?_eq_getElem (by omega)];simp
  split
  ·split
   ·rename_i h;exact v.fresh h
   ·exact v
  ·rename_i h;exact v.sA hg h
 ·exact v
theorem Inv.cz {size most:Nat} {s:St} (v:Inv size most s) (g x:Int):Inv size most (cz most s g x).1:=by
 unfold Po.cz
 split
 ·rename_i ht;simp only [lC,Bool.and_eq_true,decide_eq_true_eq] at ht;have hg:s.C[g.toNat]?=some (s.C.getD g.toNat []):=by
   rw [List.getD_eq_getElem?_getD,List.getElem?_eq_getElem (by omega)];simp
  exact v.qY hg ht.2
 ·exact v
def mN (L:List Int):Nat→Nat
 | 0=>0
 | k + 1=>mN L k + L.count (k:Int)
theorem NH (k:Nat):mN [] k=0:=by induction k with
 | zero=>rfl
 | succ k ih=>simp [mN,ih]
theorem NI (y:Int) (r:List Int) (k:Nat):mN (y :: r) k=mN r k + if 0≤y∧y < k then 1 else 0:=by
 induction k with
 | zero =>
  rw [if_neg (by omega)];rfl
 | succ k ih =>
  have e1:mN (y :: r) (k + 1)=mN (y :: r) k + (y :: r).count (k:Int):=rfl;have e2:mN r (k + 1)=mN r k + r.count (k:Int):=rfl;rw [e1,e2,ih,List.count_cons]
  by_cases e:y=(k:Int)
  ·rw [if_neg (by omega),if_pos (by simpa using e),if_pos (by omega)];omega
  ·have e3:(y == (k:Int))=false:=by simpa using e
   rw [e3,if_neg (show ¬ (false=true) by decide)]
   by_cases h:0≤y∧y < k
   ·rw [if_pos h,if_pos (by omega)];omega
   ·rw [if_neg h,if_neg (by omega)];omega
theorem NJ (L:List Int) (k:Nat) (h:∀ a∈L,0≤a∧a < k):mN L k=L.length:=by
 induction L with
 | nil=>exact NH k
 | cons y r ih =>
  rw [NI,ih (fun a ha=>h a (by simp [ha])),if_pos (h y (by simp))];simp
theorem NK (H:List Bool) (L:List Int) (Dy:∀ a,L.count a≤1) (k:Nat) (hk:k≤H.length) (hH:∀ x:Nat,x < k→H.getD x false=decide (1≤L.count (x:Int))):outs H k + mN L k=k:=by
 induction k with
 | zero=>simp [outs,mN]
 | succ k ih =>
  have hx:H[k]?=some (H.getD k false):=by rw [List.getD_eq_getElem?_getD,List.getElem?_eq_getElem (by omega)];simp
  rw [NC H k _ hx,hH k (by omega),mN];have:=ih (by omega) (fun x hx=>hH x (by omega));have:=Dy (k:Int)
  by_cases e:1≤L.count (k:Int)
  ·simp [e];omega
  ·simp [e];omega
theorem Inv.outs {size most:Nat} {s:St} (v:Inv size most s):outs s.H s.f + (s.M.length + s.C.flatten.length)=s.f:=by
 have hc:∀ a,(s.M ++ s.C.flatten).count a=ei s a:=fun a=>by rw [List.count_append];rfl
 have h1:=NK s.H (s.M ++ s.C.flatten) (fun a=>by rw [hc];exact v.one a) s.f (by rw [v.hl];exact v.fl) (fun x hx=>by rw [hc];exact v.home x (by have:=v.fl;omega));have h2:=NJ (s.M ++ s.C.flatten) s.f (fun a ha=>v.bound a (by rw [← hc];exact List.count_pos_iff.2 ha));rw [h2,List.length_append] at h1;exact h1
theorem Inv.lens {size most:Nat} {s:St} (v:Inv size most s):s.M.length≤64∧s.C.flatten.length≤64:=by
 have:=v.outs;have:=v.fl;have:=v.s1;omega
def settle (f:Int):List Bool→List Int→List Bool × Bool
 | H,[]=>(H,true)
 | H,x :: r=>if live f H x then settle f (H.set x.toNat true) r else (H,false)
theorem xW (f:Int) (H:List Bool) (x:Int) (r:List Int):settle f H (x :: r)=if live f H x then settle f (H.set x.toNat true) r else (H,false):=rfl
theorem Aq (f:Int):∀ (H:List Bool) (l:List Int),(settle f H l).1.length=H.length
 | H,[]=>rfl
 | H,x :: r=>by
  unfold settle
  split
  ·rw [Aq f _ r];simp
  ·rfl
theorem NL (l:List Int) (k:Nat) (h:k < l.length):l.drop k=l.getD k 0 :: l.drop (k + 1):=by
 rw [List.drop_eq_getElem_cons h,List.getD_eq_getElem?_getD,List.getElem?_eq_getElem h];rfl
theorem Hi (f:Int):∀ (H:List Bool) (a b:List Int),settle f H (a ++ b)=if (settle f H a).2 then settle f (settle f H a).1 b else settle f H a
 | H,[],b=>rfl
 | H,x :: r,b=>by
  rw [List.cons_append,xW,xW]
  by_cases h:live f H x=true
  ·rw [if_pos h,if_pos h];exact Hi f _ r b
  ·rw [if_neg h,if_neg h];rfl
def of (size most f:Int) (C:List (List Int)) (M:List Int):Bool :=
 fits size C.length most && decide (0≤f) && decide (f≤size) && decide (∀ l∈C,(l.length:Int)≤most) && (settle f (List.replicate size.toNat false) (C.flatten ++ M)).2
theorem mO {f:Int} {H:List Bool} {x:Int}:live f H x=true↔0≤x∧x < f∧H.getD x.toNat false=false:=by
 simp [live,and_assoc]
theorem Hj (f:Int):∀ (L:List Int) (H:List Bool),f≤H.length→((settle f H L).2=true↔(∀ x∈L,0≤x∧x < f)∧L.Nodup∧∀ x∈L,H.getD x.toNat false=false)
 | [],H,_=>by simp [settle]
 | x :: r,H,hf=>by
  rw [xW]
  by_cases h:live f H x=true
  ·rw [if_pos h,Hj f r _ (by simpa using hf)];obtain ⟨h1,h2,h3⟩:=mO.1 h;have hx:x.toNat < H.length:=by omega
   constructor
   ·rintro ⟨a,b,c⟩
    refine ⟨fun y hy=>?_,List.nodup_cons.2 ⟨fun hm=>?_,b⟩,fun y hy=>?_⟩
    ·rcases List.mem_cons.1 hy with rfl | hy
     ·exact ⟨h1,h2⟩
     ·exact a y hy
    ·have:=c x hm;rw [lZ _ _ _ _ _ hx,if_pos rfl] at this
     cases this
    ·rcases List.mem_cons.1 hy with rfl | hy
     ·exact h3
     ·have:=c y hy;rw [lZ _ _ _ _ _ hx] at this
      by_cases e:x.toNat=y.toNat
      ·rw [if_pos e] at this;cases this
      ·rwa [if_neg e] at this
   ·rintro ⟨a,b,c⟩
    obtain ⟨b1,b2⟩:=List.nodup_cons.1 b;refine ⟨fun y hy=>a y (by simp [hy]),b2,fun y hy=>?_⟩;have lS:x≠y:=fun e=>b1 (e ▸ hy)
    have XD:=(a y (by simp [hy])).1;rw [lZ _ _ _ _ _ hx,if_neg (by omega)];exact c y (by simp [hy])
  ·rw [if_neg h];simp only [Bool.false_eq_true,false_iff]
   rintro ⟨a,b,c⟩
   exact h (mO.2 ⟨(a x (by simp)).1,(a x (by simp)).2,c x (by simp)⟩)
end Po
namespace Sx
def xX:Pn.Op:=⟨0,0,0,0,[],false⟩
def oF:Cn:=⟨0,[],false,-1,[],[]⟩
def aa (s:ah) (g:Nat):Gr:=s.gs.getD g (clean [] 0)
def cn (s:ah) (ch:Int):Cn:=s.av.getD (ch - 1).toNat oF
def su (s:ah) (i:Int):Su:=s.aA.getD i.toNat fB
def ag (s:ah) (g:Nat):Pn.Op:=(aa s g).ops.getD (aa s g).at_.toNat xX
def aT (s:ah) (ch:Int):Bool:=decide (1≤ch∧ch≤s.av.length)
def ai (s:ah) (g:Nat) (x:Gr):ah:={ s with gs:=s.gs.set g x }
def aE (s:ah) (ch:Int) (c:Cn):ah:={ s with av:=s.av.set (ch - 1).toNat c }
def aV (s:ah) (i:Int) (x:Su):ah:={ s with aA:=s.aA.set i.toNat x }
def aS (s:ah) (g:Nat) (p:Int):ah:=ai s g { aa s g with place:=p }
def oG (x:Gr):Gr:={ clean x.ops x.at_ with place:=x.place,status:=x.status,token:=x.token }
def clear (s:ah) (g:Nat):ah:=ai s g (oG (aa s g))
def tryLock (s:ah) (g:Nat) (ch:Int):ah × Bool:=if (cn s ch).lock=-1 then (aE s ch { cn s ch with lock:=g },true) else (s,false)
def free (s:ah) (ch:Int):ah:=aE s ch { cn s ch with lock:=-1 }
def tX (s:ah):List Int:=s.middle ++ s.cache.flatten
def gM (s:ah) (x:Int):Bool:=decide (0≤x) && decide (x < s.fresh) && !(tX s).contains x
def bn (s:ah) (g:Nat):ah × Int × Bool :=
 if Po.own s.bX.toNat (s.cache.getD g []) s.middle=[] then (if s.fresh < s.dx then ({ s with fresh:=s.fresh + 1 },s.fresh,true) else (s,0,false))
 else ({ s with cache:=s.cache.set g (Po.own s.bX.toNat (s.cache.getD g []) s.middle).dropLast,middle:=Po.bH s.bX.toNat (s.cache.getD g []) s.middle },(Po.own s.bX.toNat (s.cache.getD g []) s.middle).getLastD 0,true)
def dO (s:ah) (g:Nat) (x:Int):ah :=
 if gM s x then { s with cache:=s.cache.set g ((s.cache.getD g []).take ((s.cache.getD g []).length - Po.ez s.bX.toNat (s.cache.getD g [])) ++ [x]),middle:=s.middle ++ (s.cache.getD g []).reverse.take (Po.ez s.bX.toNat (s.cache.getD g [])) }
 else s
def cz (s:ah) (g:Nat) (x:Int):ah:=aV (dO s g x) x fB
def gi (s:ah) (g:Nat):ah :=
 ai s g (if (aa s g).status=0∧(aa s g).token=true then { aa s g with token:=false } else if (aa s g).status=0 then { aa s g with status:=1 } else aa s g)
def ready (s:ah) (g:Nat):ah :=
 ai s g (if (aa s g).status=1 then { aa s g with status:=0 } else if (aa s g).status=0 then { aa s g with token:=true } else aa s g)
def pair (s:ah) (g:Nat) (i:Int):ah :=
 let x:=aa s g
 let o:=(su s i).g
 ai (ai s o.toNat { aa s o.toNat with bT:=x.t,wi:=g,dm:=(su s i).cs }) g { x with bT:=x.t,wi:=o }
def serve (s:ah) (g:Nat) (i:Int) (d:Bool):ah :=
 let o:=(su s i).g
 let s2:=aV (ai s o.toNat { aa s o.toNat with param:=i }) i { su s i with done:=d }
 ai s2 g { aa s2 g with au:=(aa s2 g).au ++ [o],hold:=-1 }
def au (s:ah) (g:Nat):ah:=if 0 < (aa s g).au.length then aS s g 17 else aS s g 18
def common (s:ah) (g:Nat):ah × Bool :=
 let x:=aa s g
 let o:=ag s g
 if x.place=4 then
  (if (tryLock s g o.ch).2=true then (if o.kind=6 then (aS (tryLock s g o.ch).1 g 21,true) else (aS (tryLock s g o.ch).1 g 5,true)) else (s,true))
 else if x.place=12 then (aS (free s o.ch) g 13,true)
 else if x.place=13 then (gi (aS s g 14) g,true)
 else if x.place=15 then (aS (ai (cz s g x.bh) g { x with bh:=-1 }) g 18,true)
 else if x.place=16 then (au (free s o.ch) g,true)
 else if x.place=17 then (au (ai (ready s (x.au.headD 0).toNat) g { x with au:=x.au.tail }) g,true)
 else (s,false)
def cq (s:ah) (g:Nat) (r:Md.aj) (p:Int):ah:=ai s g { aa s g with bT:=s.step,res:=r,place:=p }
def eB (v:Int) (ok:Bool):Md.aj:=⟨1,-1,v,ok,0⟩
def res (c:Int):Md.aj:=⟨c,-1,0,false,0⟩
def oH:Md.aj:=⟨1,-1,0,true,0⟩
def room (c:Cn):Bool:=if 0 < c.cap then decide ((c.buf.length:Int) < c.cap) else decide (0 < c.recv.length)
def tY (c:Cn):Bool:=if 0 < c.cap then decide (0 < c.buf.length) else decide (0 < c.send.length)
def gO (l:List Int) (x:Int):List Int:=l.filter (· != x)
def aZ (s:ah) (i:Int):ah :=
 if aT s (su s i).ch=true then aE s (su s i).ch { cn s (su s i).ch with recv:=gO (cn s (su s i).ch).recv i,send:=gO (cn s (su s i).ch).send i } else s
def taken (s:ah) (g:Nat) (i cT hand:Int):ah :=
 if 0≤(su s i).cs then aS (ai s g { aa s g with hold:=i }) g cT
 else aS (pair (aZ (ai s g { aa s g with hold:=i,t:=s.step }) i) g i) g hand
def cT (s:ah) (g:Nat) (back on:Int):ah :=
 let x:=aa s g
 let p:=(su s x.hold).g.toNat
 if (aa s p).bG=true then ai (aZ s x.hold) g { x with hold:=-1,place:=back }
 else aS (pair (ai (ai s g { x with t:=s.step }) p { aa s p with bG:=true }) g x.hold) g on
def bh (s:ah) (g:Nat) (d:Su):ah :=
 if (bn s g).2.2=true then ai (aV (bn s g).1 (bn s g).2.1 d) g { aa s g with bh:=(bn s g).2.1,place:=11 }
 else ai (bn s g).1 g { aa s g with res:={ (aa s g).res with code:=6 },place:=16 }
def mS (s:ah) (g:Nat) (v:Int):ah :=
 let h:=(aa s g).hold
 let s1:=aZ s h
 serve (aV s1 h { su s1 h with v:=v }) g h true
def fo (l:List Int) (room v:Int):List Int × Bool:=if room≤l.length then (l,false) else (l ++ [v],true)
def dF (l:List Int):List Int × Int × Bool:=if l.length=0 then (l,0,false) else (l.tail,l.headD 0,true)
def fh (l:List Int) (room v:Int):List Int × Int × Bool:=if (l.length:Int) < room∨l.length=0 then (l,0,false) else (l.tail ++ [v],l.headD 0,true)
def cu (s:ah) (g:Nat):ah × Bool :=
  let x:=aa s g
  let o:=ag s g
  let c:=cn s o.ch
  if o.kind≠2∧o.kind≠4 then (s,false)
  else if (common s g).2=true then ((common s g).1,true)
  else if aT s o.ch=false then (s,false)
  else if x.place=1 then (if room c=true then (aS s g 4,true) else (cq s g x.res 2,true))
  else if x.place=2 then (if c.closed=true then (ai s g { x with bT:=0,place:=4 },true) else (ai s g { x with res:={ x.res with code:=2 },place:=18 },true))
  else if x.place=5 then (if c.closed=true then (cq s g (res 3) 16,true) else (aS s g 6,true))
  else if x.place=6 then (if c.recv.length=0 then (aS s g 9,true) else (taken s g (c.recv.headD 0) 7 8,true))
  else if x.place=7 then (cT s g 6 8,true)
  else if x.place=8 then (ai (mS s g o.v) g { aa (mS s g o.v) g with res:=oH,place:=16 },true)
  else if x.place=9 then
    (if (fo c.buf c.cap o.v).2=true then (cq (aE s o.ch { c with buf:=(fo c.buf c.cap o.v).1 }) g oH 16,true)
     else if o.kind=4 then (cq s g (res 2) 16,true) else (aS s g 10,true))
  else if x.place=10 then (bh s g ⟨true,g,o.ch,-1,true,o.v,false⟩,true)
  else if x.place=11 then (ai (aE s o.ch { c with send:=c.send ++ [x.bh] }) g { x with iy:=s.step,place:=12 },true)
  else if x.place=14 then (ai s g { x with res:=if (su s x.param).done=true then oH else res 3,param:=-1,place:=15 },true)
  else (s,false)
def hand (s:ah) (ch i:Int):ah × Int :=
 let c:=cn s ch
 if c.cap=0 then (s,(su s i).v)
 else (aE s ch { c with buf:=(fh c.buf c.cap (su s i).v).1 },(fh c.buf c.cap (su s i).v).2.1)
def cj (s:ah) (g:Nat):ah × Bool :=
  let x:=aa s g
  let o:=ag s g
  let c:=cn s o.ch
  if o.kind≠3∧o.kind≠5 then (s,false)
  else if (common s g).2=true then ((common s g).1,true)
  else if aT s o.ch=false then (s,false)
  else if x.place=1 then (if tY c=true then (aS s g 4,true) else (cq s g x.res 2,true))
  else if x.place=2 then (if c.closed=true then (aS s g 3,true) else (ai s g { x with res:={ x.res with code:=2 },place:=18 },true))
  else if x.place=3 then (if tY c=true then (ai s g { x with bT:=0,place:=4 },true) else (cq s g (eB 0 false) 18,true))
  else if x.place=5 then
    (if c.closed=true∧c.buf.length=0 then (cq s g (eB 0 false) 16,true) else if c.closed=true then (aS s g 9,true) else (aS s g 6,true))
  else if x.place=6 then (if c.send.length=0 then (aS s g 9,true) else (taken s g (c.send.headD 0) 7 8,true))
  else if x.place=7 then (cT s g 6 8,true)
  else if x.place=8 then
    (let n:=hand (aZ s x.hold) o.ch x.hold
     let n2:=serve n.1 g x.hold true
     (ai n2 g { aa n2 g with res:=eB n.2 true,place:=16 },true))
  else if x.place=9 then
    (if (dF c.buf).2.2=true then (cq (aE s o.ch { c with buf:=(dF c.buf).1 }) g (eB (dF c.buf).2.1 true) 16,true)
     else if o.kind=5 then (cq s g (res 2) 16,true) else (aS s g 10,true))
  else if x.place=10 then (bh s g ⟨true,g,o.ch,-1,false,0,false⟩,true)
  else if x.place=11 then (ai (aE s o.ch { c with recv:=c.recv ++ [x.bh] }) g { x with iy:=s.step,place:=12 },true)
  else if x.place=14 then (ai s g { x with res:=if (su s x.param).done=true then eB (su s x.param).v true else eB 0 false,param:=-1,place:=15 },true)
  else (s,false)
def jj (s:ah) (g:Nat):ah :=
 let i:=(aa s g).hold
 let s1:=aZ (ai s g { aa s g with t:=s.step }) i
 let d:=su s1 i
 serve (ai s1 d.g.toNat { aa s1 d.g.toNat with bT:=(aa s1 g).t,dm:=d.cs }) g i false
def l9 (s:ah) (g:Nat) (i:Int):ah :=
 let s1:=ai s g { aa s g with hold:=i }
 if 0≤(su s1 i).cs then aS s1 g 23 else jj s1 g
def nN (s:ah) (g:Nat):ah :=
 let x:=aa s g
 let p:=(su s x.hold).g.toNat
 if (aa s p).bG=true then ai (aZ s x.hold) g { x with hold:=-1,place:=22 }
 else aS (jj (ai s p { aa s p with bG:=true }) g) g 22
def dY (s:ah) (g:Nat):ah × Bool :=
 let x:=aa s g
 let o:=ag s g
 let c:=cn s o.ch
 if o.kind≠6 then (s,false)
 else if (common s g).2=true then ((common s g).1,true)
 else if aT s o.ch=false then (s,false)
 else if x.place=21 then (if c.closed=true then (cq s g (res 4) 16,true) else (cq (aE s o.ch { c with closed:=true }) g oH 22,true))
 else if x.place=22 then
  (if 0 < c.recv.length then (l9 s g (c.recv.headD 0),true) else if 0 < c.send.length then (l9 s g (c.send.headD 0),true) else (aS s g 16,true))
 else if x.place=23 then (nN s g,true)
 else (s,false)
def unlock (s:ah) (g:Nat) (p:Int):ah:=ai s g { aa s g with k:=(aa s g).aB.length,place:=p }
def cZ (s:ah) (g:Nat) (r:Md.aj) (i:Int):ah :=
 let s1:=cq s g { r with cs:=i } 30
 unlock (ai s1 g { aa s1 g with dm:=i }) g 30
def ax (l:List Int) (k:Int):Int:=l.getD k.toNat 0
def lock (s:ah) (g:Nat) (p:Int):ah :=
 let x:=aa s g
 if (tryLock s g (ax x.aB x.k)).2=true then
  (if x.k + 1=x.aB.length then ai (tryLock s g (ax x.aB x.k)).1 g { x with k:=0,place:=p } else ai (tryLock s g (ax x.aB x.k)).1 g { x with k:=x.k + 1 })
 else s
def next (s:ah) (g:Nat) (p:Int):ah :=
 let x:=aa s g
 if x.k + 1=x.order.length then ai s g { x with k:=0,place:=p } else ai s g { x with k:=x.k + 1 }
def dG (s:ah) (g:Nat):ah :=
 let x:=aa s g
 if x.place=27 then ai s g { x with dm:=ax x.order x.k } else ai s g x
def NM:Pn.Cs:=⟨false,0,0⟩
def aH (o:Pn.Op) (i:Int):Pn.Cs:=o.cases.getD i.toNat NM
def fX (s:ah) (g:Nat) (i:Int) (k:Pn.Cs):ah × Bool :=
 let c:=cn s k.ch
 if c.closed=true then (cZ s g ⟨3,0,0,false,0⟩ i,true)
 else if 0 < c.recv.length then (dG (taken s g (c.recv.headD 0) 26 27) g,true)
 else if (fo c.buf c.cap k.v).2=true then (cZ (aE s k.ch { c with buf:=(fo c.buf c.cap k.v).1 }) g ⟨1,0,0,true,0⟩ i,true)
 else (s,false)
def gE (s:ah) (g:Nat) (i:Int) (k:Pn.Cs):ah × Bool :=
 let c:=cn s k.ch
 if 0 < c.send.length then (dG (taken s g (c.send.headD 0) 26 27) g,true)
 else if (dF c.buf).2.2=true then (cZ (aE s k.ch { c with buf:=(dF c.buf).1 }) g (eB (dF c.buf).2.1 true) i,true)
 else if c.closed=true then (cZ s g (eB 0 false) i,true)
 else (s,false)
def fq (s:ah) (g:Nat) (o:Pn.Op):ah :=
 let x:=aa s g
 let i:=ax x.order x.k
 let k:=aH o i
 let r:=if k.send=true then fX s g i k else gE s g i k
 if r.2=true then r.1
 else if x.k + 1 < x.order.length then next s g 25
 else if o.de=true then cZ s g ⟨2,0,0,false,0⟩ (-1)
 else next (ai s g { x with aq:=List.replicate o.cases.length (-1) }) g 28
def gG (s:ah) (g:Nat) (o:Pn.Op):ah :=
 let x:=aa s g
 let i:=ax x.order x.k
 let k:=aH o i
 let s1:=aZ s x.hold
 let n:=if k.send=true then (aV s1 x.hold { su s1 x.hold with v:=k.v },(⟨1,i,0,true,0⟩:Md.aj)) else ((hand s1 k.ch x.hold).1,{ eB (hand s1 k.ch x.hold).2 true with cs:=i })
 let s2:=serve n.1 g x.hold true
 unlock (ai s2 g { aa s2 g with res:=n.2 }) g 30
def aA (s:ah) (g:Nat) (o:Pn.Op):ah :=
 let x:=aa s g
 let i:=ax x.order x.k
 let k:=aH o i
 if (bn s g).2.2=true then
  next (ai (aV (bn s g).1 (bn s g).2.1 ⟨true,g,k.ch,i,k.send,k.v,false⟩) g { x with aq:=x.aq.set i.toNat (bn s g).2.1 }) g 29
 else unlock (ai (bn s g).1 g { x with res:={ x.res with code:=6 } }) g 30
def iT (s:ah) (g:Nat) (o:Pn.Op):ah :=
 let x:=aa s g
 let i:=ax x.order x.k
 let k:=aH o i
 let c:=cn s k.ch
 let s1:=aE s k.ch (if k.send=true then { c with send:=c.send ++ [ax x.aq i] } else { c with recv:=c.recv ++ [ax x.aq i] })
 if x.k + 1 < x.order.length then next s1 g 29
 else unlock (ai s1 g { x with iy:=s1.step }) g 30
def ck (s:ah) (g:Nat):ah × Bool :=
 let x:=aa s g
 (ai (free s (ax x.aB (x.k - 1))) g { x with k:=x.k - 1 },decide (0 < x.k - 1))
def jT (l:List Int):Bool:=l.any (fun x=>decide (0≤x))
def kj (s:ah) (g:Nat):ah :=
 let x:=aa s g
 let d:=su s x.param
 let r:Md.aj:=if d.done=true then { eB d.v true with cs:=d.cs } else { eB 0 false with cs:=d.cs }
 let r2:Md.aj:=if d.send=true∧d.done=true then { r with v:=0 } else if d.send=true then ⟨3,d.cs,0,false,0⟩ else r
 ai s g { x with res:=r2,param:=-1,k:=0,place:=31 }
def iU (s:ah) (g:Nat):ah :=
 let x:=aa s g
 let s1:=aZ s (ax x.aq (ax x.order x.k))
 if x.k + 1 < x.order.length then next s1 g 32 else unlock s1 g 33
def iz (s:ah) (g:Nat):ah :=
 let x:=aa s g
 let i:=ax x.order x.k
 let s1:=if 0≤ax x.aq i then cz s g (ax x.aq i) else s
 if x.k + 1=x.order.length then au (next (ai s1 g { x with aq:=[] }) g 34) g
 else next (ai s1 g { x with aq:=x.aq.set i.toNat (-1) }) g 34
def aR (s:ah) (g:Nat):ah × Bool :=
  let x:=aa s g
  let o:=ag s g
  if o.kind≠9 then (s,false)
  else if x.place=24 then (lock s g 25,true)
  else if x.place=25 then (fq s g o,true)
  else if x.place=26 then (dG (cT s g 25 27) g,true)
  else if x.place=27 then (gG s g o,true)
  else if x.place=28 then (aA s g o,true)
  else if x.place=29 then (iT s g o,true)
  else if x.place=30 then
    (if (ck s g).2=true then ((ck s g).1,true) else if x.res.code=0 then (aS (ck s g).1 g 13,true)
     else if jT x.aq=true then (aS (ck s g).1 g 34,true) else (au (ck s g).1 g,true))
  else if x.place=14 then (kj s g,true)
  else if x.place=31 then (lock s g 32,true)
  else if x.place=32 then (iU s g,true)
  else if x.place=33 then (if (ck s g).2=true then ((ck s g).1,true) else (aS (ck s g).1 g 34,true))
  else if x.place=34 then (iz s g,true)
  else if x.place=13∨x.place=17 then common s g
  else (s,false)
def never (s:ah) (g:Nat):ah:=gi (aS s g 19) g
def draw (l:List Int) (at_ n:Int):Int × Int:=if n < 1∨(l.length:Int)≤at_ then (0,at_) else ((ax l at_) % n,at_ + 1)
def drawn:ah→Nat→List Int × Int
 | s,0=>([],s.drawn)
 | s,n + 1=>((drawn s n).1 ++ [(draw s.di (drawn s n).2 (n + 1)).1],(draw s.di (drawn s n).2 (n + 1)).2)
def swap (l:List Int) (i j:Nat):List Int:=(l.set i (l.getD j 0)).set j (l.getD i 0)
def eU (ds:List Int):Nat→List Int
 | 0=>[]
 | n + 1=>swap (eU ds n ++ [(n:Int)]) (ds.getD n 0 % (n + 1)).toNat n
def insert (x:Int):List Int→List Int
 | []=>[x]
 | y :: l=>if y≤x then y :: insert x l else x :: y :: l
def sort (l:List Int):List Int:=l.foldl (fun acc x=>insert x acc) []
def iJ (acc:List Int) (x:Int):List Int:=if x≤0∨(0 < acc.length∧acc.getLastD 0=x) then acc else acc ++ [x]
def aB (l:List Int):List Int:=(sort l).foldl iJ []
def ko (s:ah) (g:Nat) (o:Pn.Op):ah :=
 let n:=o.cases.length
 let s1:={ s with drawn:=(drawn s n).2 }
 let ord:=eU (drawn s n).1 n
 let gj:=ord.filter (fun i=>aT s (aH o i).ch)
 let ids:=gj.map (fun i=>(aH o i).ch)
 let s2:=ai s1 g { aa s g with order:=(aa s g).order ++ gj,aB:=aB ids,place:=24 }
 if 0 < ids.length then s2 else if o.de=true then cq s2 g (res 2) 18 else never s2 g
def kq (s:ah) (g:Nat):ah :=
 let x:=aa s g
 if (x.ops.length:Int)≤x.at_ then ai s g { x with status:=2,token:=false }
 else
  let s1:=clear s g
  let s2:=ai s1 g { aa s1 g with call:=s1.step }
  let o:=ag s2 g
  let m:=aT s2 o.ch
  if o.kind=1∨o.kind=7∨o.kind=8 then aS s2 g 20
  else if o.kind=2∨o.kind=3 then (if m=true then aS s2 g 4 else never s2 g)
  else if o.kind=4∨o.kind=5 then (if m=true then aS s2 g 1 else cq s2 g (res 2) 18)
  else if o.kind=6 then (if m=true then aS s2 g 4 else cq s2 g (res 5) 18)
  else ko s2 g o
def kr (s:ah) (g:Nat):ah :=
 let o:=ag s g
 if o.kind=1∧8≤s.av.length then cq s g (res 7) 18
 else if o.kind=1 then cq { s with av:=s.av ++ [⟨o.n,[],false,-1,[],[]⟩] } g ⟨1,-1,0,true,s.av.length + 1⟩ 18
 else if aT s o.ch=true∧o.kind=7 then cq s g ⟨1,-1,0,true,(cn s o.ch).buf.length⟩ 18
 else if aT s o.ch=true then cq s g ⟨1,-1,0,true,(cn s o.ch).cap⟩ 18
 else cq s g ⟨1,-1,0,true,0⟩ 18
def mark (s:ah) (g:Nat) (re:Int):Mk :=
 let x:=aa s g
 ⟨g,x.at_,x.call,x.iy,x.bT,x.wi,x.dm,re,x.res⟩
def answer (s:ah) (g:Nat):ah :=
 let s1:={ s with done:=s.done ++ [mark s g s.step] }
 clear (ai s1 g { aa s1 g with at_:=(aa s1 g).at_ + 1,place:=0 }) g
def jm (s:ah) (g:Nat):ah × Bool :=
 let x:=aa s g
 if x.place=0 then (kq s g,true) else if x.place=20 then (kr s g,true) else if x.place=18 then (answer s g,true) else (s,false)
def running (s:ah):List Int:=((List.range s.gs.length).filter (fun g=>decide ((aa s g).status=0))).map Int.ofNat
def one (s:ah) (g:Int):ah × Bool :=
 if g < 0∨(s.gs.length:Int)≤g∨(aa s g.toNat).status≠0 then (s,false)
 else
  let n:={ s with step:=s.step + 1 }
  if (jm n g.toNat).2=true then ((jm n g.toNat).1,true)
  else if (cu n g.toNat).2=true then ((cu n g.toNat).1,true)
  else if (cj n g.toNat).2=true then ((cj n g.toNat).1,true)
  else if (dY n g.toNat).2=true then ((dY n g.toNat).1,true)
  else if (aR n g.toNat).2=true then ((aR n g.toNat).1,true)
  else (s,false)
def pick (s:ah) (p:Int):Int:=if (running s).length=0 then -1 else ax (running s) (p % ((running s).length:Int))
def runs (s:ah):List Int→ah × Int
 | []=>(s,0)
 | p :: r=>if pick s p < 0 then (s,0) else ((runs (one s (pick s p)).1 r).1,(runs (one s (pick s p)).1 r).2 + 1)
end Sx
namespace Fl
open Sx Go.Proofs.Tryz
instance:fA prog 2 1:={}
instance:fV prog 2:={}
instance:bw prog 2 [.int .i64 0]:={}
instance:kf prog 2 .i64:={}
instance:fA prog 3 1:={}
instance:fV prog 3:={}
instance:bw prog 3 [.int .i64 0]:={}
instance:kf prog 3 .i64:={}
instance:fA prog 4 1:={}
instance:fV prog 4:={}
instance:bw prog 4 [.bool false]:={}
instance:xm prog 4:={}
instance:bw prog 5 [.int .u8 0]:={}
instance:kf prog 5 .u8:={}
instance:bw prog 6 [.int .u8 0]:={}
instance:kf prog 6 .u8:={}
instance:bw prog 7 [.int .i64 0,.int .i64 0,.bool false,.int .u8 0]:={}
instance:bw prog 8 [.int .i64 0,.int .i64 0,.bool false,.int .u8 0]:={}
instance:bw prog 9 [.string ⟨#[]⟩]:={}
instance:bw prog 10 [.string ⟨#[]⟩]:={}
instance:bw prog 11 [.string ⟨#[]⟩]:={}
instance:bw prog 12 [.int .u64 0]:={}
instance:kf prog 12 .u64:={}
instance:bw prog 13 [.string ⟨#[]⟩,.int .u64 0]:={}
instance:bw prog 14 [.string ⟨#[]⟩,.int .u64 0]:={}
instance:bw prog 15 [.pointer none]:={}
instance:bw prog 16 [.pointer none]:={}
instance:bw prog 17 [.pointer none]:={}
instance:bw prog 18 [.pointer none]:={}
instance:bw prog 19 [.pointer none]:={}
instance:bw prog 21 [.int .i32 0]:={}
instance:kf prog 21 .i32:={}
instance:fV prog 22:={}
instance:bw prog 22 [.slice none 0 0]:={}
instance:fu prog 22 43 1:={}
instance:gf prog 22 43 1 24 (.slice none 0 0):=⟨⟨by kernel_rfl,by kernel_rfl,rfl,by decide,by decide⟩⟩
instance:bw prog 23 [.int .i64 0,.int .i64 0]:={}
instance:jP prog 24 2:={}
instance:bw prog 24 [.int .i64 0,.int .i64 0]:={}
instance:bP prog 24 0 0:={}
instance:bP prog 24 1 1:={}
instance:iS prog 24 [(0,1),(1,1)]:={}
instance:fV prog 25:={}
instance:bw prog 25 [.slice none 0 0]:={}
instance:fu prog 25 110 1:={}
instance:gf prog 25 110 1 2 (.int .u16 0):=⟨⟨by kernel_rfl,by kernel_rfl,rfl,by decide,by decide⟩⟩
instance:bw prog 26 [.slice none 0 0,.int .i64 0,.int .i64 0,.slice none 0 0]:={}
instance:jP prog 27 4:={}
instance:bw prog 27 [.slice none 0 0,.int .i64 0,.int .i64 0,.slice none 0 0]:={}
instance:bP prog 27 0 0:={}
instance:bP prog 27 1 1:={}
instance:bP prog 27 2 3:={}
instance:fA prog 28 1:={}
instance:fV prog 28:={}
instance:bw prog 28 [.slice none 0 0]:={}
instance:fu prog 28 3 1:={}
instance:gf prog 28 3 1 8 (.int .i64 0):=⟨⟨by kernel_rfl,by kernel_rfl,rfl,by decide,by decide⟩⟩
instance:fA prog 30 1:={}
instance:fV prog 30:={}
instance:bw prog 30 [.slice none 0 0]:={}
instance:fu prog 30 47 25:={}
instance:gf prog 30 47 25 280 (.agg #[.slice none 0 0,.int .i64 0,.int .i64 0,.int .i64 0,.bool false,.int .i64 0,.bool false,.int .i64 0,.int .i64 0,.int .i64 0,.int .i64 0,.int .i64 0,.int .i64 0,.int .i64 0,.int .i64 0,.int .i64 0,.int .i64 0,.int .i64 0,.bool false,.int .i64 0,.slice none 0 0,.slice none 0 0,.slice none 0 0,.slice none 0 0,.int .i64 0]):=⟨⟨by kernel_rfl,by kernel_rfl,rfl,by decide,by decide⟩⟩
instance:fA prog 31 1:={}
instance:fV prog 31:={}
instance:bw prog 31 [.slice none 0 0]:={}
instance:fu prog 31 59 6:={}
instance:gf prog 31 59 6 96 (.agg #[.int .i64 0,.slice none 0 0,.bool false,.int .i64 0,.slice none 0 0,.slice none 0 0]):=⟨⟨by kernel_rfl,by kernel_rfl,rfl,by decide,by decide⟩⟩
instance:fA prog 32 1:={}
instance:fV prog 32:={}
instance:bw prog 32 [.slice none 0 0]:={}
instance:fu prog 32 52 7:={}
instance:gf prog 32 52 7 56 (.agg #[.bool false,.int .i64 0,.int .i64 0,.int .i64 0,.bool false,.int .i64 0,.bool false]):=⟨⟨by kernel_rfl,by kernel_rfl,rfl,by decide,by decide⟩⟩
instance:fA prog 33 1:={}
instance:fV prog 33:={}
instance:bw prog 33 [.slice none 0 0]:={}
instance:fu prog 33 28 1:={}
instance:gf prog 33 28 1 24 (.slice none 0 0):=⟨⟨by kernel_rfl,by kernel_rfl,rfl,by decide,by decide⟩⟩
instance:fA prog 34 1:={}
instance:fV prog 34:={}
instance:bw prog 34 [.slice none 0 0]:={}
instance:fu prog 34 54 13:={}
instance:gf prog 34 54 13 104 (.agg #[.int .i64 0,.int .i64 0,.int .i64 0,.int .i64 0,.int .i64 0,.int .i64 0,.int .i64 0,.int .i64 0,.int .i64 0,.int .i64 0,.int .i64 0,.bool false,.int .i64 0]):=⟨⟨by kernel_rfl,by kernel_rfl,rfl,by decide,by decide⟩⟩
instance:bw prog 35 [.int .i64 0,.int .i64 0,.int .i64 0,.slice none 0 0,.slice none 0 0,.slice none 0 0,.slice none 0 0,.slice none 0 0,.int .i64 0,.slice none 0 0,.int .i64 0,.slice none 0 0]:={}
instance:fA prog 36 12:={}
instance:jP prog 36 12:={}
instance:bw prog 36 [.int .i64 0,.int .i64 0,.int .i64 0,.slice none 0 0,.slice none 0 0,.slice none 0 0,.slice none 0 0,.slice none 0 0,.int .i64 0,.slice none 0 0,.int .i64 0,.slice none 0 0]:={}
instance:bP prog 36 0 0:={}
instance:bP prog 36 1 2:={}
instance:bP prog 36 2 3:={}
instance:bP prog 36 3 4:={}
instance:bP prog 36 4 5:={}
instance:bP prog 36 5 6:={}
instance:bP prog 36 6 7:={}
instance:bP prog 36 7 8:={}
instance:bP prog 36 8 9:={}
instance:bP prog 36 9 10:={}
instance:bP prog 36 10 11:={}
instance:iS prog 36 [(0,2),(2,1),(3,1),(4,1),(5,1),(6,1),(7,1),(8,1),(9,1),(10,1),(11,1)]:={}
instance:bw prog 39 [.pointer none]:={}
instance:fA prog 43 1:={}
instance:fV prog 43:={}
instance:bw prog 43 [.slice none 0 0]:={}
instance:fu prog 43 50 6:={}
instance:gf prog 43 50 6 64 (.agg #[.int .i64 0,.int .i64 0,.int .i64 0,.int .i64 0,.slice none 0 0,.bool false]):=⟨⟨by kernel_rfl,by kernel_rfl,rfl,by decide,by decide⟩⟩
instance:bw prog 44 [.int .i64 0,.int .i64 0,.int .i64 0,.bool false,.int .i64 0]:={}
instance:fA prog 45 5:={}
instance:jP prog 45 5:={}
instance:bw prog 45 [.int .i64 0,.int .i64 0,.int .i64 0,.bool false,.int .i64 0]:={}
instance:bP prog 45 0 0:={}
instance:bP prog 45 1 1:={}
instance:bP prog 45 2 2:={}
instance:bP prog 45 3 3:={}
instance:bP prog 45 4 4:={}
instance:iS prog 45 [(0,1),(1,1),(2,1),(3,1),(4,1)]:={}
instance:bw prog 46 [.slice none 0 0,.int .i64 0,.int .i64 0,.int .i64 0,.bool false,.int .i64 0,.bool false,.int .i64 0,.int .i64 0,.int .i64 0,.int .i64 0,.int .i64 0,.int .i64 0,.int .i64 0,.int .i64 0,.int .i64 0,.int .i64 0,.int .i64 0,.bool false,.int .i64 0,.slice none 0 0,.slice none 0 0,.slice none 0 0,.slice none 0 0,.int .i64 0]:={}
instance:fA prog 47 25:={}
instance:jP prog 47 25:={}
instance:bw prog 47 [.slice none 0 0,.int .i64 0,.int .i64 0,.int .i64 0,.bool false,.int .i64 0,.bool false,.int .i64 0,.int .i64 0,.int .i64 0,.int .i64 0,.int .i64 0,.int .i64 0,.int .i64 0,.int .i64 0,.int .i64 0,.int .i64 0,.int .i64 0,.bool false,.int .i64 0,.slice none 0 0,.slice none 0 0,.slice none 0 0,.slice none 0 0,.int .i64 0]:={}
instance:bP prog 47 0 0:={}
instance:bP prog 47 1 1:={}
instance:bP prog 47 2 2:={}
instance:bP prog 47 3 3:={}
instance:bP prog 47 4 4:={}
instance:bP prog 47 5 5:={}
instance:bP prog 47 6 6:={}
instance:bP prog 47 7 7:={}
instance:bP prog 47 8 8:={}
instance:bP prog 47 9 9:={}
instance:bP prog 47 10 10:={}
instance:bP prog 47 11 11:={}
instance:bP prog 47 12 12:={}
instance:bP prog 47 13 13:={}
instance:bP prog 47 14 14:={}
instance:bP prog 47 15 15:={}
instance:bP prog 47 16 20:={}
instance:bP prog 47 17 21:={}
instance:bP prog 47 18 22:={}
instance:bP prog 47 19 23:={}
instance:bP prog 47 20 24:={}
instance:iS prog 47 [(0,1),(1,1),(2,1),(3,1),(4,1),(5,1),(6,1),(7,1),(8,1),(9,1),(10,1),(11,1),(12,1),(13,1),(14,1),(15,5),(20,1),(21,1),(22,1),(23,1),(24,1)]:={}
instance:fA prog 48 1:={}
instance:fV prog 48:={}
instance:bw prog 48 [.slice none 0 0]:={}
instance:fu prog 48 72 3:={}
instance:gf prog 48 72 3 24 (.agg #[.bool false,.int .i64 0,.int .i64 0]):=⟨⟨by kernel_rfl,by kernel_rfl,rfl,by decide,by decide⟩⟩
instance:bw prog 49 [.int .i64 0,.int .i64 0,.int .i64 0,.int .i64 0,.slice none 0 0,.bool false]:={}
instance:fA prog 50 6:={}
instance:jP prog 50 6:={}
instance:bw prog 50 [.int .i64 0,.int .i64 0,.int .i64 0,.int .i64 0,.slice none 0 0,.bool false]:={}
instance:bP prog 50 0 0:={}
instance:bP prog 50 1 1:={}
instance:bP prog 50 2 2:={}
instance:bP prog 50 3 3:={}
instance:bP prog 50 4 4:={}
instance:bP prog 50 5 5:={}
instance:iS prog 50 [(0,1),(1,1),(2,1),(3,1),(4,1),(5,1)]:={}
instance:bw prog 51 [.bool false,.int .i64 0,.int .i64 0,.int .i64 0,.bool false,.int .i64 0,.bool false]:={}
instance:fA prog 52 7:={}
instance:jP prog 52 7:={}
instance:bw prog 52 [.bool false,.int .i64 0,.int .i64 0,.int .i64 0,.bool false,.int .i64 0,.bool false]:={}
instance:bP prog 52 1 1:={}
instance:bP prog 52 2 2:={}
instance:bP prog 52 3 3:={}
instance:bP prog 52 4 4:={}
instance:bP prog 52 5 5:={}
instance:bP prog 52 6 6:={}
instance:iS prog 52 [(0,1),(1,1),(2,1),(3,1),(4,1),(5,1),(6,1)]:={}
instance:bw prog 53 [.int .i64 0,.int .i64 0,.int .i64 0,.int .i64 0,.int .i64 0,.int .i64 0,.int .i64 0,.int .i64 0,.int .i64 0,.int .i64 0,.int .i64 0,.bool false,.int .i64 0]:={}
instance:fA prog 54 13:={}
instance:jP prog 54 13:={}
instance:bw prog 54 [.int .i64 0,.int .i64 0,.int .i64 0,.int .i64 0,.int .i64 0,.int .i64 0,.int .i64 0,.int .i64 0,.int .i64 0,.int .i64 0,.int .i64 0,.bool false,.int .i64 0]:={}
instance:iS prog 54 [(0,1),(1,1),(2,1),(3,1),(4,1),(5,1),(6,1),(7,1),(8,5)]:={}
instance:fA prog 57 1:={}
instance:fV prog 57:={}
instance:bw prog 57 [.slice none 0 0]:={}
instance:fu prog 57 2 1:={}
instance:gf prog 57 2 1 8 (.int .i64 0):=⟨⟨by kernel_rfl,by kernel_rfl,rfl,by decide,by decide⟩⟩
instance:bw prog 58 [.int .i64 0,.slice none 0 0,.bool false,.int .i64 0,.slice none 0 0,.slice none 0 0]:={}
instance:fA prog 59 6:={}
instance:jP prog 59 6:={}
instance:bw prog 59 [.int .i64 0,.slice none 0 0,.bool false,.int .i64 0,.slice none 0 0,.slice none 0 0]:={}
instance:bP prog 59 0 0:={}
instance:bP prog 59 1 1:={}
instance:bP prog 59 2 2:={}
instance:bP prog 59 3 3:={}
instance:bP prog 59 4 4:={}
instance:bP prog 59 5 5:={}
instance:iS prog 59 [(0,1),(1,1),(2,1),(3,1),(4,1),(5,1)]:={}
instance:fV prog 60:={}
instance:bw prog 60 [.pointer none]:={}
instance:fA prog 61 1:={}
instance:fV prog 61:={}
instance:bw prog 61 [.slice none 0 0]:={}
instance:fu prog 61 106 1:={}
instance:gf prog 61 106 1 8 (.pointer none):=⟨⟨by kernel_rfl,by kernel_rfl,rfl,by decide,by decide⟩⟩
instance:fA prog 62 1:={}
instance:fV prog 62:={}
instance:bw prog 62 [.slice none 0 0]:={}
instance:fu prog 62 4 1:={}
instance:gf prog 62 4 1 1 (.bool false):=⟨⟨by kernel_rfl,by kernel_rfl,rfl,by decide,by decide⟩⟩
instance:fV prog 63:={}
instance:bw prog 63 [.pointer none]:={}
instance:fA prog 64 1:={}
instance:fV prog 64:={}
instance:bw prog 64 [.pointer none]:={}
instance:fA prog 65 1:={}
instance:fV prog 65:={}
instance:bw prog 65 [.pointer none]:={}
instance:fV prog 66:={}
instance:bw prog 66 [.pointer none]:={}
instance:bw prog 67 [.int .i64 0,.int .i64 0,.int .i64 0,.slice none 0 0,.pointer none,.slice none 0 0,.slice none 0 0,.pointer none,.pointer none,.slice none 0 0,.pointer none,.pointer none,.slice none 0 0,.slice none 0 0]:={}
instance:bw prog 68 [.int .i64 0,.int .i64 0,.int .i64 0,.slice none 0 0,.pointer none,.slice none 0 0,.slice none 0 0,.pointer none,.pointer none,.slice none 0 0,.pointer none,.pointer none,.slice none 0 0,.slice none 0 0]:={}
instance:bP prog 68 0 0:={}
instance:bP prog 68 1 2:={}
instance:bP prog 68 2 3:={}
instance:bP prog 68 3 4:={}
instance:bP prog 68 4 5:={}
instance:bP prog 68 5 6:={}
instance:bP prog 68 6 7:={}
instance:bP prog 68 7 8:={}
instance:bP prog 68 8 9:={}
instance:bP prog 68 9 10:={}
instance:bP prog 68 10 11:={}
instance:bP prog 68 11 12:={}
instance:bP prog 68 12 13:={}
instance:iS prog 68 [(0,2),(2,1),(3,1),(4,1),(5,1),(6,1),(7,1),(8,1),(9,1),(10,1),(11,1),(12,1),(13,1)]:={}
instance:bw prog 71 [.bool false,.int .i64 0,.int .i64 0]:={}
instance:fA prog 72 3:={}
instance:jP prog 72 3:={}
instance:bw prog 72 [.bool false,.int .i64 0,.int .i64 0]:={}
instance:bP prog 72 0 0:={}
instance:bP prog 72 1 1:={}
instance:bP prog 72 2 2:={}
instance:iS prog 72 [(0,1),(1,1),(2,1)]:={}
instance:bw prog 76 [.pointer none]:={}
instance:bw prog 77 [.int .i64 0]:={}
instance:kf prog 77 .i64:={}
instance:fV prog 106:={}
instance:bw prog 106 [.pointer none]:={}
instance:fV prog 110:={}
instance:bw prog 110 [.int .u16 0]:={}
instance:kf prog 110 .u16:={}
instance:bw prog 116 [.pointer none]:={}
instance:bw prog 117 [.pointer none]:={}
instance:fV prog 124:={}
instance:bw prog 124 [.slice none 0 0]:={}
instance:fu prog 124 143 2:={}
instance:gf prog 124 143 2 16 (.agg #[.int .i64 0,.bool false]):=⟨⟨by kernel_rfl,by kernel_rfl,rfl,by decide,by decide⟩⟩
instance:bw prog 125 [.slice none 0 0]:={}
instance:bw prog 126 [.slice none 0 0]:={}
instance:bP prog 126 0 0:={}
instance:iS prog 126 [(0,1)]:={}
instance:bw prog 127 [.slice none 0 0]:={}
instance:bw prog 128 [.slice none 0 0]:={}
instance:bP prog 128 0 0:={}
instance:iS prog 128 [(0,1)]:={}
instance:bw prog 129 [.slice none 0 0,.int .i64 0]:={}
instance:bw prog 130 [.slice none 0 0,.int .i64 0]:={}
instance:bP prog 130 0 0:={}
instance:bP prog 130 1 1:={}
instance:iS prog 130 [(0,1),(1,1)]:={}
instance:fV prog 131:={}
instance:bw prog 131 [.slice none 0 0]:={}
instance:fu prog 131 136 3:={}
instance:gf prog 131 136 3 24 (.agg #[.int .i64 0,.int .i64 0,.int .i64 0]):=⟨⟨by kernel_rfl,by kernel_rfl,rfl,by decide,by decide⟩⟩
instance:fV prog 132:={}
instance:bw prog 132 [.slice none 0 0]:={}
instance:fu prog 132 138 3:={}
instance:gf prog 132 138 3 24 (.agg #[.int .i64 0,.int .i64 0,.int .i64 0]):=⟨⟨by kernel_rfl,by kernel_rfl,rfl,by decide,by decide⟩⟩
instance:bw prog 133 [.slice none 0 0,.slice none 0 0]:={}
instance:bw prog 134 [.slice none 0 0,.slice none 0 0]:={}
instance:bP prog 134 0 0:={}
instance:bP prog 134 1 1:={}
instance:iS prog 134 [(0,1),(1,1)]:={}
instance:bw prog 135 [.int .i64 0,.int .i64 0,.int .i64 0]:={}
instance:fA prog 136 3:={}
instance:jP prog 136 3:={}
instance:bw prog 136 [.int .i64 0,.int .i64 0,.int .i64 0]:={}
instance:bP prog 136 0 0:={}
instance:bP prog 136 1 1:={}
instance:bP prog 136 2 2:={}
instance:iS prog 136 [(0,1),(1,1),(2,1)]:={}
instance:bw prog 137 [.int .i64 0,.int .i64 0,.int .i64 0]:={}
instance:fA prog 138 3:={}
instance:bw prog 138 [.int .i64 0,.int .i64 0,.int .i64 0]:={}
instance:bP prog 138 0 0:={}
instance:bP prog 138 1 1:={}
instance:bP prog 138 2 2:={}
instance:iS prog 138 [(0,1),(1,1),(2,1)]:={}
instance:bw prog 139 [.int .i64 0,.int .i64 0,.slice none 0 0,.slice none 0 0,.int .i64 0,.slice none 0 0]:={}
instance:bw prog 140 [.int .i64 0,.int .i64 0,.slice none 0 0,.slice none 0 0,.int .i64 0,.slice none 0 0]:={}
instance:bP prog 140 0 0:={}
instance:bP prog 140 1 1:={}
instance:bP prog 140 2 2:={}
instance:bP prog 140 3 3:={}
instance:bP prog 140 4 4:={}
instance:bP prog 140 5 5:={}
instance:iS prog 140 [(0,1),(1,1),(2,1),(3,1),(4,1),(5,1)]:={}
instance:bw prog 142 [.int .i64 0,.bool false]:={}
instance:fA prog 143 2:={}
instance:bw prog 143 [.int .i64 0,.bool false]:={}
instance:bP prog 143 0 0:={}
instance:bP prog 143 1 1:={}
instance:iS prog 143 [(0,1),(1,1)]:={}
instance:bw prog 147 [.slice none 0 0,.int .i64 0,.int .i64 0]:={}
instance:bw prog 148 [.slice none 0 0,.int .i64 0,.int .i64 0]:={}
instance:bP prog 148 0 0:={}
instance:bP prog 148 1 1:={}
instance:bP prog 148 2 2:={}
instance:iS prog 148 [(0,1),(1,1),(2,1)]:={}
instance:bw prog 150 [.pointer none]:={}
instance:bw prog 171 [.pointer none,.int .i64 0,.int .i64 0,.int .i64 0,.int .i64 0,.int .i64 0,.slice none 0 0,.bool false]:={}
instance:bw prog 172 [.pointer none,.int .i64 0,.int .i64 0,.int .i64 0,.int .i64 0,.int .i64 0,.slice none 0 0,.bool false]:={}
instance:bw prog 173 [.pointer none]:={}
instance:bw prog 207 [.int .u64 0]:={}
instance:kf prog 207 .u64:={}
instance:bw prog 211 [.int .i64 0,.int .i64 0,.slice none 0 0,.slice none 0 0,.int .i64 0]:={}
instance:fA prog 212 5:={}
instance:jP prog 212 5:={}
instance:bw prog 212 [.int .i64 0,.int .i64 0,.slice none 0 0,.slice none 0 0,.int .i64 0]:={}
instance:bP prog 212 0 0:={}
instance:bP prog 212 1 1:={}
instance:bP prog 212 2 2:={}
instance:bP prog 212 3 3:={}
instance:bP prog 212 4 4:={}
instance:iS prog 212 [(0,1),(1,1),(2,1),(3,1),(4,1)]:={}
instance:bw prog 221 [.int .u32 0]:={}
instance:kf prog 221 .u32:={}
instance:bw prog 224 [.int .u64 0]:={}
instance:kf prog 224 .u64:={}
instance:bw prog 234 [.pointer none,.pointer none,.pointer none,.string ⟨#[]⟩]:={}
instance:bw prog 235 [.pointer none,.pointer none,.pointer none,.string ⟨#[]⟩]:={}
instance:bw prog 236 []:={}
instance:bw prog 237 []:={}
instance:bw prog 238 []:={}
instance:bw prog 239 [.int .u8 0]:={}
instance:kf prog 239 .u8:={}
instance:bw prog 240 [.int .u8 0]:={}
instance:kf prog 240 .u8:={}
instance:bw prog 242 [.pointer none]:={}
instance:bw prog 243 [.int .i32 0]:={}
instance:kf prog 243 .i32:={}
instance:bw prog 244 [.int .i32 0]:={}
instance:kf prog 244 .i32:={}
instance:bw prog 245 [.int .u64 0,.int .u64 0,.int .u32 0,.int .u8 0,.int .u8 0,.int .u8 0,.int .u8 0,.nilFunc,.pointer none,.int .i32 0,.int .i32 0]:={}
instance:bw prog 246 [.int .u64 0,.int .u64 0,.int .u32 0,.int .u8 0,.int .u8 0,.int .u8 0,.int .u8 0,.nilFunc,.pointer none,.int .i32 0,.int .i32 0]:={}
instance:aG prog 13:={}
instance:aG prog 14:={}
instance:aG prog 15:={}
instance:aG prog 18:={}
instance:aG prog 22:={}
instance:aG prog 25:={}
instance:aG prog 26:={}
instance:aG prog 32:={}
instance:aG prog 43:={}
instance:aG prog 44:={}
instance:aG prog 45:={}
instance:aG prog 46:={}
instance:aG prog 47:={}
instance:aG prog 48:={}
instance:aG prog 49:={}
instance:aG prog 50:={}
instance:aG prog 51:={}
instance:aG prog 52:={}
instance:aG prog 53:={}
instance:aG prog 54:={}
instance:aG prog 55:={}
instance:aG prog 56:={}
instance:aG prog 57:={}
instance:aG prog 58:={}
instance:aG prog 59:={}
instance:aG prog 60:={}
instance:aG prog 61:={}
instance:aG prog 62:={}
instance:aG prog 63:={}
instance:aG prog 64:={}
instance:aG prog 68:={}
instance:aG prog 69:={}
instance:aG prog 79:={}
instance:aG prog 80:={}
instance:aG prog 81:={}
instance:aG prog 82:={}
instance:aG prog 83:={}
instance:aG prog 84:={}
instance:aG prog 85:={}
instance:aG prog 86:={}
instance:aG prog 87:={}
instance:aG prog 88:={}
instance:aG prog 89:={}
instance:aG prog 90:={}
instance:aG prog 91:={}
instance:aG prog 92:={}
instance:aG prog 93:={}
instance:aG prog 94:={}
instance:aG prog 95:={}
instance:aG prog 97:={}
instance:aG prog 98:={}
instance:aG prog 101:={}
instance:aG prog 102:={}
instance:aG prog 104:={}
instance:aG prog 105:={}
instance:aG prog 106:={}
instance:aG prog 107:={}
instance:aG prog 108:={}
instance:aG prog 109:={}
instance:aG prog 110:={}
instance:aG prog 111:={}
instance:aG prog 112:={}
instance:aG prog 114:={}
instance:aG prog 115:={}
instance:aG prog 116:={}
instance:aG prog 117:={}
instance:aG prog 118:={}
instance:aG prog 119:={}
instance:aG prog 120:={}
instance:aG prog 121:={}
instance:aG prog 123:={}
instance:aG prog 134:={}
instance:aG prog 136:={}
instance:aG prog 137:={}
instance:aG prog 141:={}
instance:aG prog 142:={}
instance:aG prog 143:={}
instance:aG prog 144:={}
instance:aG prog 145:={}
instance:aG prog 146:={}
instance:aG prog 147:={}
instance:aG prog 148:={}
instance:aG prog 149:={}
instance:aG prog 150:={}
instance:aG prog 151:={}
instance:aG prog 152:={}
instance:aG prog 153:={}
instance:aG prog 154:={}
instance:aG prog 155:={}
instance:aG prog 156:={}
instance:aG prog 157:={}
instance:aG prog 158:={}
instance:aG prog 159:={}
instance:aG prog 160:={}
instance:aG prog 161:={}
instance:aG prog 162:={}
instance:aG prog 163:={}
instance:aG prog 164:={}
instance:aG prog 165:={}
instance:aG prog 166:={}
instance:aG prog 167:={}
instance:aG prog 168:={}
instance:aG prog 170:={}
instance:aG prog 171:={}
instance:aG prog 172:={}
instance:aG prog 173:={}
instance:aG prog 183:={}
instance:aG prog 184:={}
instance:aG prog 186:={}
instance:aG prog 195:={}
instance:aG prog 196:={}
instance:aG prog 197:={}
instance:aG prog 198:={}
instance:aG prog 199:={}
instance:aG prog 200:={}
instance:aG prog 201:={}
instance:aG prog 202:={}
instance:aG prog 203:={}
instance:aG prog 204:={}
instance:aG prog 205:={}
instance:aG prog 206:={}
instance:aG prog 207:={}
instance:aG prog 208:={}
instance:aG prog 209:={}
instance:aG prog 210:={}
instance:aG prog 211:={}
instance:aG prog 212:={}
instance:aG prog 213:={}
instance:aG prog 214:={}
instance:aG prog 215:={}
instance:aG prog 216:={}
instance:aG prog 217:={}
instance:aG prog 218:={}
instance:aG prog 219:={}
instance:aG prog 222:={}
instance:aG prog 223:={}
instance:aG prog 224:={}
instance:aG prog 225:={}
instance:aG prog 226:={}
instance:aG prog 227:={}
instance:aG prog 228:={}
instance:aG prog 229:={}
instance:aG prog 230:={}
instance:aG prog 231:={}
instance:aG prog 232:={}
instance:aG prog 233:={}
instance:aG prog 243:={}
instance:aG prog 244:={}
instance:aG prog 245:={}
instance:aG prog 246:={}
instance:aG prog 247:={}
instance:aG prog 248:={}
instance:aG prog 249:={}
instance:aG prog 250:={}
instance:aG prog 251:={}
instance:aG prog 252:={}
instance:aG prog 253:={}
instance:aG prog 254:={}
instance:aG prog 257:={}
instance:aG prog 258:={}
instance:aG prog 259:={}
instance:aG prog 260:={}
instance:aG prog 261:={}
instance:aG prog 262:={}
instance:aG prog 263:={}
instance:aG prog 264:={}
instance:aG prog 265:={}
instance:aG prog 266:={}
end Fl
open Go.RowKit
namespace Fl
open Sx Go.Proofs.Tryz
def nI (n:Int):A:=.v (.int .i64 n)
def bI (b:Bool):A:=.v (.bool b)
def ints (l:List Int):A:=.r 1 (l.map fun n=>[nI n])
def mc (c:Pn.Cs):List A:=[bI c.send,nI c.ch,nI c.v]
def dH (o:Pn.Op):List A:=[nI o.kind,nI o.ch,nI o.n,nI o.v,.r 3 (o.cases.map mc),bI o.de]
def qZ (r:Md.aj):List A:=[nI r.code,nI r.cs,nI r.v,bI r.ok,nI r.n]
def eG (g:Gr):List A :=
  [.r 6 (g.ops.map dH),nI g.at_,nI g.place,nI g.status,bI g.token,nI g.call,bI g.bG,nI g.param,nI g.bh,nI g.hold,nI g.t,nI g.iy,nI g.bT,nI g.wi,nI g.dm,
   nI g.res.code,nI g.res.cs,nI g.res.v,bI g.res.ok,nI g.res.n,ints g.order,ints g.aB,ints g.aq,ints g.au,nI g.k]
def eC (c:Cn):List A:=[nI c.cap,ints c.buf,bI c.closed,nI c.lock,ints c.recv,ints c.send]
def eS (s:Su):List A:=[bI s.live,nI s.g,nI s.ch,nI s.cs,bI s.send,nI s.v,bI s.done]
def eM (m:Mk):List A:=[nI m.g,nI m.op,nI m.call,nI m.iy,nI m.bT,nI m.wi,nI m.dm,nI m.re,nI m.res.code,nI m.res.cs,nI m.res.v,bI m.res.ok,nI m.res.n]
def aC (s:ah):List A :=
 [nI s.dx,nI s.bX,nI s.step,.r 25 (s.gs.map eG),.r 6 (s.av.map eC),.r 7 (s.aA.map eS),.r 1 (s.cache.map fun l=>[ints l]),ints s.middle,nI s.fresh,.r 1 (s.di.map fun n=>[.v (.int .u16 n)]),nI s.drawn,.r 13 (s.done.map eM)]
theorem lf.snoc {l:List Int} {a:Int}:lf (.r 1 (([] ++ l.map fun n=>[nI n]) ++ [[nI a]])) (ints (l ++ [a])):=by
 have:([] ++ l.map fun n=>[nI n]) ++ [[nI a]]=(l ++ [a]).map fun n=>[nI n]:=by simp
 rw [this];exact .refl
theorem lf.clone {l:List Int}:lf (.r 1 ([] ++ l.map fun n=>[nI n])) (ints l):=by
 rw [List.nil_append];exact .refl
end Fl
open Go.RowKit
namespace Fl
open Sx Go.Proofs.Tryz
theorem at_map {α β:Type} {l:List α} {h:α→β} {k:Nat} {a:α} (e:l[k]?=some a):(l.map h)[k]?=some (h a):=by rw [List.getElem?_map,e];rfl
theorem J.mT {P:Program} {c:Cx} {k:List Item} {f:Fm} {L L1 L2:List aj} (i j n:Nat) {v:Value} {e:TypeId} {sz:Nat} {ll:List (List A)} {b:Nat} {B:TypeId} {cs:List A} [st:jB L j (.box b B (cs.set n (.r sz ll))) L1] [er:mM L1 i L2] (hi:L[i]?=some (.row v e sz ll)) (hj:L[j]?=some (.box b B cs)) (hc:cs[n]?=some (.v v)) (h:J P c k f L2):J P c k f L :=
 J.vn i j n hi hj hc (by rw [st.h,er.h];exact h)
def ri:List A:=vs [.int .i64 0,.int .i64 0,.int .i64 0,.slice none 0 0,.slice none 0 0,.slice none 0 0,.slice none 0 0,.slice none 0 0,.int .i64 0,.slice none 0 0,.int .i64 0,.slice none 0 0]
def mU (l:List Int):A:=.r 1 (l.map fun n=>[.v (.int .u16 n)])
theorem NN {l:List Int} {k:Int} (h0:0≤k) (h:k < l.length):(l.map fun n=>[A.v (.int .u16 n)])[k.toNat]?=some [.v (.int .u16 (ax l k))]:=by
 have:k.toNat < l.length:=by omega
 refine at_map ?_;unfold ax;rw [List.getElem?_eq_getElem this,List.getD_eq_getElem?_getD,List.getElem?_eq_getElem this];rfl
theorem oI {l:List Int} {k:Int} (h0:0≤k) (h:k < l.length):ax l k∈l:=by
 have:k.toNat < l.length:=by omega
 unfold ax;rw [List.getD_eq_getElem?_getD,List.getElem?_eq_getElem this];exact List.getElem_mem _
theorem mV (s:ah) (g k:Nat) (x:Gr) (hg:g < s.gs.length):aa (ai s g x) k=if k=g then x else aa s k:=by
 unfold aa ai;rw [List.getD_eq_getElem?_getD,List.getD_eq_getElem?_getD,List.getElem?_set]
 by_cases h:g=k
 ·subst h;simp [hg]
 ·rw [if_neg h,if_neg (Ne.symm h)]
end Fl
end Go.Proofs.YtdjhhbpedllnhaaGreat
/-
  Moves that need no fact,told once for all (the proofs that follow name them by gn,ga,tk).
  Conditions: none.
-/
namespace Go.Proofs.YtdjhhbpedllnhaaGreat
open Go.RowKit
set_option linter.unusedVariables false
theorem az {c:Prop} [Decidable c] {α:Type} {a b:α} (h:¬ c:=by omega):ite c a b=b:=if_neg h
namespace Fl
open Sx Go.Proofs.Tryz
theorem qb {n m:Nat} (h:Nat.ble n m=true):n≤m:=Nat.le_of_ble_eq_true h
/-- what a function is handed is what it wants -/
theorem lq {ds vk:List D} (h:aJ ds vk:=by (repeat (first | exact aJ.nil | refine aJ.cons (dU.agg (by (repeat (first | exact .nil | refine .cons .refl ?_)) <;> exact .nil)) ?_ | refine aJ.cons dU.refl ?_)) <;> exact aJ.nil):aJ ds vk:=h
section
variable {P:Program} {c:Cx} {kk:List Item} {f:Fm} {L:List aj} {ops:Array Oper} {l:List Oper} {T X Y:TypeId} {ps:String} {af:Array Edge} {gd:Option (Nat × Bool)} {t:Nat}
theorem jq {o:Oper} {d:D} (hd:o.dst=some t) (hw:eL ops o f=true) (ht:Nat.ble (t + 1) c.N=true) {U:List Nat} (q:Qt P c U o f L d) (h:JO P c ops l kk ((t,d) :: f) L):JO P c ops (o :: l) kk f L:=JO.q hd hw (qb ht) q h
theorem jp {F:FuncId} {args:List Operand} {tys:Array TypeId} {dh ds:List D} {d:D} [i:aG P F] (hC:Pure P F ds d) (hw:eL ops ⟨some t,.call ⟨.value (.func F),args.toArray,tys⟩,T,ps,af,gd⟩ f=true) (ht:Nat.ble (t + 1) c.N=true) (h:iw f args=some dh) (hle:aJ dh ds) (hk:JO P c ops l kk ((t,d) :: f) L):JO P c ops (⟨some t,.call ⟨.value (.func F),args.toArray,tys⟩,T,ps,af,gd⟩ :: l) kk f L:=JO.pure hC hw (qb ht) h hle hk
theorem jx {x y:Operand} {e sz:Nat} {kd:IntKind} {n:Int} {r:List (List A)} {cs:List A} [i:fu P X e sz] (hw:eL ops ⟨some t,.indexAddr X x y,T,ps,af,gd⟩ f=true) (ht:Nat.ble (t + 1) c.N=true) (h:bg f x=some (.c (.r sz r))) (hy:bg f y=some (.c (.v (.int kd n)))) (hn:0≤n) (hk:r[n.toNat]?=some cs) (k:JO P c ops l kk ((t,.el cs 0) :: f) L):JO P c ops (⟨some t,.indexAddr X x y,T,ps,af,gd⟩ :: l) kk f L:=JO.q rfl hw (qb ht) (Qt.cI h hy hn hk) k
theorem jc {op:BinOp} {x y:Operand} {kd:IntKind} {m n:Int} {b b':Bool} (hw:eL ops ⟨some t,.binOp op X x y Y,T,ps,af,gd⟩ f=true) (ht:Nat.ble (t + 1) c.N=true) (h:bg f x=some (.c (.v (.int kd m)))) (hy:bg f y=some (.c (.v (.int kd n)))) (hF:b'=b) (hb:u7 op m n=some b') (k:JO P c ops l kk ((t,.c (.v (.bool b))) :: f) L):JO P c ops (⟨some t,.binOp op X x y Y,T,ps,af,gd⟩ :: l) kk f L:=JO.q rfl hw (qb ht) (Qt.cmp h hy (hb.trans (congrArg some hF))) k
end
theorem Dz {s:ah} {g:Nat} (hg:g < s.gs.length):(s.gs.map eG)[((g:Int)).toNat]?=some (eG (aa s g)):=by
  unfold aa;rw [Int.toNat_natCast,List.getElem?_map,List.getD_eq_getElem?_getD,List.getElem?_eq_getElem hg];rfl
theorem DA {s:ah} {ch:Int} (h:aT s ch=true):(s.av.map eC)[(ch - 1).toNat]?=some (eC (cn s ch)):=by
  unfold aT at h;simp only [decide_eq_true_eq] at h;unfold cn;rw [List.getElem?_map,List.getD_eq_getElem?_getD,List.getElem?_eq_getElem (show (ch - 1).toNat < s.av.length by omega)];rfl
theorem DB {l:List Int} {k:Nat} {a:Int} (e:l[k]?=some a):(l.map fun n=>[nI n])[((k:Int)).toNat]?=some [nI a]:=by
  rw [Int.toNat_natCast,List.getElem?_map,e];rfl
section
variable {P:Program} {c:Cx} {kk:List Item} {f:Fm} {L:List aj} {ops:Array Oper} {l:List Oper} {T X Y:TypeId} {ps:String} {af:Array Edge} {gd:Option (Nat × Bool)} {t:Nat}
theorem aX {F:FuncId} {args:List Operand} {tys:Array TypeId} {dh ds:List D} {d:D} [i:aG P F] (hC:Pure P F ds d) (hk:JO P c ops l kk ((t,d) :: f) L) (hw:eL ops ⟨some t,.call ⟨.value (.func F),args.toArray,tys⟩,T,ps,af,gd⟩ f=true:=by exact rfl) (ht:Nat.ble (t + 1) c.N=true:=by exact rfl) (h:iw f args=some dh:=by exact rfl) (hle:aJ dh ds:=by exact lq):JO P c ops (⟨some t,.call ⟨.value (.func F),args.toArray,tys⟩,T,ps,af,gd⟩ :: l) kk f L:=jp hC hw ht h hle hk
theorem aQ {op:BinOp} {x y:Operand} {kd:IntKind} {m n:Int} {b b':Bool} (hF:b'=b) (k:JO P c ops l kk ((t,.c (.v (.bool b))) :: f) L) (hw:eL ops ⟨some t,.binOp op X x y Y,T,ps,af,gd⟩ f=true:=by exact rfl) (ht:Nat.ble (t + 1) c.N=true:=by exact rfl) (h:bg f x=some (.c (.v (.int kd m))):=by exact rfl) (hy:bg f y=some (.c (.v (.int kd n))):=by exact rfl) (hb:u7 op m n=some b':=by exact rfl):JO P c ops (⟨some t,.binOp op X x y Y,T,ps,af,gd⟩ :: l) kk f L:=jc hw ht h hy hF hb k
theorem NO {ds vk:List D} (h:aJ ds vk:=by (repeat (first | exact aJ.nil | refine aJ.cons (dU.agg (by (repeat (first | exact .nil | refine .cons .refl ?_ | refine .cons .nil ?_ | refine .cons .snoc ?_ | refine .cons .clone ?_)) <;> exact .nil)) ?_ | refine aJ.cons dU.refl ?_ | refine aJ.cons (dU.c lf.nil) ?_ | refine aJ.cons (dU.c lf.snoc) ?_ | refine aJ.cons (dU.c lf.clone) ?_)) <;> exact aJ.nil):aJ ds vk:=h
theorem kN {F:FuncId} {args:List Operand} {tys:Array TypeId} {dh ds:List D} {d:D} [i:aG P F] (hC:Pure P F ds d) (hk:JO P c ops l kk ((t,d) :: f) L) (hw:eL ops ⟨some t,.call ⟨.value (.func F),args.toArray,tys⟩,T,ps,af,gd⟩ f=true:=by exact rfl) (ht:Nat.ble (t + 1) c.N=true:=by exact rfl) (h:iw f args=some dh:=by exact rfl) (hle:aJ dh ds:=by exact NO):JO P c ops (⟨some t,.call ⟨.value (.func F),args.toArray,tys⟩,T,ps,af,gd⟩ :: l) kk f L:=jp hC hw ht h hle hk
end
structure K0 (B:Prop):Prop where out:B
/-- one move that needs no fact,and names nothing -/
theorem gn {G B:Prop} (k:B) (h:K0 B→G:=by
  intro k
  first
    | (refine K.binOp ?_;refine jc rfl rfl rfl rfl (by assumption) rfl ?_;exact k.out)
    | (refine K.call ?_;refine jp (by assumption) rfl rfl rfl lq ?_;exact k.out)
    | (refine K.indexAddr ?_;refine jx rfl rfl rfl rfl (by omega) (Dz (by assumption)) ?_;exact k.out)
    | (refine K.indexAddr ?_;refine jx rfl rfl rfl rfl (by omega) (DA (by assumption)) ?_;exact k.out)
    | (refine K.indexAddr ?_;refine jx rfl rfl rfl rfl (by omega) (DB (by assumption)) ?_;exact k.out)
    | (refine K.indexAddr ?_;refine jx rfl rfl rfl rfl (by omega) (by assumption) ?_;exact k.out)
    | (refine K.fieldAddr ?_;refine JO.q rfl rfl (qb rfl) (Qt.fieldAddr rfl rfl) ?_;exact k.out)
    | (refine K.load ?_;refine JO.q rfl rfl (qb rfl) (Qt.qM rfl .el rfl) ?_;exact k.out)
    | (refine K.load ?_;refine JO.q rfl rfl (qb rfl) (Qt.u6 rfl .el rfl) ?_;exact k.out)
    | (refine K.load ?_;refine JO.q rfl rfl (qb rfl) (Qt.tH rfl .el rfl rfl) ?_;exact k.out)
    | (refine K.load ?_;refine JO.q rfl rfl (qb rfl) (Qt.hJ rfl (by exact rfl)) ?_;exact k.out)
    | (refine K.load ?_;refine JO.q rfl rfl (qb rfl) (Qt.tI rfl (by exact rfl)) ?_;exact k.out)
    | (refine K.load ?_;refine JO.q rfl rfl (qb rfl) (Qt.xq rfl (by exact rfl) (by exact rfl)) ?_;exact k.out)
    | (refine K.move ?_;refine JO.q rfl rfl (qb rfl) (Qt.move rfl) ?_;exact k.out)
    | (refine K.store ?_;refine JO.ld (Ld.bq rfl rfl rfl (by exact rfl) (by exact rfl)) rfl (fun _=>?_);exact k.out)
    | (refine K.store ?_;refine JO.ld (Ld.cY rfl rfl (by exact rfl)) rfl (fun _=>?_);exact k.out)
    | (refine K.store ?_;refine JO.ld (Ld.qT rfl rfl rfl (by exact rfl) (by exact rfl)) rfl (fun _=>?_);exact k.out)
    | (refine K.assign ?_;refine JO.q rfl rfl (qb rfl) (Qt.assign rfl) ?_;exact k.out)
    | (refine K.binOp ?_;refine JO.q rfl rfl (qb rfl) (Qt.cmp rfl rfl rfl) ?_;exact k.out)
    | (refine K.binOp ?_;refine JO.q rfl rfl (qb rfl) (Qt.xu rfl rfl) ?_;exact k.out)
    | (refine K.binOp ?_;refine JO.q rfl rfl (qb rfl) (Qt.xw rfl rfl) ?_;exact k.out)
    | (refine K.unOp ?_;refine JO.q rfl rfl (qb rfl) (Qt.not rfl) ?_;exact k.out)
    | (refine K.bi ?_;refine JO.q rfl rfl (qb rfl) (Qt.ve rfl) ?_;exact k.out)
    | (refine K.bi ?_;refine JO.q rfl rfl (qb rfl) (Qt.vb rfl) ?_;exact k.out)
    | (refine K.bi ?_;refine JO.q rfl rfl (qb rfl) (Qt.Ak rfl) ?_;exact k.out)
    | (refine K.bi ?_;refine JO.q rfl rfl (qb rfl) (Qt.xx rfl) ?_;exact k.out)
    | (refine K.extract ?_;refine JO.q rfl rfl (qb rfl) (Qt.extract rfl rfl) ?_;exact k.out)
    | (refine K.pick ?_;refine JO.q rfl rfl (qb rfl) (Qt.pick rfl rfl) ?_;exact k.out)
    | (refine K.build ?_;refine JO.q rfl rfl (qb rfl) (Qt.build rfl (by kernel_rfl)) ?_;exact k.out)
    | (refine K.nilCheck ?_;refine JO.q rfl rfl (qb rfl) (Qt.nilCheck rfl rfl) ?_;exact k.out)
    | (refine K.field ?_;refine JO.q rfl rfl (qb rfl) (Qt.field rfl rfl (by kernel_rfl) rfl) ?_;exact k.out)
    | (refine K.convert ?_;refine JO.q rfl rfl (qb rfl) (Qt.conv rfl rfl) ?_;exact k.out)
    | (refine JO.nil ?_;exact k.out)
    | (refine J.seq ?_;exact k.out)
    | (refine J.region ?_;exact k.out)
    | (refine J.block ?_;exact k.out)
    | (refine J.inBlock ?_;exact k.out)
    | (refine J.skip ?_;exact k.out)
    | (refine J.exit rfl ?_;exact k.out)
    | (refine J.gK rfl ?_;exact k.out)
    | (refine J.fT rfl ?_;exact k.out)
    | (refine K.binOp ?_;refine jq rfl rfl rfl (Qt.cJ rfl rfl rfl (dJ (by omega) (by omega))) ?_;exact k.out)
    | (refine JO.no rfl rfl (qb rfl) ?_;exact k.out)):G:=h ⟨k⟩
/-- the same,or a block is made (then its number is to be named) -/
theorem ay {G B:Prop} (k:B) (h:K0 B→G:=by
  intro k
  first
    | (refine K.binOp ?_;refine jc rfl rfl rfl rfl (by assumption) rfl ?_;exact k.out)
    | (refine K.call ?_;refine jp (by assumption) rfl rfl rfl lq ?_;exact k.out)
    | (refine K.indexAddr ?_;refine jx rfl rfl rfl rfl (by omega) (Dz (by assumption)) ?_;exact k.out)
    | (refine K.indexAddr ?_;refine jx rfl rfl rfl rfl (by omega) (DA (by assumption)) ?_;exact k.out)
    | (refine K.indexAddr ?_;refine jx rfl rfl rfl rfl (by omega) (DB (by assumption)) ?_;exact k.out)
    | (refine K.indexAddr ?_;refine jx rfl rfl rfl rfl (by omega) (by assumption) ?_;exact k.out)
    | (refine K.fieldAddr ?_;refine JO.q rfl rfl (qb rfl) (Qt.fieldAddr rfl rfl) ?_;exact k.out)
    | (refine K.load ?_;refine JO.q rfl rfl (qb rfl) (Qt.qM rfl .el rfl) ?_;exact k.out)
    | (refine K.load ?_;refine JO.q rfl rfl (qb rfl) (Qt.u6 rfl .el rfl) ?_;exact k.out)
    | (refine K.load ?_;refine JO.q rfl rfl (qb rfl) (Qt.tH rfl .el rfl rfl) ?_;exact k.out)
    | (refine K.load ?_;refine JO.q rfl rfl (qb rfl) (Qt.hJ rfl (by exact rfl)) ?_;exact k.out)
    | (refine K.load ?_;refine JO.q rfl rfl (qb rfl) (Qt.tI rfl (by exact rfl)) ?_;exact k.out)
    | (refine K.load ?_;refine JO.q rfl rfl (qb rfl) (Qt.xq rfl (by exact rfl) (by exact rfl)) ?_;exact k.out)
    | (refine K.move ?_;refine JO.q rfl rfl (qb rfl) (Qt.move rfl) ?_;exact k.out)
    | (refine K.store ?_;refine JO.ld (Ld.bq rfl rfl rfl (by exact rfl) (by exact rfl)) rfl (fun _=>?_);exact k.out)
    | (refine K.store ?_;refine JO.ld (Ld.cY rfl rfl (by exact rfl)) rfl (fun _=>?_);exact k.out)
    | (refine K.store ?_;refine JO.ld (Ld.qT rfl rfl rfl (by exact rfl) (by exact rfl)) rfl (fun _=>?_);exact k.out)
    | (refine K.assign ?_;refine JO.q rfl rfl (qb rfl) (Qt.assign rfl) ?_;exact k.out)
    | (refine K.binOp ?_;refine JO.q rfl rfl (qb rfl) (Qt.cmp rfl rfl rfl) ?_;exact k.out)
    | (refine K.binOp ?_;refine JO.q rfl rfl (qb rfl) (Qt.xu rfl rfl) ?_;exact k.out)
    | (refine K.binOp ?_;refine JO.q rfl rfl (qb rfl) (Qt.xw rfl rfl) ?_;exact k.out)
    | (refine K.unOp ?_;refine JO.q rfl rfl (qb rfl) (Qt.not rfl) ?_;exact k.out)
    | (refine K.bi ?_;refine JO.q rfl rfl (qb rfl) (Qt.ve rfl) ?_;exact k.out)
    | (refine K.bi ?_;refine JO.q rfl rfl (qb rfl) (Qt.vb rfl) ?_;exact k.out)
    | (refine K.bi ?_;refine JO.q rfl rfl (qb rfl) (Qt.Ak rfl) ?_;exact k.out)
    | (refine K.bi ?_;refine JO.q rfl rfl (qb rfl) (Qt.xx rfl) ?_;exact k.out)
    | (refine K.extract ?_;refine JO.q rfl rfl (qb rfl) (Qt.extract rfl rfl) ?_;exact k.out)
    | (refine K.pick ?_;refine JO.q rfl rfl (qb rfl) (Qt.pick rfl rfl) ?_;exact k.out)
    | (refine K.build ?_;refine JO.q rfl rfl (qb rfl) (Qt.build rfl (by kernel_rfl)) ?_;exact k.out)
    | (refine K.nilCheck ?_;refine JO.q rfl rfl (qb rfl) (Qt.nilCheck rfl rfl) ?_;exact k.out)
    | (refine K.field ?_;refine JO.q rfl rfl (qb rfl) (Qt.field rfl rfl (by kernel_rfl) rfl) ?_;exact k.out)
    | (refine K.convert ?_;refine JO.q rfl rfl (qb rfl) (Qt.conv rfl rfl) ?_;exact k.out)
    | (refine JO.nil ?_;exact k.out)
    | (refine J.seq ?_;exact k.out)
    | (refine J.region ?_;exact k.out)
    | (refine J.block ?_;exact k.out)
    | (refine J.inBlock ?_;exact k.out)
    | (refine J.skip ?_;exact k.out)
    | (refine J.exit rfl ?_;exact k.out)
    | (refine J.gK rfl ?_;exact k.out)
    | (refine J.fT rfl ?_;exact k.out)
    | (refine K.binOp ?_;refine jq rfl rfl rfl (Qt.cJ rfl rfl rfl (dJ (by omega) (by omega))) ?_;exact k.out)
    | (refine JO.alloc rfl (qb rfl) ?_;exact k.out)
    | (refine JO.box rfl (qb rfl) rfl rfl ?_;exact k.out)
    | (refine JO.gJ rfl (qb rfl) ?_;exact k.out)
    | (refine JO.fM rfl (qb rfl) rfl rfl rfl rfl rfl ?_;exact k.out)
    | (refine JO.no rfl rfl (qb rfl) ?_;exact k.out)):G:=h ⟨k⟩
/-- one move that needs no fact,and stays in the region -/
theorem oJ {G B:Prop} (k:B) (h:K0 B→G:=by
  intro k
  first
    | (refine K.binOp ?_;refine jc rfl rfl rfl rfl (by assumption) rfl ?_;exact k.out)
    | (refine K.call ?_;refine jp (by assumption) rfl rfl rfl lq ?_;exact k.out)
    | (refine K.indexAddr ?_;refine jx rfl rfl rfl rfl (by omega) (Dz (by assumption)) ?_;exact k.out)
    | (refine K.indexAddr ?_;refine jx rfl rfl rfl rfl (by omega) (DA (by assumption)) ?_;exact k.out)
    | (refine K.indexAddr ?_;refine jx rfl rfl rfl rfl (by omega) (DB (by assumption)) ?_;exact k.out)
    | (refine K.indexAddr ?_;refine jx rfl rfl rfl rfl (by omega) (by assumption) ?_;exact k.out)
    | (refine K.fieldAddr ?_;refine JO.q rfl rfl (qb rfl) (Qt.fieldAddr rfl rfl) ?_;exact k.out)
    | (refine K.load ?_;refine JO.q rfl rfl (qb rfl) (Qt.qM rfl .el rfl) ?_;exact k.out)
    | (refine K.load ?_;refine JO.q rfl rfl (qb rfl) (Qt.u6 rfl .el rfl) ?_;exact k.out)
    | (refine K.load ?_;refine JO.q rfl rfl (qb rfl) (Qt.tH rfl .el rfl rfl) ?_;exact k.out)
    | (refine K.load ?_;refine JO.q rfl rfl (qb rfl) (Qt.hJ rfl (by exact rfl)) ?_;exact k.out)
    | (refine K.load ?_;refine JO.q rfl rfl (qb rfl) (Qt.tI rfl (by exact rfl)) ?_;exact k.out)
    | (refine K.load ?_;refine JO.q rfl rfl (qb rfl) (Qt.xq rfl (by exact rfl) (by exact rfl)) ?_;exact k.out)
    | (refine K.move ?_;refine JO.q rfl rfl (qb rfl) (Qt.move rfl) ?_;exact k.out)
    | (refine K.store ?_;refine JO.ld (Ld.bq rfl rfl rfl (by exact rfl) (by exact rfl)) rfl (fun _=>?_);exact k.out)
    | (refine K.store ?_;refine JO.ld (Ld.cY rfl rfl (by exact rfl)) rfl (fun _=>?_);exact k.out)
    | (refine K.store ?_;refine JO.ld (Ld.qT rfl rfl rfl (by exact rfl) (by exact rfl)) rfl (fun _=>?_);exact k.out)
    | (refine K.assign ?_;refine JO.q rfl rfl (qb rfl) (Qt.assign rfl) ?_;exact k.out)
    | (refine K.binOp ?_;refine JO.q rfl rfl (qb rfl) (Qt.cmp rfl rfl rfl) ?_;exact k.out)
    | (refine K.binOp ?_;refine JO.q rfl rfl (qb rfl) (Qt.xu rfl rfl) ?_;exact k.out)
    | (refine K.binOp ?_;refine JO.q rfl rfl (qb rfl) (Qt.xw rfl rfl) ?_;exact k.out)
    | (refine K.unOp ?_;refine JO.q rfl rfl (qb rfl) (Qt.not rfl) ?_;exact k.out)
    | (refine K.bi ?_;refine JO.q rfl rfl (qb rfl) (Qt.ve rfl) ?_;exact k.out)
    | (refine K.bi ?_;refine JO.q rfl rfl (qb rfl) (Qt.vb rfl) ?_;exact k.out)
    | (refine K.bi ?_;refine JO.q rfl rfl (qb rfl) (Qt.Ak rfl) ?_;exact k.out)
    | (refine K.bi ?_;refine JO.q rfl rfl (qb rfl) (Qt.xx rfl) ?_;exact k.out)
    | (refine K.extract ?_;refine JO.q rfl rfl (qb rfl) (Qt.extract rfl rfl) ?_;exact k.out)
    | (refine K.pick ?_;refine JO.q rfl rfl (qb rfl) (Qt.pick rfl rfl) ?_;exact k.out)
    | (refine K.build ?_;refine JO.q rfl rfl (qb rfl) (Qt.build rfl (by kernel_rfl)) ?_;exact k.out)
    | (refine K.nilCheck ?_;refine JO.q rfl rfl (qb rfl) (Qt.nilCheck rfl rfl) ?_;exact k.out)
    | (refine K.field ?_;refine JO.q rfl rfl (qb rfl) (Qt.field rfl rfl (by kernel_rfl) rfl) ?_;exact k.out)
    | (refine K.convert ?_;refine JO.q rfl rfl (qb rfl) (Qt.conv rfl rfl) ?_;exact k.out)
    | (refine K.binOp ?_;refine jq rfl rfl rfl (Qt.cJ rfl rfl rfl (dJ (by omega) (by omega))) ?_;exact k.out)
    | (refine JO.no rfl rfl (qb rfl) ?_;exact k.out)):G:=h ⟨k⟩
/-- a block is made -/
theorem ga {G:Prop} {B:Nat→Prop} (k:∀ b,B b) (h:(∀ b,B b)→G:=by
  intro k
  first
    | (refine JO.alloc rfl (qb rfl) ?_;intro b;exact k b)
    | (refine JO.box rfl (qb rfl) rfl rfl ?_;intro b;exact k b)
    | (refine JO.gJ rfl (qb rfl) ?_;intro b;exact k b)
    | (refine JO.fM rfl (qb rfl) rfl rfl rfl rfl rfl ?_;intro b;exact k b)):G:=h k
/-- number i of a region that draws,which looks -/
def Tk (i:Nat) (B:Prop):Prop:=B
section
variable {P:Program} {c:Cx} {k:List Item} {f f0:Fm} {L L0:List aj} {ops:Array Oper} {o:Oper} {m:Option Nat} {T:List Nat} {n t:Nat} {d:D} {aU:Array Bool} {U:List Nat}
theorem JD.iK {i:Nat} {B:Prop} (kk:Tk i B) (hi:ops[i]?=some o) (hd:o.dst=some t) (hk:xJ .any ops m aU i=true) (hw:eL ops o f0=true) (ht:t < c.N) (q:Qt P c U o f0 L0 d) (hu:(U.all fun j=>!T.contains j)=true) (hB:B=JD P c ops m T n (aU.setIfInBounds i true) k ((t,d) :: f) L ((t,d) :: f0) L0):JD P c ops m T (n + 1) aU k f L f0 L0 :=
  JD.take i hi hd hk hw ht q hu (hB ▸ kk)
end
theorem tk (i:Nat) {G B:Prop} (k:Tk i B) (h:Tk i B→G:=by
  intro k
  first
    | exact JD.iK k rfl rfl (by kernel_rfl) rfl (qb rfl) (Qt.move rfl) rfl rfl
    | exact JD.iK k rfl rfl (by kernel_rfl) rfl (qb rfl) (Qt.assign rfl) rfl rfl
    | exact JD.iK k rfl rfl (by kernel_rfl) rfl (qb rfl) (Qt.fieldAddr rfl rfl) rfl rfl
    | exact JD.iK k rfl rfl (by kernel_rfl) rfl (qb rfl) (Qt.nilCheck rfl rfl) rfl rfl
    | exact JD.iK k rfl rfl (by kernel_rfl) rfl (qb rfl) (Qt.qM rfl .el rfl) rfl rfl
    | exact JD.iK k rfl rfl (by kernel_rfl) rfl (qb rfl) (Qt.u6 rfl .el rfl) rfl rfl
    | exact JD.iK k rfl rfl (by kernel_rfl) rfl (qb rfl) (Qt.tH rfl .el rfl rfl) rfl rfl
    | exact JD.iK k rfl rfl (by kernel_rfl) rfl (qb rfl) (Qt.hJ rfl (by exact rfl)) rfl rfl
    | exact JD.iK k rfl rfl (by kernel_rfl) rfl (qb rfl) (Qt.tI rfl (by exact rfl)) rfl rfl
    | exact JD.iK k rfl rfl (by kernel_rfl) rfl (qb rfl) (Qt.xq rfl (by exact rfl) (by exact rfl)) rfl rfl
    | exact JD.iK k rfl rfl (by kernel_rfl) rfl (qb rfl) (Qt.extract rfl rfl) rfl rfl
    | exact JD.iK k rfl rfl (by kernel_rfl) rfl (qb rfl) (Qt.pick rfl rfl) rfl rfl
    | exact JD.iK k rfl rfl (by kernel_rfl) rfl (qb rfl) (Qt.not rfl) rfl rfl
    | exact JD.iK k rfl rfl (by kernel_rfl) rfl (qb rfl) (Qt.ve rfl) rfl rfl
    | exact JD.iK k rfl rfl (by kernel_rfl) rfl (qb rfl) (Qt.vb rfl) rfl rfl
    | exact JD.iK k rfl rfl (by kernel_rfl) rfl (qb rfl) (Qt.Ak rfl) rfl rfl
    | exact JD.iK k rfl rfl (by kernel_rfl) rfl (qb rfl) (Qt.xx rfl) rfl rfl
    | exact JD.iK k rfl rfl (by kernel_rfl) rfl (qb rfl) (Qt.cmp rfl rfl rfl) rfl rfl
    | exact JD.iK k rfl rfl (by kernel_rfl) rfl (qb rfl) (Qt.xu rfl rfl) rfl rfl
    | exact JD.iK k rfl rfl (by kernel_rfl) rfl (qb rfl) (Qt.xw rfl rfl) rfl rfl
    | exact JD.iK k rfl rfl (by kernel_rfl) rfl (qb rfl) (Qt.build rfl (by kernel_rfl)) rfl rfl
    | exact JD.iK k rfl rfl (by kernel_rfl) rfl (qb rfl) (Qt.field rfl rfl (by kernel_rfl) rfl) rfl rfl
    | exact JD.iK k rfl rfl (by kernel_rfl) rfl (qb rfl) (Qt.conv rfl rfl) rfl rfl):G:=h k
theorem Tk.mk {i:Nat} {B:Prop} (h:B):Tk i B:=h
theorem la {cs ds:List A} (h:jh cs ds:=by (repeat (first | exact .nil | refine .cons .refl ?_)) <;> exact .nil):dU (.agg cs) (.agg ds):=.agg h
section
variable {P:Program} {c:Cx} {k:List Item} {f f0:Fm} {L L0:List aj} {ops:Array Oper} {o:Oper} {m:Option Nat} {T:List Nat} {n t:Nat} {d:D} {aU:Array Bool} {U S:List Nat}
theorem jl (i:Nat) {ι:Type} {g:ι→D} {L':ι→List aj} (hi:ops[i]?=some o) (hd:o.dst=some t) (hw:eL ops o f=true) (ht:Nat.ble (t + 1) c.N=true) (q:Ld P c o f L S (fun x=>(t,g x) :: f) L') (hS:Since T L0 L S) (h:∀ x,JD P c ops m T n (aU.setIfInBounds i true) k ((t,g x) :: f) (L' x) ((t,stays (g x)) :: f0) L0) (hr:Region.ready .any ops aU=[i]:=by kernel_rfl):JD P c ops m T (n + 1) aU k f L f0 L0:=JD.gU hr (JS.bZ hi hd hw (qb ht) q hS h)
theorem jk (i:Nat) (hi:ops[i]?=some o) (hd:o.dst=some t) (hw:eL ops o f=true) (ht:Nat.ble (t + 1) c.N=true) (q:Qt P c U o f L d) (h:JD P c ops m T n (aU.setIfInBounds i true) k ((t,d) :: f) L ((t,stays d) :: f0) L0) (hr:Region.ready .any ops aU=[i]:=by kernel_rfl):JD P c ops m T (n + 1) aU k f L f0 L0:=JD.gU hr (JS.q hi hd hw (qb ht) q h)
theorem jt (i:Nat) {ι:Type} {f':ι→Fm} {L':ι→List aj} (hi:ops[i]?=some o) (hw:eL ops o f=true) (q:Ld P c o f L S f' L') (h:∀ x,JW P c ops n (aU.setIfInBounds i true) k (f' x) (L' x)) (hr:Region.ready .any ops aU=[i]:=by kernel_rfl):JD P c ops (some i) T (n + 1) aU k f L f0 L0:=JD.gU hr (JS.last hi hw q h)
theorem dA (i:Nat) {F:FuncId} {args:List Operand} {tys:Array TypeId} {dh ds:List D} {X:TypeId} {ps:String} {af:Array Edge} {gd:Option (Nat × Bool)} [aG P F] (hC:Pure P F ds d) (h:JD P c ops m T n (aU.setIfInBounds i true) k ((t,d) :: f) L ((t,stays d) :: f0) L0) (hi:ops[i]?=some ⟨some t,.call ⟨.value (.func F),args.toArray,tys⟩,X,ps,af,gd⟩:=by exact rfl) (hw:eL ops ⟨some t,.call ⟨.value (.func F),args.toArray,tys⟩,X,ps,af,gd⟩ f=true:=by exact rfl) (ht:Nat.ble (t + 1) c.N=true:=by exact rfl) (he:iw f args=some dh:=by exact rfl) (hle:aJ dh ds:=by exact lq) (hr:Region.ready .any ops aU=[i]:=by kernel_rfl):JD P c ops m T (n + 1) aU k f L f0 L0:=jl i hi rfl hw ht (Ld.pure hC (qb ht) he hle) .none (fun _=>h) hr
theorem bE (h:J P c k f L) (hl:Region.ready .any ops aU=[]:=by kernel_rfl):JD P c ops m T n aU k f L f0 L0:=JD.done hl h
theorem bR (h:J P c k f L) (hl:Region.ready .any ops aU=[]:=by kernel_rfl):JW P c ops n aU k f L:=JW.done hl h
end
section
variable {P:Program} {F:FuncId} {fn:Func} {ok:Nat→Prop} {e:World} {L0 L:List aj} {post:Unit→D × List aj} {N:Nat} {k:List Item} {f:Fm}
theorem aD (hf:P.funcs[F]?=some fn) {rs:List ResultVar} {ds:List D} {d:D} (lp:fn.results=rs.toArray:=by exact rfl) (h:iH P f L rs ds:=by
  repeat (first | exact .nil | apply iH.cons (.tmp rfl) | apply iH.cons (.cell 0 rfl rfl rfl) | apply iH.cons (.cell 1 rfl rfl rfl) | apply iH.cons (.cell 2 rfl rfl rfl) | apply iH.cons (.cell 3 rfl rfl rfl) | apply iH.cons (.cell 4 rfl rfl rfl) | apply iH.cons (.cell 5 rfl rfl rfl) | apply iH.cons (.cell 6 rfl rfl rfl) | apply iH.cons (.cell 7 rfl rfl rfl) | apply iH.cons (.cell 8 rfl rfl rfl))) (hp:post ()=(d,[]):=by exact rfl) (hle:dU (pS ds) d:=by first | exact .refl | exact la):J P (cx F ok e L0 post N) (.code .ret :: k) f L:=J.ret hf lp h () hle [] .nil rfl hp
end
end Fl
open Go.RowKit
namespace Fl
open Sx Go.Proofs.Tryz
theorem set_perm {r r':aj}:∀ {L:List aj} {j:Nat},L[j]?=some r→(L.set j r').Perm (r' :: L.eraseIdx j)
 | [],j,h=>by simp at h
 | q :: L,0,h=>by simp
 | q :: L,j + 1,h=>by
  simp at h;simp only [List.set_cons_succ,List.eraseIdx_cons_succ];exact ((set_perm h).cons q).trans (List.Perm.swap r' q _)
section
variable {P:Program} {c:Cx} {k:List Item} {f:Fm} {L:List aj} {ops:Array Oper} {l:List Oper} {o:Oper} {T:TypeId} {ps:String} {af:Array Edge} {gd:Option (Nat × Bool)} {t:Nat}
theorem Ld.NP (j:Nat) {F:FuncId} {args:List Operand} {tys:Array TypeId} {dh ds:List D} {r:aj} {ι:Type} {dd:ι→D} {r':ι→aj} {L':ι→List aj} [i:aG P F] (hC:an P F ds [r] (fun x=>(dd x,[r' x]))) (hj:L[j]?=some r) (ht:t < c.N) (h:iw f args=some dh) (hle:aJ dh ds) (hL:∀ x,L.set j (r' x)=L' x) :
  Ld P c ⟨some t,.call ⟨.value (.func F),args.toArray,tys⟩,T,ps,af,gd⟩ f L r.cA (fun x=>(t,dd x) :: f) L':=⟨fun a w s K Q hK=>by
 have hp:=oC L j hj;have h1:=Ld.call (P:=P) (c:=c) (T:=T) (ps:=ps) (af:=af) (gd:=gd) (L:=r :: L.eraseIdx j) (f:=f) (tys:=tys) hC ht h hle (Ll:=[r]) (Lr:=L.eraseIdx j) rfl;refine h1.go a w (s.perm hp) K Q fun x v w' kp sx hf=>?_
 have hq:=set_perm (r':=r' x) hj;rw [hL] at hq;refine hK x v w' (by simpa [bu] using kp) (sx.perm hq) fun y hy=>?_
 rcases hf y ((qX hq y).1 hy) with h | h
 ·exact .inl ((qX hp y).1 h)
 ·exact .inr h⟩
end
class tZ (L:List aj) (r:aj) (j:outParam Nat):Prop where h:L[j]?=some r
instance tZ.succ {q r:aj} {M:List aj} {j:Nat} [h:tZ M r j]:tZ (q :: M) r (j + 1):=⟨by simpa using h.h⟩
instance tZ.zero {r:aj} {M:List aj}:tZ (r :: M) r 0:=⟨rfl⟩
section
variable {P:Program} {c:Cx} {k:List Item} {f:Fm} {L:List aj} {ops:Array Oper} {l:List Oper} {o:Oper} {T:TypeId} {ps:String} {af:Array Edge} {gd:Option (Nat × Bool)} {t:Nat}
theorem Ld.fY {F:FuncId} {args:List Operand} {tys:Array TypeId} {dh ds:List D} {r:aj} {j:Nat} {ι:Type} {dd:ι→D} {r':ι→aj} {L':ι→List aj} [i:aG P F] (hC:an P F ds [r] (fun x=>(dd x,[r' x]))) [hj:tZ L r j] [hL:∀ x,jB L j (r' x) (L' x)] (ht:t < c.N) (h:iw f args=some dh) (hle:aJ dh ds) :
  Ld P c ⟨some t,.call ⟨.value (.func F),args.toArray,tys⟩,T,ps,af,gd⟩ f L r.cA (fun x=>(t,dd x) :: f) L':=Ld.NP j hC hj.h ht h hle fun x=>(hL x).h
theorem Ld.fj {F:FuncId} {args:List Operand} {tys:Array TypeId} {dh ds:List D} {ι:Type} {dd:ι→D} {L':ι→List aj} [i:aG P F] (hC:an P F ds L (fun x=>(dd x,L' x))) (ht:t < c.N) (h:iw f args=some dh) (hle:aJ dh ds) :
  Ld P c ⟨some t,.call ⟨.value (.func F),args.toArray,tys⟩,T,ps,af,gd⟩ f L (bu L) (fun x=>(t,dd x) :: f) L':=⟨fun a w s K Q hK =>
 (Ld.call (P:=P) (c:=c) (T:=T) (ps:=ps) (af:=af) (gd:=gd) (tys:=tys) hC ht h hle (Ll:=L) (Lr:=[]) (by simp)).go a w s K Q fun x v w' kp sx hf=>hK x v w' kp (by simpa using sx) (by simpa using hf)⟩
end
section
variable {P:Program} {F:FuncId} {ok:Nat→Prop} {e:World} {L0 L:List aj} {ι:Type} {post:ι→D × List aj} {fn:Func} {N:Nat} {f:Fm} {k:List Item}
theorem DC (L:List aj):(List.range L.length).map (fun i=>L[i]?)=L.map some:=by
 apply List.ext_getElem?;intro i;rw [List.getElem?_map,List.getElem?_map]
 by_cases h:i < L.length
 ·rw [List.getElem?_range h,List.getElem?_eq_getElem h];simp [List.getElem?_eq_getElem h]
 ·rw [List.getElem?_eq_none (by simpa using h),List.getElem?_eq_none (by omega)];rfl
theorem J.perm {c:Cx} {L2:List aj} (hp:L2.Perm L) (h:J P c k f L2):J P c k f L:=⟨fun a w s=>h.go a w (s.perm hp)⟩
theorem J.bN (hf:P.funcs[F]?=some fn) {rs:List ResultVar} {ds:List D} (lp:fn.results=rs.toArray) (h:iH P f L rs ds) {d:D} (i:ι) (hle:dU (pS ds) d) (hp:post i=(d,L)):J P (cx F ok e L0 post N) (.code .ret :: k) f L :=
 J.ret hf lp h i hle (List.range L.length) List.nodup_range (DC L) hp
theorem J.iV (hf:P.funcs[F]?=some fn) {rs:List ResultVar} {ds:List D} (lp:fn.results=rs.toArray) (h:iH P f L rs ds) {d:D} (i:ι) (hle:dU (pS ds) d) (hp:post i=(d,L)):J P (cx F ok e L0 post N) [] f L :=
 J.fin hf lp h i hle (List.range L.length) List.nodup_range (DC L) hp
theorem Hl (E L:List aj):((List.range L.length).map (· + E.length)).map (fun i=>(E ++ L)[i]?)=L.map some:=by
 rw [List.map_map,← DC L];refine List.map_congr_left fun i _=>?_
 simp only [Function.comp];rw [List.getElem?_append_right (by omega)]
 congr 1;omega
theorem J.fC (E:List aj) {L':List aj} (hL:L=E ++ L') (hf:P.funcs[F]?=some fn) {rs:List ResultVar} {ds:List D} (lp:fn.results=rs.toArray) (h:iH P f L rs ds) {d:D} (i:ι) (hle:dU (pS ds) d) (hp:post i=(d,L')):J P (cx F ok e L0 post N) (.code .ret :: k) f L:=by
 subst hL;exact J.ret hf lp h i hle ((List.range L'.length).map (· + E.length)) (List.pairwise_map.2 (List.nodup_range.imp (fun h e=>h (by omega)))) (Hl E L') hp
theorem J.jF (E:List aj) {L':List aj} (hL:L=E ++ L') (hf:P.funcs[F]?=some fn) {rs:List ResultVar} {ds:List D} (lp:fn.results=rs.toArray) (h:iH P f L rs ds) {d:D} (i:ι) (hle:dU (pS ds) d) (hp:post i=(d,L')):J P (cx F ok e L0 post N) [] f L:=by
 subst hL;exact J.fin hf lp h i hle ((List.range L'.length).map (· + E.length)) (List.pairwise_map.2 (List.nodup_range.imp (fun h e=>h (by omega)))) (Hl E L') hp
end
structure vw (Φ:World→List Nat→Prop):Prop where
 iO:∀ {w w':World} {S T:List Nat},Φ w S→aP T w w'→(∀ x∈S,x∉T)→Φ w' S
 lt:∀ {w:World} {S:List Nat},Φ w S→∀ x∈S,x < w.heap.size
def aM (Φ:World→List Nat→Prop) (S:List Nat):aj:=.obj S (fun w=>Φ w S)
theorem aM.holds {Φ:World→List Nat→Prop} (h:vw Φ) {ok:Nat→Prop} {w:World} {S:List Nat}:(aM Φ S).holds ok w↔Φ w S:=by
 constructor
 ·rintro ⟨h1,h2⟩;exact h2 w [] (aP.refl _ _) (by simp)
 ·intro h1;exact ⟨h.lt h1,fun w' S' k hn=>h.iO h1 k hn⟩
def mW:A→Bool
 | .v _=>true
 | .r _ _=>false
def mX:aj→Bool
 | .box _ _ cs=>cs.all mW
 | .row _ _ _ l=>l.all (·.all mW)
 | .obj _ _=>true
theorem RC.flat {ok fI:Nat→Prop} {w:World}:∀ {cs:List A} {vs:List Value},cs.all mW=true→RC ok w cs vs→RC fI w cs vs
 | [],vs,_,h=>by unfold RC at h ⊢;exact h
 | .v y :: cs,vs,hf,h=>by
  unfold RC at h ⊢;obtain ⟨x,xs,e,h1,h2⟩:=h;refine ⟨x,xs,e,?_,RC.flat (by simpa [mW] using hf) h2⟩;unfold RA at h1 ⊢;exact h1
 | .r _ _ :: cs,vs,hf,h=>by simp [mW] at hf
theorem RX.flat {ok fI:Nat→Prop} {w:World} {sz:Nat}:∀ {l:List (List A)} {xs:List Value},l.all (·.all mW)=true→RX ok w sz l xs→RX fI w sz l xs
 | [],xs,_,h=>h
 | cs :: l,xs,hf,h=>by
  obtain ⟨vs,ys,h1,h2,h3,h4⟩:=h;simp only [List.all_cons,Bool.and_eq_true] at hf;exact ⟨vs,ys,h1,h2,h3.flat hf.1,RX.flat hf.2 h4⟩
theorem aj.holds.flat {ok fI:Nat→Prop} {w:World}:∀ {r:aj},mX r=true→r.holds ok w→r.holds fI w
 | .box _ _ _,hf,⟨vs,h1,h2⟩=>⟨vs,h1,h2.flat hf⟩
 | .row _ _ _ _,hf,⟨xs,h1,h2⟩=>⟨xs,h1,h2.flat hf⟩
 | .obj _ _,_,h=>h
def dP {ι:Type} (M:ι→List aj) (w:World) (S:List Nat):Prop:=∃ x,bu (M x)=S∧ij (M x)∧∀ r∈M x,r.holds (fun _=>False) w
theorem dP.ok {ι:Type} {M:ι→List aj}:vw (dP M):=⟨fun ⟨x,e,a,h⟩ k hn=>⟨x,e,a,fun r hr=>(h r hr).cO k ⟨k.size,fun _ _ z=>z.elim⟩ fun y hy=>hn y (by rw [← e];exact dz.2 ⟨r,hr,hy⟩)⟩,fun ⟨x,e,_,h⟩ y hy=>by
 rw [← e] at hy;obtain ⟨r,hr,hy⟩:=dz.1 hy;exact (h r hr).lt y hy⟩
section
variable {P:Program} {F:FuncId} {ds:List D} {ι κ:Type} {M:ι→List aj} {M':κ→List aj}
theorem ic (Φ:World→List Nat→Prop) (S:List Nat):bu [aM Φ S]=S:=by simp [bu,aM,aj.cA]
theorem an.NQ {Y:Type} {d:Y→D} {S:List Nat} (fl:∀ x,(M' x).all mX=true) (h:∀ x,∃ (Z:Type) (e:Z→κ) (g:Z→Y),an P F ds (M x) (fun z:Z=>(d (g z),M' (e z)))) :
  an P F ds [aM (dP M) S] (fun q:Y × List Nat=>(d q.1,[aM (dP M') q.2])):=⟨fun ok e xs hd hr _ hn=>by
 obtain ⟨x,eS,ap,hh⟩:=(aM.holds dP.ok).1 (hr _ (List.mem_singleton.2 rfl));rw [ic] at hn;subst eS;obtain ⟨Z,ee,g,C⟩:=h x;refine (C.go ok e xs hd (fun r hr=>(hh r hr).cO (aP.refl [] e) ⟨Nat.le_refl _,fun _ _ z=>z.elim⟩ (by simp)) ap hn).mono ?_
 rintro en w' ⟨z,y,rfl,kp,hs,xY,xZ,hx⟩
 have eq:gL ok e [aM (dP M) (bu (M x))] [aM (dP M') (bu (M' (ee z)))]=gL ok e (M x) (M' (ee z)):=by
  funext k;unfold gL;rw [ic,ic]
 refine ⟨(g z,bu (M' (ee z))),y,rfl,by rw [ic];exact kp,by rw [ic,ic];exact hs,List.pairwise_singleton _ _,fun r hr=>?_,by rw [eq];exact hx⟩;rw [List.mem_singleton.1 hr];refine (aM.holds dP.ok).2 ⟨ee z,rfl,xY,fun r hr=>(xZ r hr).flat ?_⟩;exact List.all_eq_true.1 (fl _) r hr⟩
theorem an.vz {d:D} {S:List Nat} (fl:∀ x,(M' x).all mX=true) (h:∀ x,∃ (Z:Type) (e:Z→κ),(∀ z,bu (M' (e z))=bu (M x))∧an P F ds (M x) (fun z:Z=>(d,M' (e z)))) :
  an P F ds [aM (dP M) S] (fun _:Unit=>(d,[aM (dP M') S])):=⟨fun ok e xs hd hr _ hn=>by
 obtain ⟨x,eS,ap,hh⟩:=(aM.holds dP.ok).1 (hr _ (List.mem_singleton.2 rfl));rw [ic] at hn;subst eS;obtain ⟨Z,ee,ef,C⟩:=h x;refine (C.go ok e xs hd (fun r hr=>(hh r hr).cO (aP.refl [] e) ⟨Nat.le_refl _,fun _ _ z=>z.elim⟩ (by simp)) ap hn).mono ?_
 rintro en w' ⟨z,y,rfl,kp,hs,xY,xZ,hx⟩
 rw [ef] at hs;have eq:gL ok e [aM (dP M) (bu (M x))] [aM (dP M') (bu (M x))]=gL ok e (M x) (M' (ee z)):=by
  funext k;unfold gL;rw [ic,ic,ef]
 refine ⟨(),y,rfl,by rw [ic];exact kp,by rw [ic,ic];exact fun _ h=>.inl h,List.pairwise_singleton _ _,fun r hr=>?_,by rw [eq];exact hx⟩;rw [List.mem_singleton.1 hr];refine (aM.holds dP.ok).2 ⟨ee z,ef z,xY,fun r hr=>(xZ r hr).flat ?_⟩;exact List.all_eq_true.1 (fl _) r hr⟩
theorem an.x8 {Y:Type} {d:Y→D} {κ:Y→Type} {N:∀ y,κ y→List aj} (fl:∀ y x,(N y x).all mX=true) {Z:Type} (e:Z→Σ y,κ y) (h:an P F ds [] (fun z:Z=>(d (e z).1,N (e z).1 (e z).2))) :
  an P F ds [] (fun q:Y × List Nat=>(d q.1,[aM (dP (N q.1)) q.2])):=⟨fun ok w0 xs hd hr ha hn=>by
 refine (h.go ok w0 xs hd hr ha hn).mono ?_
 rintro en w' ⟨z,y,rfl,kp,hs,xY,xZ,hx⟩
 have eq:gL ok w0 [] [aM (dP (N (e z).1)) (bu (N (e z).1 (e z).2))]=gL ok w0 [] (N (e z).1 (e z).2):=by
  funext k;unfold gL;rw [ic]
 refine ⟨((e z).1,bu (N (e z).1 (e z).2)),y,rfl,kp,by rw [ic];exact hs,List.pairwise_singleton _ _,fun r hr=>?_,by rw [eq];exact hx⟩;rw [List.mem_singleton.1 hr];refine (aM.holds dP.ok).2 ⟨(e z).2,rfl,xY,fun r hr=>(xZ r hr).flat ?_⟩;exact List.all_eq_true.1 (fl _ _) r hr⟩
end
section
variable {P:Program} {F:FuncId} {ds:List D} {L Ll Lr:List aj}
theorem an.frame {ι:Type} {dd:ι→D} {M L':ι→List aj} (Lr:List aj) (hC:an P F ds Ll (fun x=>(dd x,M x))) (hL:(Ll ++ Lr).Perm L) (sw:∀ x,(L' x).Perm (M x ++ Lr)):an P F ds L (fun x=>(dd x,L' x)):=⟨fun ok e xs hd hr ha hf=>by
 have NR:ij (Ll ++ Lr):=(hL.pairwise_iff (fun {x y} lS z hz qJ=>lS z qJ hz)).2 ha;have tN:=List.pairwise_append.1 NR;have hm:∀ x,x∈bu L↔x∈bu Ll∨x∈bu Lr:=fun x=>by rw [← qX hL x,oD]
 have DD:∀ r∈Ll,r∈L:=fun r h=>hL.mem_iff.1 (List.mem_append_left _ h)
 have Ho:∀ r∈Lr,r∈L:=fun r h=>hL.mem_iff.1 (List.mem_append_right _ h)
 have qQ:∀ x,x∈bu Ll→x∉bu Lr:=fun x hx fW=>by
  obtain ⟨q,hq,h1⟩:=dz.1 hx;obtain ⟨r,hr,h2⟩:=dz.1 fW;exact tN.2.2 q hq r hr x h1 h2
 have iu:∀ x,x∈bu Lr→x < e.heap.size:=fun x hx=>by
  obtain ⟨r,h1,h2⟩:=dz.1 hx;exact (hr r (Ho r h1)).lt x h2
 refine Calls.mono (hC.go ok e xs hd (fun r h=>hr r (DD r h)) tN.1 (fun x hx=>hf x ((hm x).2 (.inl hx)))) ?_
 rintro en w' ⟨i,x,rfl,kp,g1,g2,g3,g4⟩
 have me:∀ y,y∈bu (L' i)↔y∈bu (M i)∨y∈bu Lr:=fun y=>by rw [qX (sw i) y,oD]
 have tJ:∀ g,g < w'.heap.size→gL ok e Ll (M i) g→gL ok e L (L' i) g:=fun g _ hg=>by
  obtain ⟨hg,hn⟩:=hg;refine ⟨?_,fun hx=>?_⟩
  ·rcases hg with hg | hg | hg
   ·exact .inl hg
   ·exact .inr (.inl ((hm g).2 (.inl hg)))
   ·exact .inr (.inr hg)
  ·rcases (me g).1 hx with hx | hx
   ·exact hn hx
   ·rcases hg with hg | hg | hg
    ·exact hf g ((hm g).2 (.inr hx)) hg
    ·exact qQ g hg hx
    ·have:=iu g hx;omega
 have m1:Mon (gL ok e Ll (M i)) (gL ok e L (L' i)) w' w':=⟨Nat.le_refl _,fun g hg ho=>⟨tJ g hg ho,rfl⟩⟩
 have m2:Mon ok (gL ok e L (L' i)) e w':=Mon.j8 kp fun g hg ho=>⟨⟨.inl ho,fun hx=>by
  rcases (me g).1 hx with hx | hx
  ·rcases g1 g hx with h | h
   ·exact hf g ((hm g).2 (.inl h)) ho
   ·omega
  ·exact hf g ((hm g).2 (.inr hx)) ho⟩,fun hx=>hf g ((hm g).2 (.inl hx)) ho⟩
 refine ⟨i,x,rfl,kp.mono (fun y hy=>.inl ((hm y).2 (.inl hy))),fun y hy=>?_,?_,fun r Di=>?_,RD.cO m1 _ _ g4⟩
 ·rcases (me y).1 hy with hy | hy
  ·rcases g1 y hy with h | h
   ·exact .inl ((hm y).2 (.inl h))
   ·exact .inr h
  ·exact .inl ((hm y).2 (.inr hy))
 ·refine ((sw i).pairwise_iff (fun {x y} lS z hz qJ=>lS z qJ hz)).2 ?_;refine List.pairwise_append.2 ⟨g2,tN.2.1,fun q hq r hr x hx fW=>?_⟩;have qS:x∈bu Lr:=dz.2 ⟨r,hr,fW⟩;rcases g1 x (dz.2 ⟨q,hq,hx⟩) with h | h
  ·exact qQ x h qS
  ·have:=iu x qS;omega
 ·rcases List.mem_append.1 ((sw i).mem_iff.1 Di) with h | h
  ·exact (g3 r h).cO (aP.refl [] w') m1 (by simp)
  ·exact (hr r (Ho r h)).cO kp m2 (fun x hx fW=>qQ x fW (dz.2 ⟨r,h,hx⟩))⟩
theorem an.at_ (j:Nat) {r:aj} {ι:Type} {dd:ι→D} {r':ι→aj} {L':ι→List aj} (hj:L[j]?=some r) (hC:an P F ds [r] (fun x=>(dd x,[r' x]))) (sw:∀ x,L' x=L.set j (r' x)):an P F ds L (fun x=>(dd x,L' x)) :=
 an.frame (L.eraseIdx j) hC (oC L j hj) fun x=>by rw [sw x];exact set_perm hj
end
class ua {ι:Type} (L Ll:List aj) (M:ι→List aj) (L':outParam (ι→List aj)):Prop where h:∃ E,L=E ++ Ll∧L'=fun x=>E ++ M x
instance ua.succ {ι:Type} {q:aj} {L Ll:List aj} {M L':ι→List aj} [h:ua L Ll M L']:ua (q :: L) Ll M (fun x=>q :: L' x):=⟨by
 obtain ⟨E,h1,h2⟩:=h.h;exact ⟨q :: E,by rw [h1];rfl,by rw [h2];rfl⟩⟩
instance ua.zero {ι:Type} {L:List aj} {M:ι→List aj}:ua L L M M:=⟨⟨[],rfl,rfl⟩⟩
class vD (L:List aj) (b:Nat) (L0:outParam (List aj)):Prop where h:∃ B,L=L0 ++ B
instance vD.succ {q:aj} {L L0:List aj} {b:Nat} [h:vD L b L0]:vD (q :: L) b (q :: L0):=⟨by
 obtain ⟨B,hB⟩:=h.h;exact ⟨B,by rw [hB];rfl⟩⟩
instance vD.zero {b:Nat} {t:TypeId} {cs:List A} {M:List aj}:vD (.box b t cs :: M) b []:=⟨⟨_,rfl⟩⟩
class oK (L:List aj) (b:Nat) (B:outParam (List aj)) (mk:outParam (List aj→List aj)):Prop where
 h:L=mk B
 e:∃ E,∀ X,mk X=E ++ X
instance oK.succ {q:aj} {L:List aj} {b:Nat} {B:List aj} {mk:List aj→List aj} [h:oK L b B mk]:oK (q :: L) b B (fun A=>q :: mk A):=⟨by rw [h.h],by
 obtain ⟨E,hE⟩:=h.e;exact ⟨q :: E,fun X=>by rw [hE X];rfl⟩⟩
instance oK.zero {b:Nat} {t:TypeId} {cs:List A} {M:List aj}:oK (.box b t cs :: M) b (.box b t cs :: M) (fun A=>A):=⟨rfl,[],fun _=>rfl⟩
section
variable {P:Program} {c:Cx} {k:List Item} {f:Fm} {L L2:List aj} {T X:TypeId} {ps:String} {af:Array Edge} {gd:Option (Nat × Bool)} {t:Nat}
theorem Ld.aY {F:FuncId} {args:List Operand} {tys:Array TypeId} {dh ds:List D} {ι:Type} {dd:ι→D} {Ll:List aj} {M L':ι→List aj} [i:aG P F] (hC:an P F ds Ll (fun x=>(dd x,M x))) [hs:ua L Ll M L'] (ht:t < c.N) (h:iw f args=some dh) (hle:aJ dh ds) :
  Ld P c ⟨some t,.call ⟨.value (.func F),args.toArray,tys⟩,T,ps,af,gd⟩ f L (bu Ll) (fun x=>(t,dd x) :: f) L':=by
 obtain ⟨E,h1,h2⟩:=hs.h;subst h1 h2;exact Ld.Nz E _ hC List.perm_append_comm (fun x=>List.perm_append_comm) ht h hle
theorem Ld.DE {F:FuncId} {args:List Operand} {tys:Array TypeId} {dh ds:List D} {ι:Type} {dd:ι→D} {M L':ι→List aj} [i:aG P F] (hC:an P F ds [] (fun x=>(dd x,M x))) (hL:∀ x,L' x=M x ++ L) (ht:t < c.N) (h:iw f args=some dh) (hle:aJ dh ds) :
  Ld P c ⟨some t,.call ⟨.value (.func F),args.toArray,tys⟩,T,ps,af,gd⟩ f L [] (fun x=>(t,dd x) :: f) L':=by
 obtain rfl:L'=fun x=>M x ++ L:=funext hL
 exact Ld.call (P:=P) (c:=c) (T:=T) (ps:=ps) (af:=af) (gd:=gd) (L:=L) (f:=f) (tys:=tys) hC ht h hle (Ll:=[]) (Lr:=L) rfl
end
def x9 (L:List aj):List Nat:=List.range L.length
theorem NT {L:List aj} {x:Nat} (h:x∈bu L):x∈jR L (x9 L):=by
 obtain ⟨r,hr,hx⟩:=dz.1 h;obtain ⟨i,hi⟩:=List.getElem?_of_mem hr;exact xK.2 ⟨i,List.mem_range.2 (List.getElem?_eq_some_iff.1 hi).1,r,hi,hx⟩
def iA (S:List Nat) (L:List aj):Prop:=∀ x∈S,x∈bu L
theorem iA.nil {L:List aj}:iA [] L:=fun x hx=>by cases hx
theorem iA.row {v:Value} {e sz:Nat} {l:List (List A)} {L:List aj}:iA (cX v) (.row v e sz l :: L):=fun x hx=>(iR _ _ _).2 (.inl hx)
theorem iA.bu {L Ll:List aj} {L':Unit→List aj} [h:ua L Ll (fun _:Unit=>([]:List aj)) L']:iA (Fl.bu Ll) L:=fun x hx=>by
 obtain ⟨E,h1,_⟩:=h.h;rw [h1,oD];exact .inr hx
section
variable {P:Program} {c:Cx} {k:List Item} {f f0:Fm} {L L0:List aj} {ops:Array Oper} {o:Oper} {m:Option Nat} {n:Nat} {aU:Array Bool}
theorem JW.ya (m:Option Nat) (h:JD P c ops m (x9 L) n aU k f L f L):JW P c ops n aU k f L:=JW.iZ _ _ h
theorem JS.kA {S:List Nat} {i t:Nat} {ι:Type} {g:ι→D} {L':ι→List aj} (hi:ops[i]?=some o) (hd:o.dst=some t) (hw:eL ops o f=true) (ht:t < c.N) (q:Ld P c o f L S (fun x=>(t,g x) :: f) L') (hS:iA S L)
  (h:∀ x,JD P c ops m (x9 L0) n (aU.setIfInBounds i true) k ((t,g x) :: f) (L' x) ((t,stays (g x)) :: f0) L0):JS P c ops m (x9 L0) n aU k f L f0 L0 i:=⟨fun a w w0 s s0 kp ho=>by
 refine wpOp_step hi (fun K hK=>?_);rw [eL.run hw s,if_pos rfl];refine q.go a w s K _ fun x v w' sj sx hf=>?_
 have sk:aP (jR L0 (x9 L0)) w0 w':=kp.trans sj fun x hx=>by
  rcases ho x (hS x hx) with h | h
  ·exact .inl (NT h)
  ·exact .inr h
 refine hK _ _ (.inr ⟨sk,(h x).go _ w' w0 sx ?_ sk ?_⟩)
 ·rw [hd];exact s0.lU ht (stays.rep (by
   have h1:=sx.fr t (g x) (qL _ _ _);have h2:=s.size;rw [hd] at h1;simpa [Act.put,Array.getD_eq_getD_getElem?,Array.getElem?_setIfInBounds,h2,ht] using h1))
 ·intro y hy;rcases hf y hy with h1 | h1
  ·exact ho y h1
  ·exact .inr (Nat.le_trans kp.size h1)⟩
end
section
variable {P:Program} {c:Cx} {f:Fm} {L:List aj} {T X:TypeId} {ps:String} {af:Array Edge} {gd:Option (Nat × Bool)} {t:Nat}
theorem Qt.max {x y:Operand} {tys:Array TypeId} {k1:IntKind} {m n r:Int} (h:bg f x=some (.c (.v (.int k1 m)))) (hy:bg f y=some (.c (.v (.int k1 n)))) (hr:(if n > m then n else m)=r):Qt P c [] ⟨t,.call ⟨.builtin .max,#[x,y],tys⟩,T,ps,af,gd⟩ f L (.c (.v (.int k1 r))):=⟨fun a w s=>by
 have rx:=s.val h;have ry:=s.val hy;subst hr;refine ⟨_,by unfold RD RA;exact ⟨rfl,rfl⟩,fun w' k=>?_⟩;simp only [execOp,resolve,invoke,builtin,Sem.run_bind];simp [rx,ry,Builtin.max_,Builtin.max2,Sem.run_bind]⟩
end
theorem RX.Hp {ok:Nat→Prop} {w:World}:∀ {l:List (List A)} {xs:List Value} (n:Nat),RX ok w 1 l xs→RX ok w 1 (l.drop n) (xs.drop n)
 | l,xs,0,h=>h
 | [],xs,n + 1,h=>by unfold RX at h;subst h;exact rfl
 | cs :: l,xs,n + 1,h=>by
  obtain ⟨vs,ys,rfl,h2,h3,h4⟩:=h;obtain ⟨v,rfl⟩:=List.length_eq_one_iff.1 h2;exact RX.Hp n h4
section
variable {P:Program} {c:Cx} {f:Fm} {L:List aj} {T X:TypeId} {ps:String} {af:Array Edge} {gd:Option (Nat × Bool)} {t:Nat}
theorem Ld.NU {e bytes:Nat} {z:Value} [E:gf P X e 1 bytes z] {x y:Operand} {v:Value} {l1 l2:List (List A)} {i:Nat} {L':List aj} [bx:fU L v e 1 l1 i] [st:jB L i (.row v e 1 (l2 ++ l1.drop l2.length)) L'] (ht:t < c.N) (hx:bg f x=some (.c (.v v))) (hy:bg f y=some (.c (.r 1 l2))) (hn:l2.length≤l1.length) :
  Ld P c ⟨some t,.call ⟨.builtin .copy,#[x,y],#[X,X]⟩,T,ps,af,gd⟩ f L (cX v) (fun _:Unit=>(t,.c (.v (.int .i64 l2.length))) :: f) (fun _=>L'):=⟨fun a w s K Q hK=>by
 obtain ⟨hu,kX,hz,qD,r8⟩:=E.h;obtain ⟨ti,hi,eJ,dM,iY⟩:=info_parts kX;have jN:(P.info? e).map (·.size)=some 1:=by rw [hi];simp [dM]
 have rx:=s.val hx;have ry:=s.ev hy;unfold RD at ry;obtain ⟨ys,S,v1,v2,v3⟩:=ry.view;obtain ⟨xs,⟨hl,ao,cap,rfl,nG,lR,h4⟩,q2⟩:=s.res _ (List.mem_of_getElem? bx.h);obtain ⟨iP,bo,mJ,lX,Af,Ag,pN⟩:=v1;have xT:∀ u∈ys,u.oneCell'=true:=v2.one;have fJ:∃ w',(execOp a.eval ⟨some t,.call ⟨.builtin .copy,#[x,y],#[X,X]⟩,T,ps,af,gd⟩).run P w=.ok (.value (.int .i64 l2.length)) w'∧aP (cX (.slice ao l1.length cap)) w w'∧Row w' (.slice ao l1.length cap) e 1 l1.length (ys ++ xs.drop ys.length) (cX (.slice ao l1.length cap)):=by
  by_cases h0:l2.length=0
  ·refine ⟨w,?_,aP.refl _ _,?_⟩
   ·have hr:=run_copy_none (P:=P) w X X T e ao bo l1.length cap l2.length mJ hu jN (by rw [h0];first | exact Nat.zero_min _ | exact Nat.min_zero _ | rfl);rw [h0] at hr lX ⊢;simp [execOp,resolve,invoke,builtin,rx,lX,hr,Sem.run_bind,goInt]
   ·have e1:ys=[]:=List.eq_nil_of_length_eq_zero (by rw [iP,h0]);rw [e1];exact ⟨hl,ao,cap,rfl,nG,lR,h4⟩
  ·rcases h4 with ⟨_,h,_⟩ | ⟨g,off,cur,rfl,hS,hb,wY,hc⟩
   ·omega
   ·rcases pN with ⟨h,_⟩ | ⟨ug,tD,rfl,_,Ah,qE⟩
    ·omega
    ·have hr:=run_copy_row (P:=P) w X X T e g off l1.length cap ⟨ug,tD,none⟩ l2.length mJ cur.toArray e ys hu jN hb (by rw [iP,Nat.mul_one];exact (Nat.min_eq_left hn).symm) (fun j y hj=>by
      rw [Addr.add_lit,qE j (List.getElem?_eq_some_iff.1 hj).1];exact hj) (by rw [iP,List.size_toArray];omega) xT
     refine ⟨_,?_,(aP.refl _ w).setRow (g:=g) (.inl (by simp [cX])) (cur.toArray.toList.take off ++ ys ++ cur.toArray.toList.drop (off + ys.length)).toArray,?_⟩
     ·simp only [execOp,resolve,invoke,builtin,Sem.run_bind];simp [rx,lX,hr,iP,goInt,Sem.run_bind]
     ·refine ⟨by rw [List.length_append,List.length_drop,hl,iP];omega,_,_,rfl,nG,lR,.inr ⟨g,off,_,rfl,hS,setRow_heap w g cur.toArray _ e _ hb,?_,?_⟩⟩
      ·simp only [List.length_append,List.length_take,List.length_drop,iP];omega
      ·intro j hj;have mK:(cur.take off).length=off:=by rw [List.length_take];omega
       rw [List.append_assoc,List.getElem?_append_right (by rw [mK];omega),mK,show off + j - off=j by omega]
       by_cases Hq:j < ys.length
       ·rw [List.getElem?_append_left Hq,List.getElem?_append_left Hq]
       ·rw [List.getElem?_append_right (by omega),List.getElem?_append_right (by omega),List.getElem?_drop,List.getElem?_drop,show off + ys.length + (j - ys.length)=off + j by omega,show ys.length + (j - ys.length)=j by omega];exact hc j (by rw [List.length_append,List.length_drop] at hj;omega)
 obtain ⟨w',fJ,hk,tW⟩:=fJ;unfold Oper.wp;rw [fJ];have m:Mon (bM c L) (bM c L) w w':=Mon.j8 hk fun g hg ho=>⟨ho,fun hm=>ho.2 (dz.2 ⟨_,List.mem_of_getElem? bx.h,hm⟩)⟩
 have kO:RX (bM c L) w' 1 (l1.drop l2.length) (xs.drop ys.length):=by
  rw [show ys.length=l2.length by rw [iP,Nat.mul_one]];exact RX.Hp _ (RX.cO m _ _ q2)
 have hh:(aj.row (.slice ao l1.length cap) e 1 (l2 ++ l1.drop l2.length)).holds (bM c L) w':=⟨ys ++ xs.drop ys.length,by rw [show (l2 ++ l1.drop l2.length).length=l1.length by rw [List.length_append,List.length_drop];omega];exact tW,RX.app (RX.cO m _ _ v2) kO⟩
 have s2:=s.set bx.h (r':=.row (.slice ao l1.length cap) e 1 (l2 ++ l1.drop l2.length)) rfl hk hh;rw [st.h] at s2;refine hK () _ w' hk (s2.lU ht (by unfold RD RA;exact ⟨rfl,rfl⟩)) fun y hy=>?_
 rw [← st.h] at hy;exact .inl ((tM bx.h (r':=.row (.slice ao l1.length cap) e 1 (l2 ++ l1.drop l2.length)) rfl y).1 hy)⟩
end
def pt (b:Nat):Value:=.pointer (some ⟨b,0,none⟩)
def aF (l:List Int):List (List A):=l.map fun n=>[nI n]
theorem c7 (l:List Int):(aF l).length=l.length:=by simp [aF]
theorem Ar (l:List Int):(aF l).all (·.all mW)=true:=List.all_eq_true.2 fun x hx=>by
 obtain ⟨n,_,rfl⟩:=List.mem_map.1 hx;rfl
theorem rj {l:List Int} {i:Int} (h0:0≤i) (h:i < l.length):(aF l)[i.toNat]?=some [nI (l.getD i.toNat 0)]:=by
 unfold aF;rw [List.getElem?_map,List.getD_eq_getElem?_getD,List.getElem?_eq_getElem (show i.toNat < l.length by omega)];rfl
theorem yb (l:List Int) (i:Nat) (n:Int):(aF l).set i [nI n]=aF (l.set i n):=by unfold aF;rw [List.map_set]
end Fl
namespace Lt
def has (l:List Int) (i:Int):Bool:=decide (0≤i) && decide (i < l.length)
def owner (l:List Int) (i:Int):Int:=if has l i then l.getD i.toNat 0 else -1
def rm (l:List Int) (i rq:Int):Bool:=has l i && decide (0≤rq) && (l.getD i.toNat 0 == -1)
def ru (l:List Int) (i rq:Int):List Int:=if rm l i rq then l.set i.toNat rq else l
def vE (l:List Int) (i rq:Int):Bool:=has l i && decide (0≤rq) && (l.getD i.toNat 0 == rq)
def yc (l:List Int) (i rq:Int):List Int:=if vE l i rq then l.set i.toNat (-1) else l
def oL (n:Int):List Int:=List.replicate (max 0 (min n 4096)).toNat (-1)
theorem NV {l:List Int} {i:Int} (h0:0≤i) (h:i < l.length):has l i=true:=by unfold has;rw [decide_eq_true h0,decide_eq_true h];rfl
theorem Hr {l:List Int} {i:Int} (h:i < 0∨(l.length:Int)≤i):has l i=false:=by
 unfold has;rcases h with h | h
 ·rw [decide_eq_false (show ¬ 0≤i by omega)];rfl
 ·rw [decide_eq_false (show ¬ i < (l.length:Int) by omega),Bool.and_false]
end Lt
open Go.RowKit
namespace Fl
open Sx Go.Proofs.Tryz
set_option maxRecDepth 100000
def mL (p:Value) (l:List Int) (x:{ x:Nat × Value // p=pt x.1 }):List aj:=[.box x.1.1 128 [.v x.1.2],.row x.1.2 3 1 (aF l)]
def tL (p:Value) (l:List Int):World→List Nat→Prop:=dP (mL p l)
theorem mL.fl {p:Value} {l:List Int} (x:{ x:Nat × Value // p=pt x.1 }):(mL p l x).all mX=true:=by simp [mL,mX,mW,Ar]
theorem DF {F:FuncId} {ds:List D} {p:Value} {l l':List Int} {d:D} {S:List Nat} (h:∀ b v,p=pt b→an prog F ds [.box b 128 [.v v],.row v 3 1 (aF l)] (fun _:Unit=>(d,[.box b 128 [.v v],.row v 3 1 (aF l')]))) :
  an prog F ds [aM (tL p l) S] (fun _:Unit=>(d,[aM (tL p l') S])) :=
 an.vz mL.fl fun x=>⟨Unit,fun _=>x,fun _=>rfl,h x.1.1 x.1.2 x.2⟩
theorem NW (p:Value) (l:List Int) (S:List Nat) (i:Int):an prog 61 [.c (.v p),.c (nI i)] [aM (tL p l) S] (fun _:Unit=>(.c (nI (Lt.owner l i)),[aM (tL p l) S])):=by
 refine DF fun b v e=>?_
 subst e;have ln:=c7 l
 by_cases h0:0≤i
 ·by_cases h1:i < l.length
  ·have t0:decide (i < 0)=false:=decide_eq_false (by omega);have t1:decide (i ≥ ((aF l).length:Int))=false:=decide_eq_false (by omega);have A:=rj h0 h1;rw [show Lt.owner l i=l.getD i.toNat 0 by unfold Lt.owner;rw [Lt.NV h0 h1];rfl];refine an.intro func61 rfl rfl rfl (fun ok e=>?_)
   repeat (first | (refine K.load ?_;refine jq rfl rfl rfl (Qt.aL rfl A rfl) ?_) | (refine K.indexAddr ?_;refine jq rfl rfl rfl (Qt.aI rfl rfl (by omega) (by omega)) ?_) | refine gn ?_)
   (exact J.bN func61 rfl (.cons (.tmp rfl) .nil) () (by exact .refl) rfl)
  ·have t0:decide (i < 0)=false:=decide_eq_false (by omega);have t1:decide (i ≥ ((aF l).length:Int))=true:=decide_eq_true (by omega);rw [show Lt.owner l i=-1 by unfold Lt.owner;rw [Lt.Hr (.inr (by omega))];rfl];refine an.intro func61 rfl rfl rfl (fun ok e=>?_)
   repeat (refine gn ?_)
   (exact J.bN func61 rfl (.cons (.tmp rfl) .nil) () (by exact .refl) rfl)
 ·have t0:decide (i < 0)=true:=decide_eq_true (by omega);rw [show Lt.owner l i=-1 by unfold Lt.owner;rw [Lt.Hr (.inl (by omega))];rfl];refine an.intro func61 rfl rfl rfl (fun ok e=>?_)
  repeat (refine gn ?_)
  (exact J.bN func61 rfl (.cons (.tmp rfl) .nil) () (by exact .refl) rfl)
theorem Hs (p:Value) (l:List Int) (S:List Nat) (i g:Int):an prog 108 [.c (.v p),.c (nI i),.c (nI g)] [aM (tL p l) S] (fun _:Unit=>(.c (bI (Lt.rm l i g)),[aM (tL p (Lt.ru l i g)) S])):=by
 refine DF fun b v e=>?_
 subst e;have ln:=c7 l;obtain ⟨x0,t0⟩:∃ x,decide (i < 0)=x:=⟨_,rfl⟩
 obtain ⟨x1,t1⟩:∃ x,decide (i ≥ ((aF l).length:Int))=x:=⟨_,rfl⟩
 obtain ⟨x2,t2⟩:∃ x,decide (g < 0)=x:=⟨_,rfl⟩
 obtain ⟨x3,t3⟩:∃ x,(l.getD i.toNat 0 != -1)=x:=⟨_,rfl⟩
 have e1:Lt.rm l i g=(!x0 && !x1 && !x2 && !x3):=by
  unfold Lt.rm Lt.has;rw [← t0,← t1,← t2,← t3,ln];simp only [bne,Bool.not_not,← decide_not,Int.not_lt,ge_iff_le,Int.not_le]
 have e2:Lt.ru l i g=if (!x0 && !x1 && !x2 && !x3)=true then l.set i.toNat (g) else l:=by unfold Lt.ru;rw [e1]
 rw [e1,e2];refine an.intro func108 rfl rfl rfl (fun ok e=>?_)
 cases x0 with
 | true =>
  repeat (refine gn ?_)
  (exact J.bN func108 rfl (.cons (.tmp rfl) .nil) () (by exact .refl) rfl)
 | false =>
 cases x1 with
 | true =>
  repeat (refine gn ?_)
  (exact J.bN func108 rfl (.cons (.tmp rfl) .nil) () (by exact .refl) rfl)
 | false =>
 have h0:0≤i:=by simpa using t0
 have h1:i < l.length:=by simpa [ln] using t1
 have A:=rj h0 h1
 cases x2 with
 | true =>
  repeat (refine gn ?_)
  (exact J.bN func108 rfl (.cons (.tmp rfl) .nil) () (by exact .refl) rfl)
 | false =>
 cases x3 with
 | true =>
  repeat (first | (refine K.load ?_;refine jq rfl rfl rfl (Qt.aL rfl A rfl) ?_) | (refine K.indexAddr ?_;refine jq rfl rfl rfl (Qt.aI rfl rfl (by omega) (by omega)) ?_) | refine gn ?_)
  (exact J.bN func108 rfl (.cons (.tmp rfl) .nil) () (by exact .refl) rfl)
 | false =>
  have e3:=yb l i.toNat (g);rw [if_pos (by rfl),← e3]
  repeat (first | (refine K.load ?_;refine jq rfl rfl rfl (Qt.aL rfl A rfl) ?_) | (refine K.store ?_;refine JO.ld (Ld.bL rfl rfl (by exact rfl) (A)) rfl (fun _=>?_)) | (refine K.indexAddr ?_;refine jq rfl rfl rfl (Qt.aI rfl rfl (by omega) (by omega)) ?_) | refine gn ?_)
  (exact J.bN func108 rfl (.cons (.tmp rfl) .nil) () (by exact .refl) rfl)
theorem NX (p:Value) (l:List Int) (S:List Nat) (i g:Int):an prog 115 [.c (.v p),.c (nI i),.c (nI g)] [aM (tL p l) S] (fun _:Unit=>(.c (bI (Lt.vE l i g)),[aM (tL p (Lt.yc l i g)) S])):=by
 refine DF fun b v e=>?_
 subst e;have ln:=c7 l;obtain ⟨x0,t0⟩:∃ x,decide (i < 0)=x:=⟨_,rfl⟩
 obtain ⟨x1,t1⟩:∃ x,decide (i ≥ ((aF l).length:Int))=x:=⟨_,rfl⟩
 obtain ⟨x2,t2⟩:∃ x,decide (g < 0)=x:=⟨_,rfl⟩
 obtain ⟨x3,t3⟩:∃ x,(l.getD i.toNat 0 != g)=x:=⟨_,rfl⟩
 have e1:Lt.vE l i g=(!x0 && !x1 && !x2 && !x3):=by
  unfold Lt.vE Lt.has;rw [← t0,← t1,← t2,← t3,ln];simp only [bne,Bool.not_not,← decide_not,Int.not_lt,ge_iff_le,Int.not_le]
 have e2:Lt.yc l i g=if (!x0 && !x1 && !x2 && !x3)=true then l.set i.toNat (-1) else l:=by unfold Lt.yc;rw [e1]
 rw [e1,e2];refine an.intro func115 rfl rfl rfl (fun ok e=>?_)
 cases x0 with
 | true =>
  repeat (refine gn ?_)
  (exact J.bN func115 rfl (.cons (.tmp rfl) .nil) () (by exact .refl) rfl)
 | false =>
 cases x1 with
 | true =>
  repeat (refine gn ?_)
  (exact J.bN func115 rfl (.cons (.tmp rfl) .nil) () (by exact .refl) rfl)
 | false =>
 have h0:0≤i:=by simpa using t0
 have h1:i < l.length:=by simpa [ln] using t1
 have A:=rj h0 h1
 cases x2 with
 | true =>
  repeat (refine gn ?_)
  (exact J.bN func115 rfl (.cons (.tmp rfl) .nil) () (by exact .refl) rfl)
 | false =>
 cases x3 with
 | true =>
  repeat (first | (refine K.load ?_;refine jq rfl rfl rfl (Qt.aL rfl A rfl) ?_) | (refine K.indexAddr ?_;refine jq rfl rfl rfl (Qt.aI rfl rfl (by omega) (by omega)) ?_) | refine gn ?_)
  (exact J.bN func115 rfl (.cons (.tmp rfl) .nil) () (by exact .refl) rfl)
 | false =>
  have e3:=yb l i.toNat (-1);rw [if_pos (by rfl),← e3]
  repeat (first | (refine K.load ?_;refine jq rfl rfl rfl (Qt.aL rfl A rfl) ?_) | (refine K.store ?_;refine JO.ld (Ld.bL rfl rfl (by exact rfl) (A)) rfl (fun _=>?_)) | (refine K.indexAddr ?_;refine jq rfl rfl rfl (Qt.aI rfl rfl (by omega) (by omega)) ?_) | refine gn ?_)
  (exact J.bN func115 rfl (.cons (.tmp rfl) .nil) () (by exact .refl) rfl)
def lD (m k:Nat):List Int:=List.replicate k (-1) ++ List.replicate (m - k) 0
theorem Ht {m k:Nat} (h:k≤m):(lD m k).length=m:=by unfold lD;simp;omega
theorem NY {m k:Nat} (h:k < m):(lD m k).set k (-1)=lD m (k + 1):=by
 unfold lD;rw [List.set_append_right _ _ (by simp),show m - k=(m - (k + 1)) + 1 by omega,List.replicate_succ,List.replicate_succ',List.append_assoc];simp
theorem NZ (n:Int):an prog 45 [.c (nI n)] [] (fun x:Value × List Nat=>(.c (.v x.1),[aM (tL x.1 (Lt.oL n)) x.2])):=by
 refine an.x8 (Y:=Value) (d:=fun p=>.c (.v p)) (κ:=fun p=>{ x:Nat × Value // p=pt x.1 }) (N:=fun p x=>mL p (Lt.oL n) x) (fun p x=>mL.fl x) (Z:=Nat × Value) (fun z=>⟨pt z.1,⟨z,rfl⟩⟩) ?_;unfold Lt.oL;obtain ⟨m,hm⟩:∃ m:Nat,max 0 (min n 4096)=(m:Int):=⟨(max 0 (min n 4096)).toNat,by omega⟩
 have m4:m≤4096:=by omega
 rw [hm,Int.toNat_natCast];refine an.intro func45 rfl rfl rfl (fun ok e=>?_);have m1:(if 4096 < n then 4096 else n)=min n 4096:=by omega
 have m2:(if min n 4096 > 0 then min n 4096 else 0)=(m:Int):=by omega
 repeat (first | (refine K.bi ?_;first | refine jq rfl rfl rfl (Qt.min rfl rfl m1) ?_ | refine jq rfl rfl rfl (Qt.max rfl rfl m2) ?_) | (refine K.make ?_;refine JO.ld (Ld.make m (qb rfl) rfl rfl rfl (by omega)) rfl (fun _=>?_)) | refine ay ?_ | intro _)
 rename_i v b;have e0:List.replicate m (vs [Value.int .i64 0])=aF (lD m 0):=by unfold lD aF;simp;exact .inr rfl
 rw [e0];refine J.loop (ι:={ k:Nat // k≤m }) (fun q=>[(16,.c (nI q.1)),(15,.c (nI m)),(3,.c (.v (pt b)))]) (fun q=>[.box b 128 [.v (.slice (some ⟨v,0,none⟩) m m)],.row (.slice (some ⟨v,0,none⟩) m m) 3 1 (aF (lD m q.1))]) (fun q=>m - q.1) ⟨0,Nat.zero_le _⟩ (fun X h=>(h.aW ⟨rfl,rfl,rfl,trivial⟩)) (fun q ih=>?_);obtain ⟨k,hk⟩:=q;simp only at hk ih ⊢
 by_cases bF:k < m
 ·have t1:decide ((k:Int) < (m:Int))=true:=decide_eq_true (by omega);have ln:(aF (lD m k)).length=m:=by rw [c7,Ht hk]
  have A:(aF (lD m k))[((k:Nat):Int).toNat]?=some [nI ((lD m k).getD ((k:Nat):Int).toNat 0)]:=rj (Int.natCast_nonneg k) (by rw [Ht hk];omega);have e1:(aF (lD m k)).set ((k:Int)).toNat [nI (-1)]=aF (lD m (k + 1)):=by rw [Int.toNat_natCast,yb,NY bF]
  have fP:=ih ⟨k + 1,by omega⟩ (by simp only;omega);simp only at fP;rw [← e1] at fP
  repeat (first | (refine K.store ?_;refine JO.ld (Ld.bL rfl rfl (by exact rfl) (A)) rfl (fun _=>?_)) | (refine K.indexAddr ?_;refine jq rfl rfl rfl (Qt.aI rfl rfl (by omega) (by omega)) ?_) | refine gn ?_)
  exact fP.aW ⟨rfl,rfl,rfl,trivial⟩
 ·have t1:decide ((k:Int) < (m:Int))=false:=decide_eq_false (by omega);have e1:lD m k=List.replicate m (-1):=by unfold lD;rw [show k=m by omega];simp
  rw [e1]
  repeat (refine gn ?_)
  (exact J.bN func45 rfl (.cons (.tmp rfl) .nil) (b,.slice (some ⟨v,0,none⟩) m m) (by exact .refl) rfl)
end Fl
namespace Qu
def fy:List Int→Int→Int
 | [],_=>-1
 | a :: l,x=>if a=x then l.headD (-1) else fy l x
def jG:Int→List Int→Int→Int
 | _,[],_=>-1
 | p,a :: l,x=>if a=x then p else jG a l x
def gX (l:List Int) (x:Int):Int:=jG (-1) l x
def loc:List (List Int)→Int→Option Nat
 | [],_=>none
 | l :: r,x=>if x∈l then some 0 else (loc r x).map (· + 1)
def tc (R:List (List Int)) (x:Int):Int × Int × Int :=
 match loc R x with
 | some k=>(k,fy (R.getD k []) x,gX (R.getD k []) x)
 | none=>(-1,-1,-1)
def th (n:Nat) (R:List (List Int)):List (Int × Int × Int):=(List.range n).map fun (x:Nat)=>tc R (x:Int)
def lc (l:List Int):Int × Int × Int:=(l.headD (-1),l.getLastD (-1),(l.length:Int))
def ln (R:List (List Int)):List (Int × Int × Int):=R.map lc
structure Inv (n:Nat) (R:List (List Int)):Prop where
 ja:n≤64
 Hu:R.length≤64
 one:∀ a,R.flatten.count a≤1
 bound:∀ a,a∈R.flatten→0≤a∧a < n
theorem yd {a b:List Int} {y:Int} (h:y∈a) (hd:a.count y≤1):fy (a ++ b) y=if a.getLastD (-1)=y then b.headD (-1) else fy a y:=by
 induction a with
 | nil=>simp at h
 | cons z r ih =>
  by_cases e:z=y
  ·subst e;rw [List.count_cons_self] at hd;have hr:z∉r:=fun hm=>by have:=List.count_pos_iff.2 hm;omega
   cases r with
   | nil=>simp [fy]
   | cons u s =>
    have hl:(z :: u :: s).getLastD (-1)≠z:=by
     rw [List.getLastD_eq_getLast?,List.getLast?_cons_cons];intro hc;apply hr;rw [← hc,List.getLast?_eq_some_getLast (by simp)];exact List.getLast_mem _
    rw [if_neg hl];simp [fy]
  ·have hm:y∈r:=by
    rcases List.mem_cons.1 h with h | h
    ·exact absurd h.symm e
    ·exact h
   rw [List.count_cons_of_ne (by simpa using e)] at hd;have:=ih hm hd
   cases r with
   | nil=>simp at hm
   | cons u s =>
    rw [List.cons_append,fy,if_neg e,this];rw [show (z :: u :: s).getLastD (-1)=(u :: s).getLastD (-1) by simp [List.getLastD_eq_getLast?]];rw [show fy (z :: u :: s) y=fy (u :: s) y by rw [fy,if_neg e]]
theorem vF {a b:List Int} {y:Int} (h:y∉a):fy (a ++ b) y=fy b y:=by
 induction a with
 | nil=>rfl
 | cons z r ih =>
  simp only [List.mem_cons,not_or] at h;rw [List.cons_append,fy,if_neg (fun e=>h.1 e.symm),ih h.2]
theorem N0 {a b:List Int} {y:Int} (h:y∈a):∀ p,jG p (a ++ b) y=jG p a y:=by
 induction a with
 | nil=>simp at h
 | cons z r ih =>
  intro p;rw [List.cons_append,jG,jG]
  by_cases e:z=y
  ·rw [if_pos e,if_pos e]
  ·rw [if_neg e,if_neg e];rcases List.mem_cons.1 h with h | h
   ·exact absurd h.symm e
   ·exact ih h z
theorem vH {a b:List Int} {y:Int} (h:y∈a):gX (a ++ b) y=gX a y:=N0 h (-1)
theorem ye {a b:List Int} {y:Int} (h:y∉a):∀ p,jG p (a ++ b) y=jG (a.getLastD p) b y:=by
 induction a with
 | nil=>intro p;rfl
 | cons z r ih =>
  intro p;simp only [List.mem_cons,not_or] at h;rw [List.cons_append,jG,if_neg (fun e=>h.1 e.symm),ih h.2,List.getLastD_cons]
theorem Hv {b:List Int} {y p q:Int} (h:y∈b):jG p b y=if b.headD (-1)=y then p else jG q b y:=by
 cases b with
 | nil=>simp at h
 | cons z r =>
  show jG p (z :: r) y=if z=y then p else jG q (z :: r) y
  rw [jG,jG]
  by_cases e:z=y
  ·rw [if_pos e,if_pos e]
  ·rw [if_neg e,if_neg e,if_neg e]
theorem vI {R:List (List Int)} {x:Int} {k:Nat} (h:loc R x=some k):k < R.length∧x∈R.getD k []:=by
 induction R generalizing k with
 | nil=>simp [loc] at h
 | cons l r ih =>
  rw [loc] at h
  split at h
  ·rename_i hm;obtain rfl:=Option.some.inj h;exact ⟨by simp,by simpa using hm⟩
  ·obtain ⟨j,hj,rfl⟩:=Option.map_eq_some_iff.1 h;have:=ih hj;exact ⟨by simp;omega,by simpa using this.2⟩
theorem p5 {R:List (List Int)} {x:Int}:loc R x=none↔x∉R.flatten:=by
 induction R with
 | nil=>simp [loc]
 | cons l r ih =>
  rw [loc]
  by_cases h:x∈l
  ·rw [if_pos h];simp [h]
  ·rw [if_neg h];simp only [Option.map_eq_none_iff,List.flatten_cons,List.mem_append,h,false_or];exact ih
theorem As {R:List (List Int)} {x:Int} (h1:R.flatten.count x≤1) {k:Nat} (hk:k < R.length) (hx:x∈R.getD k []):loc R x=some k:=by
 induction R generalizing k with
 | nil=>simp at hk
 | cons l r ih =>
  rw [loc];rw [List.flatten_cons,List.count_append] at h1
  cases k with
  | zero=>rw [if_pos (by simpa using hx)]
  | succ k =>
   have fW:x∈r.getD k []:=by simpa using hx
   have DH:k < r.length:=by simpa using hk
   have hf:x∈r.flatten:=by
    rw [List.getD_eq_getElem?_getD,List.getElem?_eq_getElem DH] at fW;exact List.mem_flatten.2 ⟨r[k],List.getElem_mem DH,by simpa using fW⟩
   have h2:=List.count_pos_iff.2 hf;have hl:x∉l:=fun h=>by have:=List.count_pos_iff.2 h;omega
   rw [if_neg hl,ih (by omega) DH fW];rfl
theorem count_set (a:Int):∀ (C:List (List Int)) (g:Nat) (c c':List Int),C[g]?=some c→(C.set g c').flatten.count a + c.count a=C.flatten.count a + c'.count a
 | [],g,c,c',h=>by simp at h
 | y :: r,0,c,c',h=>by
  simp at h;subst h;simp [List.count_append];omega
 | y :: r,g + 1,c,c',h=>by
  have:=count_set a r g c c' (by simpa using h);simp [List.count_append];omega
theorem getD_some {R:List (List Int)} {k:Nat} (h:k < R.length):R[k]?=some (R.getD k []):=by
 rw [List.getD_eq_getElem?_getD,List.getElem?_eq_getElem h];rfl
theorem count_le {R:List (List Int)} {k:Nat} (h:k < R.length) (a:Int):(R.getD k []).count a≤R.flatten.count a:=by
 have:=count_set a R k _ [] (getD_some h);simp at this ⊢;omega
theorem lZ {R:List (List Int)} {k j:Nat} {l:List Int} (h:k < R.length):(R.set k l).getD j []=if k=j then l else R.getD j []:=by
 by_cases e:k=j
 ·subst e;simp [h]
 ·simp [List.getD,e]
theorem Hw {n:Nat} {R:List (List Int)} {k:Nat} {l':List Int} (v:Inv n R) (v':Inv n (R.set k l')) (hk:k < R.length) (y:Int) :
  loc (R.set k l') y=if y∈l' then some k else if loc R y=some k then none else loc R y:=by
 by_cases h:y∈l'
 ·rw [if_pos h];exact As (v'.one y) (by simpa using hk) (by rw [lZ hk,if_pos rfl];exact h)
 ·rw [if_neg h]
  cases hl:loc (R.set k l') y with
  | none =>
   split
   ·rfl
   ·rename_i h2;have hf:=p5.1 hl
    cases hr:loc R y with
    | none=>rfl
    | some j =>
     obtain ⟨hj,pV⟩:=vI hr;have DI:k≠j:=fun e=>h2 (by rw [hr,e])
     exact absurd (List.mem_flatten.2 ⟨R.getD j [],List.mem_of_getElem? (i:=j) (by rw [List.getElem?_set_ne DI];exact getD_some hj),pV⟩) hf
  | some j =>
   obtain ⟨hj,pV⟩:=vI hl;rw [lZ hk] at pV
   split at pV
   ·exact absurd pV h
   ·rename_i DI;have ff:j < R.length:=by simpa using hj
    have:=As (v.one y) ff pV;rw [this,if_neg (by simpa using fun e=>DI e.symm)]
theorem kP (n:Nat) (R:List (List Int)):(th n R).length=n:=by simp [th]
theorem vJ {n:Nat} {R:List (List Int)} {x:Nat} (h:x < n):(th n R)[x]?=some (tc R (x:Int)):=by simp [th,h]
theorem At {n:Nat} {R:List (List Int)} {l:List (Int × Int × Int)} (hl:l.length=n) (h:∀ x:Nat,x < n→l[x]?=some (tc R (x:Int))):l=th n R:=by
 apply List.ext_getElem?;intro i
 by_cases hi:i < n
 ·rw [h i hi,vJ hi]
 ·rw [List.getElem?_eq_none (by omega),List.getElem?_eq_none (by rw [kP];omega)]
theorem Hx (R:List (List Int)) (k:Nat) (l:List Int):ln (R.set k l)=(ln R).set k (lc l):=by simp [ln,List.map_set]
theorem N1 {R:List (List Int)} {k:Nat} (h:k < R.length):(ln R)[k]?=some (lc (R.getD k [])):=by
 simp only [ln,List.getElem?_map,getD_some h,Option.map_some]
theorem vK {n:Nat} {R:List (List Int)} (v:Inv n R) {k:Nat} (hk:k < R.length) {y:Int} (hy:y∈R.getD k []):tc R y=((k:Int),fy (R.getD k []) y,gX (R.getD k []) y):=by
 unfold tc;rw [As (v.one y) hk hy]
theorem Au {R:List (List Int)} {y:Int} (h:loc R y=none):tc R y=(-1,-1,-1):=by unfold tc;rw [h]
theorem Hy {n:Nat} {R:List (List Int)} {k:Nat} {l':List Int} (v:Inv n R) (v':Inv n (R.set k l')) (hk:k < R.length) {y:Int} (h1:y∉l') (h2:y∉R.getD k []):tc (R.set k l') y=tc R y:=by
 have h:=Hw v v' hk y;rw [if_neg h1] at h;have h3:loc R y≠some k:=fun e=>h2 (vI e).2
 rw [if_neg h3] at h;unfold tc;rw [h]
 cases hl:loc R y with
 | none=>rfl
 | some j =>
  have hj:k≠j:=fun e=>h3 (by rw [hl,e])
  simp only [lZ hk,if_neg hj]
theorem Hz {n:Nat} {R:List (List Int)} {k:Nat} {l':List Int} (v:Inv n R) (v':Inv n (R.set k l')) (hk:k < R.length) {y:Int} (h1:y∈l'):tc (R.set k l') y=((k:Int),fy l' y,gX l' y):=by
 have:=vK v' (k:=k) (by simpa using hk) (y:=y) (by rw [lZ hk,if_pos rfl];exact h1)
 rwa [lZ hk,if_pos rfl] at this
theorem N2 {n:Nat} {R:List (List Int)} {k:Nat} {l':List Int} (v:Inv n R) (v':Inv n (R.set k l')) (hk:k < R.length) {y:Int} (h1:y∉l') (h2:y∈R.getD k []):tc (R.set k l') y=(-1,-1,-1):=by
 have h:=Hw v v' hk y;rw [if_neg h1,if_pos (As (v.one y) hk h2)] at h;exact Au h
theorem p6 {R:List (List Int)} {k:Nat} (hk:k < R.length) {y:Int} (hy:y∈R.getD k []):y∈R.flatten :=
 List.mem_flatten.2 ⟨_,List.mem_of_getElem? (getD_some hk),hy⟩
theorem HD {n:Nat} {R:List (List Int)} {k:Nat} {x:Int} (v:Inv n R) (hk:k < R.length) (h0:0≤x) (h1:x < n) (hx:loc R x=none):Inv n (R.set k (R.getD k [] ++ [x])):=by
 have hf:=p5.1 hx;refine ⟨v.ja,by simpa using v.Hu,fun a=>?_,fun a ha=>?_⟩
 ·have h:=count_set a R k _ (R.getD k [] ++ [x]) (getD_some hk);have h2:=v.one a;rw [List.count_append,List.count_singleton] at h
  by_cases e:x=a
  ·subst e;have:R.flatten.count x=0:=List.count_eq_zero.2 hf;simp at h;simp;omega
  ·simp [e] at h;simp;omega
 ·have h:=count_set a R k _ (R.getD k [] ++ [x]) (getD_some hk);have h2:=List.count_pos_iff.2 ha;rw [List.count_append,List.count_singleton] at h
  by_cases e:x=a
  ·subst e;exact ⟨h0,h1⟩
  ·have e2:(x == a)=false:=by simpa using e
   rw [e2] at h;apply v.bound;apply List.count_pos_iff.1;simp only [Bool.false_eq_true,if_false] at h;omega
theorem N3 {n:Nat} {R:List (List Int)} {k:Nat} {x:Int} (v:Inv n R) (hk:k < R.length) (h0:0≤x) (h1:x < n) (hx:loc R x=none) :
  th n (R.set k (R.getD k [] ++ [x]))=if R.getD k []=[] then (th n R).set x.toNat ((k:Int),-1,-1)
   else ((th n R).set x.toNat ((k:Int),-1,(R.getD k []).getLastD (-1))).set ((R.getD k []).getLastD (-1)).toNat ((k:Int),x,gX (R.getD k []) ((R.getD k []).getLastD (-1))):=by
 have v':=HD v hk h0 h1 hx;have hf:=p5.1 hx;have jM:x∉R.getD k []:=fun h=>hf (p6 hk h)
 have ho:=v.one;have hb:=v.bound;have cF:=fun a=>count_le hk (R:=R) a
 have N4:=fun a=>p6 hk (R:=R) (y:=a)
 have jC:=fun y=>Hz v v' hk (y:=y)
 have yf:=fun y=>Hy v v' hk (y:=y)
 have kQ:=fun y=>vK v hk (y:=y)
 generalize R.getD k []=l at *
 symm
 have yg:tc (R.set k (l ++ [x])) x=((k:Int),-1,l.getLastD (-1)):=by
  rw [jC x (by simp),vF jM,gX,ye jM];simp [fy,jG]
 split
 ·rename_i hl;subst hl;refine At (by simp [kP]) (fun y hy=>?_)
  by_cases e:x.toNat=y
  ·have:(y:Int)=x:=by omega
   rw [e,List.getElem?_set_self (by rw [kP];exact hy),this,yg];rfl
  ·rw [List.getElem?_set_ne e,vJ hy];rw [yf (y:Int) (by simp;omega) (by simp)]
 ·rename_i hl;have yh:l.getLastD (-1)∈l:=by
   rw [List.getLastD_eq_getLast?,List.getLast?_eq_some_getLast hl];exact List.getLast_mem hl
  have XE:=hb _ (N4 _ yh);have XF:l.getLastD (-1)≠x:=fun e=>jM (e ▸ yh)
  refine At (by simp [kP]) (fun y hy=>?_)
  by_cases e1:(l.getLastD (-1)).toNat=y
  ·have ey:(y:Int)=l.getLastD (-1):=by omega
   rw [e1,List.getElem?_set_self (by simp [kP];exact hy),ey,jC _ (List.mem_append_left _ yh)];rw [yd yh (by have:=cF (l.getLastD (-1));have:=ho (l.getLastD (-1));omega),if_pos rfl,vH yh];rfl
  ·rw [List.getElem?_set_ne e1]
   by_cases e:x.toNat=y
   ·have:(y:Int)=x:=by omega
    rw [e,List.getElem?_set_self (by rw [kP];exact hy),this,yg]
   ·rw [List.getElem?_set_ne e,vJ hy]
    by_cases hm:(y:Int)∈l
    ·rw [jC _ (by simp [hm]),kQ _ hm,yd hm (by have:=cF (y:Int);have:=ho (y:Int);omega),az,vH hm]
    ·rw [yf (y:Int) (by simp [hm];omega) hm]
theorem N5 {l:List Int} {x:Int} (h:x∈l):∃ a b,l=a ++ x :: b∧x∉a:=by
 induction l with
 | nil=>simp at h
 | cons z r ih =>
  by_cases e:z=x
  ·exact ⟨[],r,by simp [e],by simp⟩
  ·rcases List.mem_cons.1 h with h | h
   ·exact absurd h.symm e
   ·obtain ⟨a,b,rfl,hn⟩:=ih h;exact ⟨z :: a,b,rfl,by simp [hn];exact fun h=>e h.symm⟩
theorem HE {n:Nat} {R:List (List Int)} {k:Nat} {x:Int} {a b:List Int} (v:Inv n R) (hk:k < R.length) (hl:R.getD k []=a ++ x :: b):Inv n (R.set k (a ++ b)):=by
 refine ⟨v.ja,by simpa using v.Hu,fun y=>?_,fun y hy=>?_⟩
 ·have h:=count_set y R k _ (a ++ b) (getD_some hk);have:=v.one y;rw [hl,List.count_append,List.count_append,List.count_cons] at h;omega
 ·have h:=count_set y R k _ (a ++ b) (getD_some hk);have h2:=List.count_pos_iff.2 hy;rw [hl,List.count_append,List.count_append,List.count_cons] at h;exact v.bound y (List.count_pos_iff.1 (by omega))
theorem N6 {n:Nat} {R:List (List Int)} {k:Nat} {x:Int} {a b:List Int} (v:Inv n R) (hk:k < R.length) (hl:R.getD k []=a ++ x :: b) :
  th n (R.set k (a ++ b)) =
   ((if b=[] then (if a=[] then th n R else (th n R).set (a.getLastD (-1)).toNat ((k:Int),b.headD (-1),gX a (a.getLastD (-1))))
    else (if a=[] then th n R else (th n R).set (a.getLastD (-1)).toNat ((k:Int),b.headD (-1),gX a (a.getLastD (-1)))).set (b.headD (-1)).toNat ((k:Int),fy b (b.headD (-1)),a.getLastD (-1))).set x.toNat (-1,-1,-1)):=by
 have v':=HE v hk hl;have ho:∀ y,(a ++ x :: b).count y≤1:=fun y=>by rw [← hl];exact Nat.le_trans (count_le hk y) (v.one y)
 have hb:∀ y,y∈a ++ x :: b→0≤y∧y < n:=fun y hy=>v.bound y (p6 hk (by rw [hl];exact hy))
 have jC:=fun y=>Hz v v' hk (y:=y)
 have yf:=fun y=>Hy v v' hk (y:=y)
 have sC:=fun y=>N2 v v' hk (y:=y)
 have kQ:=fun y=>vK v hk (y:=y)
 rw [hl] at yf sC kQ;have ei:∀ y,a.count y + ((if x=y then 1 else 0) + b.count y)≤1:=fun y=>by
  have:=ho y;rw [List.count_append,List.count_cons] at this
  by_cases e:x=y
  ·subst e;simp at this ⊢;omega
  ·have e2:(x == y)=false:=by simpa using e
   rw [e2] at this;rw [if_neg e];simp at this;omega
 have uc:x∉a:=fun h=>by have:=List.count_pos_iff.2 h;have:=ei x;rw [if_pos rfl] at this;omega
 have yj:x∉b:=fun h=>by have:=List.count_pos_iff.2 h;have:=ei x;rw [if_pos rfl] at this;omega
 have Av:∀ y,y∈a→y∉b:=fun y h1 h2=>by
  have:=List.count_pos_iff.2 h1;have:=List.count_pos_iff.2 h2;have:=ei y;omega
 have ca:∀ y,a.count y≤1:=fun y=>by have:=ei y;omega
 have nQ:a≠[]→a.getLastD (-1)∈a:=fun h=>by
  rw [List.getLastD_eq_getLast?,List.getLast?_eq_some_getLast h];exact List.getLast_mem h
 have yo:b≠[]→b.headD (-1)∈b:=fun h=>by cases b with
  | nil=>exact absurd rfl h
  | cons z r=>simp
 have XG:=hb x (by simp)
 symm
 refine At (by split <;> split <;> simp [kP]) (fun y hy=>?_)
 by_cases ex:x.toNat=y
 ·have N7:(y:Int)=x:=by omega
  rw [ex,List.getElem?_set_self (by split <;> split <;> (simp [kP];exact hy)),N7,sC x (by simp [uc,yj]) (by simp)]
 ·rw [List.getElem?_set_ne ex];have ud:x≠(y:Int):=by omega
  have key:∀ T:List (Int × Int × Int),T.length=n→(∀ z:Nat,z < n→T[z]?=if a≠[]∧a.getLastD (-1)=(z:Int) then some ((k:Int),b.headD (-1),gX a (a.getLastD (-1))) else some (tc R (z:Int))) →
    (if b=[] then T else T.set (b.headD (-1)).toNat ((k:Int),fy b (b.headD (-1)),a.getLastD (-1)))[y]?=some (tc (R.set k (a ++ b)) (y:Int)):=by
   intro T hT HH
   by_cases kB:(y:Int)∈a
   ·have p7:=Av _ kB;have e1:∀ h:b≠[],(b.headD (-1)).toNat≠y:=fun h e=>by
     have:=hb _ (List.mem_append_right _ (List.mem_cons_of_mem _ (yo h)):b.headD (-1)∈a ++ x :: b);exact p7 (by have:=yo h;rwa [show b.headD (-1)=(y:Int) by omega] at this)
    have e2:(if b=[] then T else T.set (b.headD (-1)).toNat ((k:Int),fy b (b.headD (-1)),a.getLastD (-1)))[y]?=T[y]?:=by
     split
     ·rfl
     ·rename_i h;rw [List.getElem?_set_ne (e1 h)]
    rw [e2,HH y hy,jC _ (by simp [kB]),yd kB (ca _)];have N8:a≠[]:=fun h=>by rw [h] at kB;simp at kB
    by_cases e3:a.getLastD (-1)=(y:Int)
    ·rw [if_pos ⟨N8,e3⟩,if_pos e3,vH kB,e3]
    ·rw [if_neg (fun h=>e3 h.2),if_neg e3,kQ _ (by simp [kB]),yd kB (ca _),if_neg e3,vH kB,vH kB]
   ·have e0:T[y]?=some (tc R (y:Int)):=by
     rw [HH y hy,if_neg]
     rintro ⟨h1,h2⟩
     exact kB (by have:=nQ h1;rwa [h2] at this)
    by_cases p7:(y:Int)∈b
    ·have HL:b≠[]:=fun h=>by rw [h] at p7;simp at p7
     rw [if_neg HL,jC _ (by simp [p7]),vF kB,gX,ye kB,Hv (q:=x) p7];have HM:=kQ (y:Int) (by simp [p7]);rw [vF kB,gX,ye kB,jG,if_neg ud,fy,if_neg ud] at HM
     by_cases e3:b.headD (-1)=(y:Int)
     ·rw [if_pos e3,show (b.headD (-1)).toNat=y by omega,List.getElem?_set_self (by rw [hT];exact hy),e3]
     ·rw [if_neg e3,List.getElem?_set_ne (by have:=hb _ (List.mem_append_right _ (List.mem_cons_of_mem _ (yo HL)):b.headD (-1)∈a ++ x :: b);omega),e0,HM]
    ·have e1:(if b=[] then T else T.set (b.headD (-1)).toNat ((k:Int),fy b (b.headD (-1)),a.getLastD (-1)))[y]?=T[y]?:=by
      split
      ·rfl
      ·rename_i h;have:=hb _ (List.mem_append_right _ (List.mem_cons_of_mem _ (yo h)):b.headD (-1)∈a ++ x :: b);rw [List.getElem?_set_ne (fun e=>p7 (by have:=yo h;rwa [show b.headD (-1)=(y:Int) by omega] at this))]
     rw [e1,e0,yf _ (by simp [kB,p7]) (by simp [kB,p7];exact fun e=>ud e.symm)]
  apply key
  ·split <;> simp [kP]
  ·intro z hz
   by_cases yq:a=[]
   ·rw [if_pos yq,if_neg (fun h=>h.1 yq),vJ hz]
   ·rw [if_neg yq];have:=hb _ (List.mem_append_left _ (nQ yq):a.getLastD (-1)∈a ++ x :: b)
    by_cases e3:a.getLastD (-1)=(z:Int)
    ·rw [if_pos ⟨yq,e3⟩,show (a.getLastD (-1)).toNat=z by omega,List.getElem?_set_self (by rw [kP];exact hz)]
    ·rw [if_neg (fun h=>e3 h.2),List.getElem?_set_ne (by omega),vJ hz]
theorem N9 (c:Int) (l:List Int):l.length=(l.filter (fun a=>a≠c)).length + l.count c:=by
 induction l with
 | nil=>rfl
 | cons x r ih =>
  rw [List.count_cons,List.filter_cons]
  by_cases e:x=c
  ·subst e;simp at ih ⊢;omega
  ·have e2:(x == c)=false:=by simpa using e
   simp [e,e2] at ih ⊢;omega
theorem Aw {l:List Int} {n:Nat} (h1:∀ a,l.count a≤1) (h2:∀ a∈l,0≤a∧a < (n:Int)):l.length≤n:=by
 induction n generalizing l with
 | zero =>
  cases l with
  | nil=>simp
  | cons x r=>have:=h2 x (by simp);omega
 | succ n ih =>
  have h3:=ih (l:=l.filter (fun a=>a≠(n:Int))) (fun a=>Nat.le_trans (List.Sublist.count_le a List.filter_sublist) (h1 a)) (fun a ha=>by
   simp only [List.mem_filter,decide_eq_true_eq] at ha;have:=h2 a ha.1;omega)
  have h4:=N9 (n:Int) l;have:=h1 (n:Int);omega
end Qu
namespace Qu
def line (R:List (List Int)) (k:Int):Bool:=decide (0≤k) && decide (k < R.length)
def ue (R:List (List Int)) (x:Int):Int × Bool:=match loc R x with
 | some k=>(k,true)
 | none=>(0,false)
def row (R:List (List Int)) (k:Int):List Int:=if line R k then R.getD k.toNat [] else []
def first (R:List (List Int)) (k:Int):Int × Bool:=if row R k=[] then (0,false) else ((row R k).headD (-1),true)
theorem Ax {R:List (List Int)} {k:Int} (h:line R k=true):∃ j:Nat,k=j∧j < R.length:=by
 simp only [line,Bool.and_eq_true,decide_eq_true_eq] at h;obtain ⟨j,rfl⟩:=Int.eq_ofNat_of_zero_le h.1;exact ⟨j,rfl,by omega⟩
theorem Ay {R:List (List Int)} {j:Nat} (h:j < R.length):row R j=R.getD j []:=by simp [row,line,h]
end Qu
namespace Qu
def push (n:Nat) (R:List (List Int)) (k x:Int):List (List Int) × Bool :=
 if line R k && decide (0≤x) && decide (x < n) && (loc R x).isNone then (R.set k.toNat (row R k ++ [x]),true) else (R,false)
theorem Oa {n:Nat} {R:List (List Int)} (v:Inv n R) (k x:Int):Inv n (push n R k x).1:=by
 unfold push
 split
 ·rename_i h;simp only [Bool.and_eq_true,decide_eq_true_eq,Option.isNone_iff_eq_none] at h;obtain ⟨⟨⟨hk,h0⟩,h1⟩,h2⟩:=h;obtain ⟨j,rfl,hj⟩:=Ax hk;rw [Ay hj];exact HD v hj h0 h1 h2
 ·exact v
end Qu
namespace Qu
theorem DJ {a:List Int} (h:a≠[]):a.getLastD (-1)∈a:=by
 rw [List.getLastD_eq_getLast?,List.getLast?_eq_some_getLast h];exact List.getLast_mem h
theorem HT {b:List Int} (h:b≠[]):b.headD (-1)∈b:=by
 cases b with
 | nil=>exact absurd rfl h
 | cons z r=>simp
structure Ob (n:Nat) (R:List (List Int)) (k:Nat) (x:Int) (a b:List Int):Prop where
 x0:0≤x∧x < n
 tx:tc R x=((k:Int),b.headD (-1),a.getLastD (-1))
 pa:a≠[]→0≤a.getLastD (-1)∧a.getLastD (-1) < n∧a.getLastD (-1)≠x∧tc R (a.getLastD (-1))=((k:Int),x,gX a (a.getLastD (-1)))
 hb:b≠[]→0≤b.headD (-1)∧b.headD (-1) < n∧b.headD (-1)≠x∧tc R (b.headD (-1))=((k:Int),fy b (b.headD (-1)),x)
 ab:a≠[]→b≠[]→a.getLastD (-1)≠b.headD (-1)
 len:(a ++ x :: b).length≤64
theorem Od {n:Nat} {R:List (List Int)} {k:Nat} {x:Int} {a b:List Int} (v:Inv n R) (hk:k < R.length) (hl:R.getD k []=a ++ x :: b):Ob n R k x a b:=by
 have ho:∀ y,(a ++ x :: b).count y≤1:=fun y=>by rw [← hl];exact Nat.le_trans (count_le hk y) (v.one y)
 have uf:∀ y,y∈a ++ x :: b→0≤y∧y < n:=fun y hy=>v.bound y (p6 hk (by rw [hl];exact hy))
 have kQ:=fun y=>vK v hk (y:=y)
 rw [hl] at kQ;have ei:∀ y,a.count y + ((if x=y then 1 else 0) + b.count y)≤1:=fun y=>by
  have:=ho y;rw [List.count_append,List.count_cons] at this
  by_cases e:x=y
  ·subst e;simp at this ⊢;omega
  ·have e2:(x == y)=false:=by simpa using e
   rw [e2] at this;rw [if_neg e];simp at this;omega
 have uc:x∉a:=fun h=>by have:=List.count_pos_iff.2 h;have:=ei x;rw [if_pos rfl] at this;omega
 have yj:x∉b:=fun h=>by have:=List.count_pos_iff.2 h;have:=ei x;rw [if_pos rfl] at this;omega
 have Av:∀ y,y∈a→y∉b:=fun y h1 h2=>by
  have:=List.count_pos_iff.2 h1;have:=List.count_pos_iff.2 h2;have:=ei y;omega
 have ca:∀ y,a.count y≤1:=fun y=>by have:=ei y;omega
 refine ⟨uf x (by simp),?_,fun h=>?_,fun h=>?_,fun h1 h2 e=>Av _ (DJ h1) (by rw [e];exact HT h2),?_⟩
 ·rw [kQ x (by simp),vF uc,gX,ye uc,fy,if_pos rfl,jG,if_pos rfl]
 ·have hm:=DJ h;have h2:=uf _ (List.mem_append_left _ hm);refine ⟨h2.1,h2.2,fun e=>uc (e ▸ hm),?_⟩;rw [kQ _ (List.mem_append_left _ hm),yd hm (ca _),if_pos rfl,vH hm];rfl
 ·have hm:=HT h;have h2:=uf _ (List.mem_append_right _ (List.mem_cons_of_mem _ hm));have bV:b.headD (-1)≠x:=fun e=>yj (e ▸ hm)
  have HW:b.headD (-1)∉a:=fun e=>Av _ e hm
  refine ⟨h2.1,h2.2,bV,?_⟩;rw [kQ _ (List.mem_append_right _ (List.mem_cons_of_mem _ hm)),vF HW,gX,ye HW,fy,if_neg (fun e=>bV e.symm),jG,if_neg (fun e=>bV e.symm),Hv (q:=x) hm,if_pos rfl]
 ·have:=Aw ho uf;have:=v.ja;omega
def drop (R:List (List Int)) (x:Int):List (List Int) × Bool:=match loc R x with
 | some k=>(R.set k ((R.getD k []).filter (fun y=>y != x)),true)
 | none=>(R,false)
theorem Oe {x:Int} {a b:List Int} (h1:x∉a) (h2:x∉b):(a ++ x :: b).filter (fun y=>y != x)=a ++ b:=by
 rw [List.filter_append,List.filter_cons];have e1:a.filter (fun y=>y != x)=a:=List.filter_eq_self.2 (fun y hy=>by simp;exact fun e=>h1 (e ▸ hy));have e2:b.filter (fun y=>y != x)=b:=List.filter_eq_self.2 (fun y hy=>by simp;exact fun e=>h2 (e ▸ hy));rw [e1,e2];simp
theorem HY {n:Nat} {R:List (List Int)} {x:Int} {k:Nat} (v:Inv n R) (h:loc R x=some k):∃ a b,k < R.length∧R.getD k []=a ++ x :: b∧drop R x=(R.set k (a ++ b),true):=by
 obtain ⟨hk,hm⟩:=vI h;obtain ⟨a,b,hl,uc⟩:=N5 hm;have ho:(a ++ x :: b).count x≤1:=by rw [← hl];exact Nat.le_trans (count_le hk x) (v.one x)
 have yj:x∉b:=fun hb=>by
  have:=List.count_pos_iff.2 hb;rw [List.count_append,List.count_cons_self] at ho;omega
 refine ⟨a,b,hk,hl,?_⟩;unfold drop;rw [h];simp only [hl,Oe uc yj]
theorem Of {n:Nat} {R:List (List Int)} (v:Inv n R) (x:Int):Inv n (drop R x).1:=by
 cases h:loc R x with
 | none=>unfold drop;rw [h];exact v
 | some k =>
  obtain ⟨a,b,hk,hl,e⟩:=HY v h;rw [e];exact HE v hk hl
end Qu
theorem Qu.HZ {a b:List Int} (h:b≠[]):(a ++ b).getLastD (-1)=b.getLastD (-1):=by
 rw [List.getLastD_eq_getLast?,List.getLastD_eq_getLast?,List.getLast?_append,List.getLast?_eq_some_getLast h];rfl
theorem Qu.H6 {y:Int} {b:List Int} (h:b≠[]):(y :: b).getLastD (-1)=b.getLastD (-1):=by
 cases b with
 | nil=>exact absurd rfl h
 | cons z r=>simp [List.getLastD_eq_getLast?]
namespace Qu
theorem Og {l:List Int} (h:∀ a,l.count a≤1) {i:Nat} (hi:i < l.length):fy l (l.getD i (-1))=l.getD (i + 1) (-1):=by
 obtain ⟨x,hx⟩:∃ x,l[i]=x:=⟨_,rfl⟩
 have e0:l.getD i (-1)=x:=by rw [List.getD_eq_getElem?_getD,List.getElem?_eq_getElem hi,← hx];rfl
 have e1:l=l.take i ++ x :: l.drop (i + 1):=by rw [← hx,← List.drop_eq_getElem_cons hi,List.take_append_drop]
 have e2:l.getD (i + 1) (-1)=(l.drop (i + 1)).headD (-1):=by rw [List.getD_eq_getElem?_getD,List.headD_eq_head?_getD,List.head?_drop]
 have h3:l.count x=(l.take i).count x + (x :: l.drop (i + 1)).count x:=by
  rw [← List.count_append,← e1]
 have hn:x∉l.take i:=fun hm=>by
  have h1:=List.count_pos_iff.2 hm;have h2:=h x;rw [List.count_cons_self] at h3;omega
 rw [e0,e2];generalize l.take i=a at *;generalize l.drop (i + 1)=b at *;rw [e1,vF hn,fy,if_pos rfl]
end Qu
theorem yt {α:Type} (a b:α) (N k:Nat) (h:k < N):(List.replicate k a ++ List.replicate (N - k) b).set k a=List.replicate (k + 1) a ++ List.replicate (N - (k + 1)) b:=by
 rw [List.set_append_right _ _ (by simp),List.replicate_succ',List.append_assoc]
 congr 1
 rw [show N - k=(N - (k + 1)) + 1 by omega,List.replicate_succ];simp
namespace Qu
theorem DK (m:Nat):(List.replicate m ([]:List Int)).flatten=[]:=by
 induction m with
 | zero=>rfl
 | succ n ih=>rw [List.replicate_succ,List.flatten_cons,ih];rfl
theorem Oh (n m:Nat) (h1:n≤64) (h2:m≤64):Inv n (List.replicate m []) :=
 ⟨h1,by simpa using h2,fun a=>by rw [DK];simp,fun a h=>by rw [DK] at h;simp at h⟩
theorem Oi (n m:Nat):th n (List.replicate m [])=List.replicate n (-1,-1,-1):=by
 symm
 refine At (by simp) (fun x hx=>?_);rw [Au (p5.2 (by rw [DK];simp))];simp [hx]
theorem Oj (m:Nat):ln (List.replicate m [])=List.replicate m (-1,-1,0):=by simp [ln,lc]
end Qu
end Go.Proofs.YtdjhhbpedllnhaaGreat
