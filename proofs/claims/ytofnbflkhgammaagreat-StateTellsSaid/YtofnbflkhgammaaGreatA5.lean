/-
  What the laws need, part A5.
  Conditions: none.
-/
import Derived.Test.YtofnbflkhgammaaGreatA4
import Derived.Laws.CopyRow
import Derived.Laws.OwnMore
import Derived.OwnWalk
set_option linter.unusedVariables false
set_option linter.unusedSimpArgs false
set_option linter.unnecessarySimpa false
set_option maxHeartbeats 2000000
namespace Go.Proofs.YtofnbflkhgammaaGreat
open Go.RowKit
namespace Fl
theorem RX.take {ok:Nat→Prop} {w:World} {sz:Nat}:∀ (n:Nat) {l:List (List A)} {xs:List Value},RX ok w sz l xs→RX ok w sz (l.take n) (xs.take (n * sz))
 | 0,l,xs,h=>by simp [RX]
 | n + 1,[],xs,h=>by unfold RX at h;subst h;simp [RX]
 | n + 1,cs :: l,xs,h=>by
  obtain ⟨vs,ys,rfl,h2,h3,h4⟩:=h;have e1:(vs ++ ys).take ((n + 1) * sz)=vs ++ ys.take (n * sz):=by
   rw [List.take_append,List.take_of_length_le (by rw [h2,Nat.add_mul];omega),h2]
   congr 2;rw [Nat.add_mul];omega
  rw [e1];exact ⟨vs,_,rfl,h2,h3,RX.take n h4⟩
theorem RX.drop {ok:Nat→Prop} {w:World} {sz:Nat}:∀ (n:Nat) {l:List (List A)} {xs:List Value},RX ok w sz l xs→RX ok w sz (l.drop n) (xs.drop (n * sz))
 | 0,l,xs,h=>by simpa using h
 | n + 1,[],xs,h=>by unfold RX at h;subst h;simp [RX]
 | n + 1,cs :: l,xs,h=>by
  obtain ⟨vs,ys,rfl,h2,h3,h4⟩:=h;have e1:(vs ++ ys).drop ((n + 1) * sz)=ys.drop (n * sz):=by
   rw [List.drop_append,List.drop_of_length_le (by rw [h2,Nat.add_mul];omega),h2];simp only [List.nil_append]
   congr 1;rw [Nat.add_mul];omega
  rw [e1];exact RX.drop n h4
section
variable {P:Program} {c:Cx} {k:List Item} {f:Fm} {L:List ai} {ops:Array Oper} {T X:TypeId} {ps:String} {af:Array Edge} {gd:Option (Nat × Bool)} {t:Nat}
theorem Hs {x:Operand} {lo hi:Option Operand} {e sz j:Nat} {v:Value} {l l':List (List A)} {L':List ai} {m n:Int} [i:eY P X e sz] [bx:gz L v e sz l j] [er:mu L j L'] (ht:t < c.N) (h:aN f x=some (.c (.v v))) (Dm:oG f lo 0=some m) (Dn:oG f hi l.length=some n) (h1:0≤m) (h2:m≤n) (h3:n≤l.length) (hl:(l.take n.toNat).drop m.toNat=l') :
  Ld P c ⟨some t,.slice X x lo hi none,T,ps,af,gd⟩ f L (cW v) (fun v':Value=>(t,.c (.v v')) :: f) (fun v'=>.row v' e sz l' :: L'):=Ld.perm (Du bx.h er.h) ⟨fun a w s K Q hK=>by
 subst hl;have rx:=s.val h;obtain ⟨xs,r1,r2⟩:=s.res _ (List.mem_cons_self ..);have ap:=List.pairwise_cons.1 s.ap;obtain ⟨h0,ao,cap,hx,g1,g2,g3⟩:=r1;have hn:n.toNat≤l.length:=by omega
 have Dp:∀ w,(match lo.map a.eval with | some v=>Instr.sliceBound v n.toNat .sliceB | none=>pure 0:Sem Nat).run P w=.ok m.toNat w:=fun w=>by
  rcases oG.run s Dm with ⟨rfl,rfl⟩ | ⟨y,kd,rfl,hy⟩
  ·simp
  ·simp only [Option.map_some,hy,Instr.sliceBound,asIntOf,Sem.run_bind,Sem.run_pure,Result.andThen_ok];rw [if_pos ⟨h1,by omega⟩];rfl
 have Dq:∀ w,(match hi.map a.eval,(none:Option Value) with | some v,some _=>Instr.sliceBound v cap .slice3B | some v,none=>Instr.sliceBound v cap (if true then .sliceAcap else .sliceAlen) | none,none=>pure l.length | none,some _=>stuck "Slice: max without high":Sem Nat).run P w=.ok n.toNat w:=fun w=>by
  rcases oG.run s Dn with ⟨rfl,rfl⟩ | ⟨y,kd,rfl,hy⟩
  ·simp
  ·simp only [Option.map_some,hy,Instr.sliceBound,asIntOf,Sem.run_bind,Sem.run_pure,Result.andThen_ok];rw [if_pos ⟨by omega,by omega⟩];rfl
 have Dr:∀ w,(Instr.sliceBounds true l.length cap (lo.map a.eval) (hi.map a.eval) none).run P w=.ok (m.toNat,n.toNat,cap) w:=fun w=>by
  unfold Instr.sliceBounds;simp only [Sem.run_bind,Sem.run_pure,Result.andThen_ok,Option.isSome_none,Bool.false_eq_true,↓reduceIte];have a1:=Dq w;have a2:=Dp w
  cases Ds:hi.map a.eval <;> cases Dt:lo.map a.eval <;> rw [Ds] at a1 <;> rw [Dt] at a2 <;> simp only [↓reduceIte,Sem.run_pure,Result.ok.injEq,and_true] at a1 a2 <;> simp [Sem.run_bind,a1,a2]
 have fI:(execOp a.eval ⟨some t,.slice X x lo hi none,T,ps,af,gd⟩).run P w=.ok (.value (.slice (if cap=m.toNat then ao else ao.map (·.add (m.toNat * sz))) (n.toNat - m.toNat) (cap - m.toNat))) w:=by
  simp only [execOp,Option.map_none,Instr.sliceAt,Instr.slice,rx,hx,Sem.run_bind,run_underlying (kU.jW i.h),Result.andThen_ok,Dr,iO.run i.s,Sem.run_pure]
 have hlen:((l.take n.toNat).drop m.toNat).length=n.toNat - m.toNat:=by simp [hn]
 have hf:cW (.slice (if cap=m.toNat then ao else ao.map (·.add (m.toNat * sz))) (n.toNat - m.toNat) (cap - m.toNat))=cW v:=by
  subst hx
  cases ao with
  | none=>simp [cW]
  | some A=>split <;> simp [cW,Addr.add] <;> split <;> rfl
 have hR:(ai.row (.slice (if cap=m.toNat then ao else ao.map (·.add (m.toNat * sz))) (n.toNat - m.toNat) (cap - m.toNat)) e sz ((l.take n.toNat).drop m.toNat)).holds (bh c (.row v e sz l :: L')) w:=by
  refine ⟨(xs.take (n.toNat * sz)).drop (m.toNat * sz),?_,(r2.take n.toNat).drop m.toNat⟩;rw [hf,hlen];refine ⟨?_,_,_,rfl,by omega,by omega,?_⟩
  ·have:=((r2.take n.toNat).drop m.toNat).len;rw [this,hlen]
  ·rcases g3 with ⟨rfl,g4,g5,g6⟩ | ⟨g,off,cur,rfl,g5,g6,g7,g8⟩
   ·exact .inl ⟨by simp,by omega,by omega,g6⟩
   ·by_cases hc:cap=m.toNat
    ·refine .inr ⟨g,off,cur,by rw [if_pos hc],g5,g6,by rw [hc];have:off≤off + cap * sz:=Nat.le_add_right _ _;simp;omega,fun q hq=>?_⟩;have iS:=((r2.take n.toNat).drop m.toNat).len;rw [iS,hlen,show n.toNat - m.toNat=0 by omega] at hq;omega
    ·refine .inr ⟨g,off + m.toNat * sz,cur,by rw [if_neg hc];simp [Addr.add_mid],g5,g6,?_,fun q hq=>?_⟩
     ·have e1:m.toNat * sz + (cap - m.toNat) * sz=cap * sz:=by rw [← Nat.add_mul];congr 1;omega
      omega
     ·have tT:q < xs.length:=by
       have:=hq;simp only [List.length_drop,List.length_take] at this;omega
      have O3:m.toNat * sz + q < n.toNat * sz:=by
       have:=hq;simp only [List.length_drop,List.length_take] at this;omega
      have O4:m.toNat * sz + q < xs.length:=by
       have:=hq;simp only [List.length_drop,List.length_take] at this;omega
      rw [List.getElem?_drop,List.getElem?_take,if_pos O3,← g8 _ O4]
      congr 1;omega
 have ho:bh c (.row (.slice (if cap=m.toNat then ao else ao.map (·.add (m.toNat * sz))) (n.toNat - m.toNat) (cap - m.toNat)) e sz ((l.take n.toNat).drop m.toNat) :: L')=bh c (.row v e sz l :: L'):=by
  funext x;unfold bh;simp only [jY,ai.bM,hf]
 unfold Oper.wp;rw [fI];refine hK _ _ w (aj.refl _ _) (s.put ht (by unfold RD RA;exact ⟨rfl,rfl⟩) s.kp (fun q hq=>?_) (fun y hy=>s.fN y ?_) ?_ (by rw [ho];exact Mon.refl _ _)) (fun y hy=>.inl ?_)
 ·rw [ho];rcases List.mem_cons.1 hq with rfl | hq
  ·exact hR
  ·exact s.res q (List.mem_cons_of_mem _ hq)
 ·rw [jY,ai.bM,hf] at hy;exact (jY _ _ _).2 hy
 ·exact List.pairwise_cons.2 ⟨fun q hq y hy O5=>ap.1 q hq y (by rw [ai.bM,hf] at hy;exact hy) O5,ap.2⟩
 ·rw [jY,ai.bM,hf] at hy;exact (jY _ _ _).2 hy⟩
theorem J.join {I:Item} {ι:Type} (f':ι→Fm) (L':ι→List ai) (rest:∀ x,J P c k (f' x) (L' x)) (h:(∀ x,J P c k (f' x) (L' x))→J P c (I :: k) f L):J P c (I :: k) f L:=h rest
theorem J.Ht (t u n:Nat) {v:Value} {e sz i j b o B:Nat} {ll:List (List A)} {cs:List A} {L1 L2:List ai} [r:gz L v e sz ll i] [bx:lM L b B cs j] [st:kW L j (.box b B (cs.set n (.r sz ll))) L1] [er:mu L1 i L2] (h1:look f t=some (.c (.v v))) (h2:look f u=some (.c (.v (.pointer (some ⟨b,o,none⟩))))) (hc:cs[n]?=some (.v v)) (h:J P c k f L2):J P c k f L :=
 J.ve i j n r.h bx.h hc (by rw [st.h,er.h];exact h)
theorem J.eF (i:Nat) {L2:List ai} [er:mu L i L2] (h:J P c k f L2):J P c k f L:=J.drop i (by rw [er.h];exact h)
end
class xz (L:List ai) (d:D) (j:outParam Nat):Prop where h:True
instance xz.box {L:List ai} {b o B j:Nat} {cs:List A} [lM L b B cs j]:xz L (.c (.v (.pointer (some ⟨b,o,none⟩)))) j:=⟨trivial⟩
instance xz.row {L:List ai} {v:Value} {e sz j:Nat} {l:List (List A)} [gz L v e sz l j]:xz L (.c (.v v)) j:=⟨trivial⟩
section
variable {P:Program} {c:Cx} {k:List Item} {f:Fm} {L:List ai} {ops:Array Oper} {n:Nat} {aH:Array Bool}
theorem Gx.mono {S S':World→Prop} {md:Region.Mode} {Q:Exit→Act→World→Prop} {m:Option Nat} (hS:∀ w,S' w→S w):∀ (n:Nat) (aH:Array Bool) (a:Act) (w:World),Gx P md ops Q S' m n aH a w→Gx P md ops Q S m n aH a w
 | 0,_,_,_,h=>h
 | n + 1,_,_,_,h=>⟨h.1,fun i hi=>wpOp_mono (fun a' w' h'=>h'.elim .inl (fun h'=>.inr ⟨hS _ h'.1,Gx.mono hS n _ _ _ h'.2⟩)) (h.2 i hi)⟩
theorem JD.lP {m:Option Nat} {T:List Nat} {f0:Fm} {L0:List ai} (h:JD P c ops m [] n aH k f L f L):JD P c ops m T n aH k f L f0 L0:=⟨fun a w w0 s s0 kp ho =>
 Gx.mono (fun w' h'=>kp.trans h' (fun x hx=>by simp [jD] at hx)) _ _ _ _ (h.go a w w s s (aj.refl _ _) (fun x hx=>.inl hx))⟩
theorem JW.xA (m:Option Nat) (x:Operand) {d:D} {j:Nat} (hx:aN f x=some d) [xz L d j] (h:JD P c ops m [j] n aH k f L f L):JW P c ops n aH k f L:=JW.iR _ _ h
end
end Fl
open Go.RowKit
namespace Fl
section
variable {P:Program} {ops:Array Oper} {Q:Exit→Act→World→Prop} {md:Region.Mode} {S:World→Prop}
def reach (md:Region.Mode) (ops:Array Oper) (aH:Array Bool):Nat→Nat→Nat→Bool
 | 0,m,i=>waitsFor md ops m i
 | n + 1,m,i=>waitsFor md ops m i || match ops[m]? with
  | none=>false
  | some o=>o.after.any (fun e=>Region.binds md e && !(aH.getD e.on false) && reach md ops aH n e.on i)
theorem Hu {aH:Array Bool} {m i:Nat} (hr:i∈Region.ready md ops aH) (hw:waitsFor md ops m i=true):m∉Region.ready md ops aH:=fun hm=>by
 obtain ⟨_,oj,ni,kA⟩:=mem_ready.1 hm;have pJ:=CY hr kA;unfold waitsFor at hw;rw [ni] at hw;obtain ⟨x,hx,hp⟩:=Array.any_eq_true'.1 hw;simp only [Bool.and_eq_true,beq_iff_eq] at hp;exact pJ x hx hp.2 hp.1
theorem Hv {aH:Array Bool} {i:Nat} (hr:i∈Region.ready md ops aH):∀ (n m:Nat),reach md ops aH n m i=true→m∉Region.ready md ops aH
 | 0,m,h=>Hu hr h
 | n + 1,m,h=>fun hm=>by
  unfold reach at h;rw [Bool.or_eq_true] at h;rcases h with h | h
  ·exact Hu hr h hm
  ·obtain ⟨_,oj,ni,kA⟩:=mem_ready.1 hm;rw [ni] at h;obtain ⟨x,hx,hp⟩:=Array.any_eq_true'.1 h;simp only [Bool.and_eq_true,Bool.not_eq_true'] at hp;have:=kA x hx hp.1.1;rw [hp.1.2] at this
   cases this
theorem Hw {aH:Array Bool} {i j:Nat} (hr:i∈Region.ready md ops aH) (hj:j∈Region.ready md ops aH):∀ (n m:Nat),reach md ops aH n m i=true→reach md ops (aH.setIfInBounds j true) n m i=true
 | 0,m,h=>h
 | n + 1,m,h=>by
  unfold reach at h ⊢;rw [Bool.or_eq_true] at h ⊢;rcases h with h | h
  ·exact .inl h
  ·refine .inr ?_
   cases ho:ops[m]? with
   | none=>rw [ho] at h;cases h
   | some o =>
    rw [ho] at h;obtain ⟨x,hx,hp⟩:=Array.any_eq_true'.1 h;simp only [Bool.and_eq_true,Bool.not_eq_true'] at hp;have br:j≠x.on:=fun e=>Hv hr n x.on hp.2 (e ▸ hj)
    refine Array.any_eq_true'.2 ⟨x,hx,?_⟩;simp only [Bool.and_eq_true,Bool.not_eq_true'];exact ⟨⟨hp.1.1,by rw [getD_set_ne false br];exact hp.1.2⟩,Hw hr hj n x.on hp.2⟩
def Dv (md:Region.Mode) (ops:Array Oper) (m:Option Nat) (aH:Array Bool) (i:Nat):Bool:=match m with
 | none=>true
 | some j=>reach md ops aH ops.size j i
theorem Gx.Hx {m:Option Nat} {i:Nat} {oi:Oper} {v:Value} (hi:ops[i]?=some oi) (tN:∀ (j:Nat) (o:Oper) cs b,ops[j]?=some o→o.op≠.select cs b) (hQ:∀ c a w,Q (.panic c) (a.put oi.dst v) w→Q (.panic c) a w) :
  ∀ (n:Nat) (aH:Array Bool) (a:Act) (w:World),Dv md ops m aH i=true→(∀ (j:Nat) oj,ops[j]?=some oj→j≠i→aH.getD j true=false→(∀ e∈oj.after,Region.binds md e=true→e.on≠i)→oi.apart ops oj=true) →
   i∈Region.ready md ops aH→YieldsIf P ops S oi v a→S w→Gx P md ops Q S m n (aH.setIfInBounds i true) (a.put oi.dst v) w→Gx P md ops Q S m (n + 1) aH a w
 | n,aH,a,w,hm,xm,hr,hy,hS,H=>by
  refine ⟨fun h=>(by rw [h] at hr;cases hr),fun j hj=>?_⟩
  by_cases lp:j=i
  ·subst lp;exact hy.wpOp hi hS (.inr ⟨hS,H⟩)
  ·cases n with
   | zero =>
    have:=ready_mono hj lp;rw [H.1] at this
    cases this
   | succ n =>
    obtain ⟨xo,oj,ni,kA⟩:=mem_ready.1 hj;have pJ:=CY hr kA;have mj:some j≠m:=fun e=>by
     subst e;exact Hv hr _ _ hm hj
    have cz:Dv md ops m (aH.setIfInBounds j true) i=true:=by
     cases m with
     | none=>rfl
     | some q=>exact Hw hr hj _ _ hm
    have h2:=wpOp_putIf ni (xm j oj ni lp xo pJ) (fun cs b=>tN i oi cs b hi) (fun cs b=>tN j oj cs b ni) hQ hy (H.2 j (ready_mono hj lp));have fS:i∈Region.ready md ops (aH.setIfInBounds j true):=ready_mono hr (Ne.symm lp);refine wpOp_mono (fun a' w' h3=>?_) h2;have Dh:=Array.setIfInBounds_comm (xs:=aH) true true lp;obtain ⟨h4,h5⟩:S w'∧_:=h3.2.resolve_left (fun h=>mj h.1);exact .inr ⟨h4,Gx.Hx hi tN hQ n (aH.setIfInBounds j true) a' w' cz (fun k ok hk Di xq pJ=>by
     refine xm k ok hk Di ?_ pJ
     by_cases xu:j=k
     ·subst xu;exact xo
     ·rw [getD_set_ne true xu] at xq;exact xq) fS h3.1 h4 (by rw [Dh];exact h5)⟩
end
def Hy (md:Region.Mode) (ops:Array Oper) (m:Option Nat) (aH:Array Bool) (i:Nat):Bool :=
 Region.noSelect ops && Region.free md ops aH i && (Region.ready md ops aH).contains i && Dv md ops m aH i
section
variable {P:Program} {c:Cx} {k:List Item} {f f0:Fm} {L L0:List ai} {ops:Array Oper} {n:Nat} {aH:Array Bool} {m:Option Nat} {T:List Nat} {o:Oper}
theorem JD.r8 (i:Nat) {t:Nat} {d:D} {U:List Nat} (hi:ops[i]?=some o) (hd:o.dst=some t) (hk:Hy .any ops m aH i=true) (hw:dJ ops o f0=true) (ht:t < c.N) (q:Qt P c U o f0 L0 d) (hu:(U.all fun j=>!T.contains j)=true) (h:JD P c ops m T n (aH.setIfInBounds i true) k ((t,d) :: f) L ((t,d) :: f0) L0):JD P c ops m T (n + 1) aH k f L f0 L0:=⟨fun a w w0 s s0 kp ho=>by
 obtain ⟨v,h1,h2⟩:=q.go a w0 s0;unfold Hy at hk;simp only [Bool.and_eq_true] at hk;obtain ⟨⟨⟨k1,k2⟩,k3⟩,k4⟩:=hk;have m1:Mon (bh c L0) (bh c L) w0 w:=Mon.kT kp fun g hg fX=>⟨⟨fX.1,fun hx=>by rcases ho g hx with h | h;exact fX.2 h;omega⟩,fun hm=>fX.2 (Ag hm)⟩
 have Dk:∀ w',aj (jD L0 T) w0 w'→qA L0 U w0 w':=fun w' tO=>⟨_,tO,fun x hx=>Ag hx,fun x hx j hj r hr qF=>by
  obtain ⟨i,hi,r2,fS,qD⟩:=xw.1 hx;have qH:j≠i:=fun e=>by
   subst e;have:=List.all_eq_true.1 hu j hj;simp [hi] at this
  exact fA.ne s0.ap hr fS qH x qF qD⟩
 refine Gx.Hx hi (Region.noSelect_spec k1) (fun c a w h=>by cases h.1) n aH a w k4 (Region.free_spec hi k2) (by simpa using k3) (v:=v) (.inl ⟨dJ.run hw s0,fun w' tO=>h2 w' (Dk w' tO)⟩) kp ?_;have:=h.go (a.put o.dst v) w w0 (by rw [hd];exact s.mq ht (RD.cK m1 _ _ h1)) (by rw [hd];exact s0.mq ht h1) kp ho;exact this⟩
end
end Fl
open Go.RowKit
namespace Fl
section
variable {P:Program} {c:Cx} {k:List Item} {f:Fm} {L:List ai} {ops:Array Oper} {n:Nat} {aH:Array Bool} {o:Oper}
structure JT (P:Program) (c:Cx) (ops:Array Oper) (n:Nat) (aH:Array Bool) (k:List Item) (f:Fm) (L:List ai) (i:Nat):Prop where
 go:∀ a w,St c f L a w→wpOp P ops (fun e a' w'=>e=.normal∧jU P c k a' w') i (fun a' w'=>wpAny P .any ops (fun e a' w'=>e=.normal∧jU P c k a' w') n (aH.setIfInBounds i true) a' w') a w
theorem JT.q {i t:Nat} {d:D} {U:List Nat} (hi:ops[i]?=some o) (hd:o.dst=some t) (hw:dJ ops o f=true) (ht:t < c.N) (q:Qt P c U o f L d) (h:JW P c ops n (aH.setIfInBounds i true) k ((t,d) :: f) L):JT P c ops n aH k f L i:=⟨fun a w s=>by
 obtain ⟨v,h1,h2⟩:=q.go a w s;refine wpOp_step hi (fun K hK=>?_);rw [dJ.run hw s,if_pos rfl];simp only [Oper.wp,h2 w (qA.now _ _ _),Oper.upon];exact hK _ _ (h.go _ w (by rw [hd];exact s.mq ht h1))⟩
theorem JT.ld {i:Nat} {ι:Type} {f':ι→Fm} {L':ι→List ai} {S:List Nat} (hi:ops[i]?=some o) (hw:dJ ops o f=true) (q:Ld P c o f L S f' L') (h:∀ x,JW P c ops n (aH.setIfInBounds i true) k (f' x) (L' x)):JT P c ops n aH k f L i:=⟨fun a w s=>by
 refine wpOp_step hi (fun K hK=>?_);rw [dJ.run hw s,if_pos rfl];exact q.go a w s K _ fun x v w' qI sx hf=>hK _ _ ((h x).go _ w' sx)⟩
theorem JW.bk {i:Nat} (hr:Region.ready .any ops aH=[i]) (h:JT P c ops n aH k f L i):JW P c ops (n + 1) aH k f L:=⟨fun a w s=>by
 refine ⟨fun h0=>(by rw [hr] at h0;cases h0),fun j hj=>?_⟩;rw [hr] at hj;simp at hj;subst hj;exact h.go a w s⟩
theorem JW.cB {i j:Nat} (hr:Region.ready .any ops aH=[i,j]) (h1:JT P c ops n aH k f L i) (h2:JT P c ops n aH k f L j):JW P c ops (n + 1) aH k f L:=⟨fun a w s=>by
 refine ⟨fun h0=>(by rw [hr] at h0;cases h0),fun j hj=>?_⟩;rw [hr] at hj;simp at hj;rcases hj with rfl | rfl
 ·exact h1.go a w s
 ·exact h2.go a w s⟩
variable {T:TypeId} {ps:String} {af:Array Edge} {gd:Option (Nat × Bool)} {t:Nat}
theorem Ld.O6 {F:FuncId} {args:List Operand} {tys:Array TypeId} {cZ ds:List D} {ι:Type} {dd:ι→D} {M:ι→List ai} {Ll:List ai} (Lr:List ai) (L':ι→List ai) [i:aG P F] (hC:aq P F ds Ll (fun x=>(dd x,M x))) (hL:(Ll ++ Lr).Perm L) (r9:∀ x,(L' x).Perm (M x ++ Lr)) (ht:t < c.N) (h:iq f args=some cZ) (hle:aL cZ ds) :
  Ld P c ⟨some t,.call ⟨.value (.func F),args.toArray,tys⟩,T,ps,af,gd⟩ f L (aO Ll) (fun x=>(t,dd x) :: f) L':=⟨fun a w s K Q hK=>by
 have h1:=Ld.call (P:=P) (c:=c) (T:=T) (ps:=ps) (af:=af) (gd:=gd) (L:=Ll ++ Lr) (f:=f) (tys:=tys) hC ht h hle (Ll:=Ll) (Lr:=Lr) rfl;refine h1.go a w (s.perm hL) K Q fun x v w' kp sx hf=>?_
 refine hK x v w' kp (sx.perm (r9 x)) fun y hy=>?_
 rcases hf y ((qL (r9 x) y).1 hy) with h | h
 ·exact .inl ((qL hL y).1 h)
 ·exact .inr h⟩
end
end Fl
open Go.RowKit
namespace Fl
theorem RX.rep {ok:Nat→Prop} {w:World} {zs:List Value} (h:zs.all (·.oneCell')=true):∀ n:Nat,RX ok w zs.length (List.replicate n (vs zs)) ((List.replicate n ()).flatMap fun _=>zs)
 | 0=>rfl
 | n + 1=>⟨zs,(List.replicate n ()).flatMap fun _=>zs,by rw [List.replicate_succ,List.flatMap_cons],rfl,RC.vs h,RX.rep h n⟩
section
variable {P:Program} {c:Cx} {k:List Item} {f:Fm} {L:List ai} {T X:TypeId} {ps:String} {af:Array Edge} {gd:Option (Nat × Bool)} {t:Nat}
theorem Ld.make {e sz bytes:Nat} {z:Value} {zs:List Value} [E:gB P X e sz bytes z] [Z:aQ P e zs] {x y:Operand} {kl kc:IntKind} {N:Int} (n:Nat) (ht:t < c.N) (hx:aN f x=some (.c (.v (.int kl N)))) (hy:aN f y=some (.c (.v (.int kc N)))) (hN:N=(n:Int)) (hb:n * bytes≤281474976710656) :
  Ld P c ⟨some t,.makeSlice X x y,T,ps,af,gd⟩ f L [] (fun b:Nat=>(t,.c (.v (.slice (some ⟨b,0,none⟩) n n))) :: f) (fun b=>.row (.slice (some ⟨b,0,none⟩) n n) e sz (List.replicate n (vs zs)) :: L):=⟨fun a w s K Q hK=>by
 subst hN;obtain ⟨hu,jj,hz,pE,oA⟩:=E.h;obtain ⟨i,hi,dI,dA,gP⟩:=info_parts jj;have zW:n≤281474976710656:=Nat.le_trans (Nat.le_mul_of_pos_right _ oA) hb;have rx:=s.val hx;have ry:=s.val hy;obtain ⟨w',fI,r1,r2⟩:=run_make_full (P:=P) w 0 X e i z sz hu hi dI dA kl kc n (by rw [gP,Nat.mul_comm];exact hb) (by simp only [maxLen];omega) (Nat.zero_le _);have hk:aj [] w w':=(aj.refl [] w).grown r2 (by simp);have hr:=(Row.zS r1).1;have wR:z.cells.toList=zs:=by
  have h1:=Z.h;unfold pH at h1;rw [hi] at h1;simpa [dI] using h1
 have hl:zs.length=sz:=by rw [← wR];simpa using hz
 have iu:(ai.row (.slice (some ⟨w.heap.size,0,none⟩) n n) e sz (List.replicate n (vs zs))).holds (bh c (.row (.slice (some ⟨w.heap.size,0,none⟩) n n) e sz (List.replicate n (vs zs)) :: L)) w':=by
  refine ⟨(List.replicate n ()).flatMap fun _=>zs,?_,?_⟩
  ·rw [List.length_replicate,← GU (f:=fun _=>zs) (fun _=>hl) (x0:=()) wR pE n];exact hr
  ·subst hl;exact RX.rep Z.o n
 have hf:∀ y∈(ai.row (.slice (some ⟨w.heap.size,0,none⟩) n n) e sz (List.replicate n (vs zs))).bM,w.heap.size≤y:=by simp [ai.bM,cW]
 unfold Oper.wp;simp only [execOp,rx,ry,fI,Result.andThen,Sem.run_bind];exact hK w.heap.size _ _ hk (s.new ht hk hf iu (by unfold RD RA;exact ⟨rfl,rfl⟩)) (tJ hf)⟩
theorem Ld.O7 {e sz bytes:Nat} {z:Value} [E:gB P X e sz bytes z] {x y:Operand} {kl kc:IntKind} {N:Int} (n:Nat) (ht:t < c.N) (hx:aN f x=some (.c (.v (.int kl 0)))) (hy:aN f y=some (.c (.v (.int kc N)))) (hN:N=(n:Int)) (hb:n * bytes≤281474976710656) :
  Ld P c ⟨some t,.makeSlice X x y,T,ps,af,gd⟩ f L [] (fun b:Nat=>(t,.c (.v (.slice (some ⟨b,0,none⟩) 0 n))) :: f) (fun b=>.row (.slice (some ⟨b,0,none⟩) 0 n) e sz [] :: L):=⟨fun a w s K Q hK=>by
 subst hN;obtain ⟨hu,jj,hz,pE,oA⟩:=E.h;obtain ⟨i,hi,dI,dA,gP⟩:=info_parts jj;have zW:n≤281474976710656:=Nat.le_trans (Nat.le_mul_of_pos_right _ oA) hb;have rx:=s.val hx;have ry:=s.val hy;obtain ⟨w',fI,r1,r2⟩:=run_make_own (P:=P) w 0 X e i z sz hu hi dI dA kl kc n (by rw [gP,Nat.mul_comm];exact hb) (by simp only [maxLen];omega) (Nat.zero_le _);have hk:aj [] w w':=(aj.refl [] w).grown r2 (by simp);have hr:=(Row.zS r1).1;have iu:(ai.row (.slice (some ⟨w.heap.size,0,none⟩) 0 n) e sz []).holds (bh c (.row (.slice (some ⟨w.heap.size,0,none⟩) 0 n) e sz [] :: L)) w':=⟨[],hr,rfl⟩
 have hf:∀ y∈(ai.row (.slice (some ⟨w.heap.size,0,none⟩) 0 n) e sz []).bM,w.heap.size≤y:=by simp [ai.bM,cW]
 unfold Oper.wp;simp only [execOp,rx,ry,fI,Result.andThen,Sem.run_bind];exact hK w.heap.size _ _ hk (s.new ht hk hf iu (by unfold RD RA;exact ⟨rfl,rfl⟩)) (tJ hf)⟩
theorem Ld.copy {e bytes:Nat} {z:Value} [E:gB P X e 1 bytes z] {x y:Operand} {v:Value} {l1 l2:List (List A)} {i:Nat} {L':List ai} [bx:gz L v e 1 l1 i] [st:kW L i (.row v e 1 l2) L'] (ht:t < c.N) (hx:aN f x=some (.c (.v v))) (hy:aN f y=some (.c (.r 1 l2))) (hn:l1.length=l2.length) :
  Ld P c ⟨some t,.call ⟨.builtin .copy,#[x,y],#[X,X]⟩,T,ps,af,gd⟩ f L (cW v) (fun _:Unit=>(t,.c (.v (.int .i64 l2.length))) :: f) (fun _=>L'):=⟨fun a w s K Q hK=>by
 obtain ⟨hu,jj,hz,pE,oA⟩:=E.h;obtain ⟨ti,hi,dI,dA,gP⟩:=info_parts jj;have jR:(P.info? e).map (·.size)=some 1:=by rw [hi];simp [dA]
 have rx:=s.val hx;have ry:=s.ev hy;unfold RD at ry;obtain ⟨ys,S,v1,v2,v3⟩:=ry.view;obtain ⟨xs,⟨hl,ao,cap,rfl,oz,jB,h4⟩,q2⟩:=s.res _ (List.mem_of_getElem? bx.h);obtain ⟨kS,bo,oB,Dw,GJ,GK,wL⟩:=v1;have nr:∀ u∈ys,u.oneCell'=true:=v2.one;have fI:∃ w',(execOp a.eval ⟨some t,.call ⟨.builtin .copy,#[x,y],#[X,X]⟩,T,ps,af,gd⟩).run P w=.ok (.value (.int .i64 l2.length)) w'∧aj (cW (.slice ao l1.length cap)) w w'∧Row w' (.slice ao l1.length cap) e 1 l1.length ys (cW (.slice ao l1.length cap)):=by
  by_cases h0:l2.length=0
  ·refine ⟨w,?_,aj.refl _ _,?_⟩
   ·have hr:=run_copy_none (P:=P) w X X T e ao bo l1.length cap l2.length oB hu jR (by rw [hn,h0];rfl);rw [h0] at hr Dw ⊢;simp [execOp,resolve,invoke,builtin,rx,Dw,hr,Sem.run_bind,goInt]
   ·have e1:ys=[]:=List.eq_nil_of_length_eq_zero (by rw [kS,h0]);have e2:xs=[]:=List.eq_nil_of_length_eq_zero (by rw [hl,hn,h0]);rw [e1,← e2];exact ⟨hl,ao,cap,rfl,oz,jB,h4⟩
  ·rcases h4 with ⟨_,h,_⟩ | ⟨g,off,cur,rfl,hS,hb,zU,hc⟩
   ·omega
   ·rcases wL with ⟨h,_⟩ | ⟨ug,wM,rfl,_,GL,wN⟩
    ·omega
    ·have hr:=run_copy_row (P:=P) w X X T e g off l1.length cap ⟨ug,wM,none⟩ l2.length oB cur.toArray e ys hu jR hb (by rw [kS,hn];simp) (fun j y hj=>by
      rw [Addr.add_lit,wN j (List.getElem?_eq_some_iff.1 hj).1];exact hj) (by rw [kS,List.size_toArray];omega) nr
     refine ⟨_,?_,(aj.refl _ w).setRow (g:=g) (.inl (by simp [cW])) (cur.toArray.toList.take off ++ ys ++ cur.toArray.toList.drop (off + ys.length)).toArray,?_⟩
     ·simp only [execOp,resolve,invoke,builtin,Sem.run_bind];simp [rx,Dw,hr,kS,goInt,Sem.run_bind]
     ·refine ⟨by rw [kS,hn],_,_,rfl,oz,jB,.inr ⟨g,off,_,rfl,hS,setRow_heap w g cur.toArray _ e _ hb,?_,?_⟩⟩
      ·simp only [List.length_append,List.length_take,List.length_drop,kS];omega
      ·intro j hj;have qt:(cur.take off).length=off:=by rw [List.length_take];omega
       rw [List.append_assoc,List.getElem?_append_right (by rw [qt];omega),qt,show off + j - off=j by omega,List.getElem?_append_left hj]
 obtain ⟨w',fI,hk,iu⟩:=fI;unfold Oper.wp;rw [fI];have m:Mon (bh c L) (bh c L) w w':=Mon.kT hk fun g hg ho=>⟨ho,fun hm=>ho.2 (c9.2 ⟨_,List.mem_of_getElem? bx.h,hm⟩)⟩
 have hh:(ai.row (.slice ao l1.length cap) e 1 l2).holds (bh c L) w':=⟨ys,by rw [← hn];exact iu,RX.cK m _ _ v2⟩
 have s2:=s.set bx.h (r':=.row (.slice ao l1.length cap) e 1 l2) rfl hk hh;rw [st.h] at s2;refine hK () _ w' hk (s2.mq ht (by unfold RD RA;exact ⟨rfl,rfl⟩)) fun y hy=>?_
 rw [← st.h] at hy;exact .inl ((xe bx.h (r':=.row (.slice ao l1.length cap) e 1 l2) rfl y).1 hy)⟩
theorem Ld.nt {e sz:Nat} {x:Operand} {d:D} {cs:List A} {zs:List Value} [i:eY P X e sz] [z:aQ P e zs] (ht:t < c.N) (h:aN f x=some d) (hc:gD d=some cs) (hn:cs.length=sz) (h0:Nat.ble 1 sz=true) (hs:Nat.ble sz 1000=true) :
  Ld P c ⟨some t,.buildSlice X 1 #[(0,x)],T,ps,af,gd⟩ f L [] (fun _:Unit=>(t,.c (.r sz [cs])) :: f) (fun _=>L):=⟨fun a w s K Q hK =>
 (Ld.ff (P:=P) (c:=c) (T:=T) (ps:=ps) (af:=af) (gd:=gd) (f:=f) (L:=L) (e:=e) (sz:=sz) (zs:=zs) (X:=X) (t:=t) ht h hc hn h0 hs).go a w s K Q fun b u w' k' s' hf=>hK () u w' k' s'.freeze fun y hy=>hf y ((jY _ _ _).2 (.inr hy))⟩
theorem Ld.O8 {e sz:Nat} [i:eY P X e sz] (ht:t < c.N):Ld P c ⟨some t,.buildSlice X 0 #[],T,ps,af,gd⟩ f L [] (fun _:Unit=>(t,.c (.r sz [])) :: f) (fun _=>L):=⟨fun a w s K Q hK =>
 (Ld.gL (P:=P) (c:=c) (T:=T) (ps:=ps) (af:=af) (gd:=gd) (f:=f) (L:=L) (e:=e) (sz:=sz) (X:=X) (t:=t) ht).go a w s K Q fun b u w' k' s' hf=>hK () u w' k' s'.freeze fun y hy=>hf y ((jY _ _ _).2 (.inr hy))⟩
theorem Qt.min {x y:Operand} {tys:Array TypeId} {k1:IntKind} {m n r:Int} (h:aN f x=some (.c (.v (.int k1 m)))) (hy:aN f y=some (.c (.v (.int k1 n)))) (hr:(if n < m then n else m)=r):Qt P c [] ⟨t,.call ⟨.builtin .min,#[x,y],tys⟩,T,ps,af,gd⟩ f L (.c (.v (.int k1 r))):=⟨fun a w s=>by
 have rx:=s.val h;have ry:=s.val hy;subst hr;refine ⟨_,by unfold RD RA;exact ⟨rfl,rfl⟩,fun w' k=>?_⟩;simp only [execOp,resolve,invoke,builtin,Sem.run_bind];simp [rx,ry,Builtin.min_,Builtin.min2,Sem.run_bind]⟩
end
end Fl
namespace Pn
structure Cs where
 send:Bool
 ch:Int
 v:Int
structure Op where
 kind:Int
 ch:Int
 n:Int
 v:Int
 cases:List Cs
 de:Bool
theorem Cs.ext {a b:Cs} (h1:a.send=b.send) (h2:a.ch=b.ch) (h3:a.v=b.v):a=b:=by cases a;cases b;simp_all
theorem Op.ext {a b:Op} (h1:a.kind=b.kind) (h2:a.ch=b.ch) (h3:a.n=b.n) (h4:a.v=b.v) (h5:a.cases=b.cases) (h6:a.de=b.de):a=b:=by cases a;cases b;simp_all
instance:DecidableEq Cs:=fun a b=>decidable_of_iff (a.send=b.send∧a.ch=b.ch∧a.v=b.v) ⟨fun ⟨h1,h2,h3⟩=>Cs.ext h1 h2 h3,fun h=>by subst h;simp⟩
instance:DecidableEq Op:=fun a b=>decidable_of_iff (a.kind=b.kind∧a.ch=b.ch∧a.n=b.n∧a.v=b.v∧a.cases=b.cases∧a.de=b.de) ⟨fun ⟨h1,h2,h3,h4,h5,h6⟩=>Op.ext h1 h2 h3 h4 h5 h6,fun h=>by subst h;simp⟩
instance:Inhabited Cs:=⟨⟨false,0,0⟩⟩
instance:Inhabited Op:=⟨⟨0,0,0,0,[],false⟩⟩
def gj (k:Int):Bool:=decide (2≤k) && decide (k≤8)
def gq (k:Int):Bool:=(k == 2) || (k == 4)
def kC (c:Cs):Bool:=decide (0≤c.ch∧c.ch≤8∧0≤c.v∧c.v≤255∧(c.send=false→c.v=0))
def c7 (o:Op):Bool:=decide (1≤o.kind∧o.kind≤9∧0≤o.ch∧o.ch≤8∧0≤o.n∧o.n≤4∧0≤o.v∧o.v≤255∧o.cases.length≤6 ∧
 (gj o.kind=false→o.ch=0)∧(gq o.kind=false→o.v=0)∧(o.kind≠1→o.n=0)∧(o.kind≠9→o.cases=[]∧o.de=false)∧∀ c∈o.cases,kC c=true)
def kD (l:List Op):Bool:=decide (l.length≤16∧∀ o∈l,c7 o=true)
def right (p:List (List Op)):Bool:=decide (1≤p.length∧p.length≤8∧∀ l∈p,kD l=true)
section
variable {α:Type} {f:Nat→α × Nat}
end
end Pn
namespace Md
structure Ch where
 cap:Int
 buf:List Int
 closed:Bool
structure St where
 an:List Ch
 waits:Int→Option Pn.Op
structure Sd where
 ch:Int
 send:Bool
 v:Int
structure ai where
 code:Int
 cs:Int
 v:Int
 ok:Bool
 n:Int
end Md
namespace Sx
structure Gr where
 ops:List Pn.Op
 at_:Int
 place:Int
 status:Int
 token:Bool
 call:Int
 aX:Bool
 param:Int
 aK:Int
 hold:Int
 t:Int
 jn:Int
 bG:Int
 wi:Int
 dh:Int
 res:Md.ai
 order:List Int
 aC:List Int
 ak:List Int
 ah:List Int
 k:Int
structure Cn where
 cap:Int
 buf:List Int
 closed:Bool
 lock:Int
 recv:List Int
 send:List Int
structure Su where
 live:Bool
 g:Int
 ch:Int
 cs:Int
 send:Bool
 v:Int
 done:Bool
structure Mk where
 g:Int
 op:Int
 call:Int
 jn:Int
 bG:Int
 wi:Int
 dh:Int
 re:Int
 res:Md.ai
structure St where
 dB:Int
 bN:Int
 step:Int
 gs:List Gr
 an:List Cn
 aB:List Su
 cache:List (List Int)
 middle:List Int
 fresh:Int
 cL:List Int
 drawn:Int
 done:List Mk
def O9:Md.ai:=⟨0,-1,0,false,0⟩
def clean (ops:List Pn.Op) (a:Int):Gr:=⟨ops,a,0,0,false,0,false,-1,-1,-1,0,0,0,-1,-1,O9,[],[],[],[],0⟩
def eI:Su:=⟨false,0,0,0,false,0,false⟩
def sj:St:=⟨0,0,0,[],[],[],[],[],0,[],0,[]⟩
def can (s g c:Int):Bool:=decide (0≤s∧s≤64∧0≤g∧g≤8∧1≤c∧c≤16)
def start (p:List (List Pn.Op)) (s c:Int) (d:List Int):St:=⟨s,c,0,p.map (clean · 0),[],List.replicate s.toNat eI,p.map (fun _=>[]),[],0,d,0,[]⟩
def new (p:List (List Pn.Op)) (s c:Int) (d:List Int):St × Int :=
 if Pn.right p=false then (sj,3) else if can s p.length c=false then (sj,1) else (start p s c d,0)
end Sx
open Go.RowKit
def fA (L:List (List Nat)):Prop:=L.Pairwise fun A B=>∀ x∈A,x∉B
def BR (w:World) (v:Value) (l:List Bool) (S:List Nat):Prop:=Row w v 4 1 l.length (l.map Value.bool) S
section
variable {w w':World} {v:Value} {l:List Bool} {S T:List Nat}
theorem BR.aT (h:BR w v l S) (k:aj T w w') (hn:∀ x∈S,x∉T):BR w' v l S:=Row.aT h k hn
theorem BR.lt (h:BR w v l S):∀ k∈S,k < w.heap.size:=Row.lt h
theorem BR.le (h:BR w v l S):l.length≤maxLen:=Row.le h
theorem BR.shape (h:BR w v l S):∃ ao cap,v=.slice ao l.length cap:=Row.shape h
theorem BR.cells {ao:Option Addr} {m cap:Nat} (h:BR w (.slice ao m cap) l S) {k:Nat} {t:Bool} (hk:l[k]?=some t) :
  ∃ g off,ao=some ⟨g,off,none⟩∧S=[g]∧g < w.heap.size∧w.cell? ⟨g,off + k,none⟩=some (.bool t)∧w.frozen? ⟨g,off + k,none⟩=false:=by
 have fR:=(List.getElem?_eq_some_iff.1 hk).1;obtain ⟨g,off,h1,h2,h3,h4,h5⟩:=Row.cells h (by omega);exact ⟨g,off,h1,h2,h3,by rw [h4 k (by simpa using fR)];simp [hk],h5 k⟩
theorem BR.stored {g off m cap:Nat} (h:BR w (.slice (some ⟨g,off,none⟩) m cap) l S) (j:Nat) (hj:j < l.length) (t:Bool) :
  BR (w.setCell ⟨g,off + j,none⟩ (.bool t)) (.slice (some ⟨g,off,none⟩) m cap) (l.set j t) S∧aj S w (w.setCell ⟨g,off + j,none⟩ (.bool t)):=by
 have:=Row.stored h j (by simpa using hj) (.bool t);refine ⟨?_,this.2⟩;unfold BR;simpa using this.1
end
def Pl (w:World) (p:Value) (size most:Int) (C:List (List Int)) (M:List Int) (f:Int) (H:List Bool) (S:List Nat):Prop :=
 ∃ b vc vm vh T Us Tm Th,p=.pointer (some ⟨b,0,none⟩)∧cI w b [.int .i64 size,.int .i64 most,vc,vm,.int .i64 f,vh] 155 ∧
  NR w vc 28 3 C T Us∧IR w vm 3 M Tm∧BR w vh H Th∧fA [[b],T,Us.flatten,Tm,Th]∧S=b :: (T ++ Us.flatten ++ Tm ++ Th)
section
variable {w w':World} {p:Value} {size most f:Int} {C:List (List Int)} {M:List Int} {H:List Bool} {S T:List Nat}
theorem Pl.aT (h:Pl w p size most C M f H S) (k:aj T w w') (hn:∀ x∈S,x∉T):Pl w' p size most C M f H S:=by
 obtain ⟨b,vc,vm,vh,T1,Us,Tm,Th,rfl,hb,hc,hm,hh,ha,rfl⟩:=h;exact ⟨b,vc,vm,vh,T1,Us,Tm,Th,rfl,hb.aT k (hn b (by simp)),hc.aT k (fun x hx=>hn x (by simp [hx])) (fun U hU x hx=>hn x (by simp;right;right;left;exact ⟨U,hU,hx⟩)),
  hm.aT k (fun x hx=>hn x (by simp [hx])),hh.aT k (fun x hx=>hn x (by simp [hx])),ha,rfl⟩
theorem Pl.then (h:Pl w p size most C M f H S) (k:aj [] w w'):Pl w' p size most C M f H S:=h.aT k (by simp)
theorem Pl.shape (h:Pl w p size most C M f H S):∃ b,p=.pointer (some ⟨b,0,none⟩):=by
 obtain ⟨b,vc,vm,vh,T1,Us,Tm,Th,rfl,_⟩:=h;exact ⟨b,rfl⟩
theorem Pl.lt (h:Pl w p size most C M f H S):∀ k∈S,k < w.heap.size:=by
 obtain ⟨b,vc,vm,vh,T1,Us,Tm,Th,rfl,hb,hc,hm,hh,ha,rfl⟩:=h;intro k hk;simp only [List.mem_cons,List.mem_append,List.mem_flatten] at hk;rcases hk with rfl | ((hk | ⟨U,hU,hk⟩) | hk) | hk
 ·exact hb.lt
 ·exact hc.lt.1 k hk
 ·exact hc.lt.2 U hU k hk
 ·exact hm.lt k hk
 ·exact hh.lt k hk
end
namespace Po
def mB (C:List (List Int)) (g:Int):Bool:=decide (0≤g) && decide (g < C.length)
def live (f:Int) (H:List Bool) (x:Int):Bool:=decide (0≤x) && decide (x < f) && !(H.getD x.toNat false)
end Po
theorem xC (w:World) (p:Value) (size most f:Int) (C:List (List Int)) (M:List Int) (H:List Bool) (S:List Nat) (g:Int) (h:Pl w p size most C M f H S) :
  Calls Tryz.prog 131 #[p,.int .i64 g] w fun e w'=>e=.returned (.bool (Po.mB C g))∧w=w':=by
 obtain ⟨b,vc,vm,vh,T1,Us,Tm,Th,rfl,hb,hc,hm,hh,ha,rfl⟩:=h;have hle:=hc.le;unfold maxLen at hle;obtain ⟨ao,cap,rfl⟩:=hc.shape;have c2:w.cell? ⟨b,2,none⟩=some (.slice ao C.length cap):=hb.cell 2;clear hb hc hm hh ha
 cases h1:decide (0≤g) with
 | true =>
  go_enter Tryz.func131,Tryz.ntmps131
  go_wp2
  go_ret
  exact ⟨cS (by simp [Po.mB,h1]),rfl⟩
 | false =>
  go_enter Tryz.func131,Tryz.ntmps131
  go_wp2
  go_ret
  exact ⟨cS (by simp [Po.mB,h1]),rfl⟩
theorem Pa (w:World) (p:Value) (size most f:Int) (C:List (List Int)) (M:List Int) (H:List Bool) (S:List Nat) (h:Pl w p size most C M f H S) :
  Calls Tryz.prog 61 #[p] w fun e w'=>e=.returned (.int .i64 f)∧w=w':=by
 obtain ⟨b,vc,vm,vh,T1,Us,Tm,Th,rfl,hb,hc,hm,hh,ha,rfl⟩:=h;have c4:w.cell? ⟨b,4,none⟩=some (.int .i64 f):=hb.cell 4;clear hb hc hm hh ha
 go_enter Tryz.func61,Tryz.ntmps61
 go_wp2
 go_ret
 exact ⟨rfl,rfl⟩
theorem Dx (w:World) (p:Value) (size most f:Int) (C:List (List Int)) (M:List Int) (H:List Bool) (S:List Nat) (x:Int) (h:Pl w p size most C M f H S) (hf:f≤H.length) :
  Calls Tryz.prog 135 #[p,.int .i64 x] w fun e w'=>e=.returned (.bool (Po.live f H x))∧w=w':=by
 obtain ⟨b,vc,vm,vh,T1,Us,Tm,Th,rfl,hb,hc,hm,hh,ha,rfl⟩:=h;have hle:=hh.le;unfold maxLen at hle;obtain ⟨ao,cap,rfl⟩:=hh.shape;have c4:w.cell? ⟨b,4,none⟩=some (.int .i64 f):=hb.cell 4;have c5:w.cell? ⟨b,5,none⟩=some (.slice ao H.length cap):=hb.cell 5
 by_cases h1:0≤x
 ·by_cases h2:x < f
  ·obtain ⟨n,rfl⟩:=Int.eq_ofNat_of_zero_le h1;have hn:n < H.length:=by omega
   obtain ⟨g,off,rfl,rfl,hg,c6,_⟩:=hh.cells (List.getElem?_eq_getElem hn);have HF:Hid (Po.live f H n=!(H[n])):=Lib.hid (by simp [Po.live,h2,List.getD,hn]);clear hb hc hm hh ha;generalize H[n]=t at *
   go_enter Tryz.func135,Tryz.ntmps135
   go_wp2_with fail
   go_ret
   exact ⟨cS HF.out.symm,rfl⟩
  ·have HF:Hid (Po.live f H x=false):=Lib.hid (by simp [Po.live,h2]);clear hb hc hm hh ha
   go_enter Tryz.func135,Tryz.ntmps135
   go_wp2_with fail
   go_ret
   exact ⟨cS HF.out.symm,rfl⟩
 ·have HF:Hid (Po.live f H x=false):=Lib.hid (by simp [Po.live,h1]);clear hb hc hm hh ha
  go_enter Tryz.func135,Tryz.ntmps135
  go_wp2_with fail
  go_ret
  exact ⟨cS HF.out.symm,rfl⟩
open Go.RowKit
theorem sk:jP Tryz.prog 28 3 1 8 (.int .i64 0):=⟨Tryz.underlying28,by kernel_rfl,rfl,by decide,by decide⟩
def Dy (r:List Int) (w:World) (e:Ending) (w':World):Prop :=
 ∃ v S,e=.returned v∧aj [] w w'∧IV w' v r S∧∀ k∈S,w.heap.size≤k
theorem Pb (w:World) (p:Value) (size most f:Int) (C:List (List Int)) (M:List Int) (H:List Bool) (S:List Nat) (h:Pl w p size most C M f H S) (hM:M.length≤1000) :
  Calls Tryz.prog 60 #[p] w (Dy M w):=by
 obtain ⟨b,vc,vm,vh,T1,Us,Tm,Th,rfl,hb,hc,hm,hh,ha,rfl⟩:=h;obtain ⟨ao,cap,rfl⟩:=hm.shape;have c3:w.cell? ⟨b,3,none⟩=some (.slice ao M.length cap):=hb.cell 3;have HM:=Lib.hid hm;have HB:=Lib.hid hM;clear hb hc hm hh ha hM
 go_enter Tryz.func60,Tryz.ntmps60
 go_wp2_with (at_builtin;go_must (refine Cz sk (IR.nil w 3) HM.out.iv (by have:=HB.out;simp;omega) ?_))
 intro Pc Pd w1 S1 r1 k1 s1;have R1:=Lib.hid r1;have K1:=Lib.hid k1;have T1:=Lib.hid s1;clear r1 k1 s1
 go_wp2_with fail
 go_ret
 exact ⟨_,S1,rfl,K1.out,by simpa using R1.out.iv,T1.out⟩
namespace Po
def cache (C:List (List Int)) (g:Int):List Int:=if mB C g then C.getD g.toNat [] else []
end Po
theorem Pe (w:World) (p:Value) (size most f:Int) (C:List (List Int)) (M:List Int) (H:List Bool) (S:List Nat) (g:Int) (h:Pl w p size most C M f H S) (hC:∀ l∈C,l.length≤1000) :
  Calls Tryz.prog 65 #[p,.int .i64 g] w (Dy (Po.cache C g) w):=by
 have HP:=Lib.hid h;obtain ⟨b,vc,vm,vh,T1,Us,Tm,Th,rfl,hb,hc,hm,hh,ha,rfl⟩:=h
 cases h1:Po.mB C g with
 | true =>
  have h2:=h1;simp only [Po.mB,Bool.and_eq_true,decide_eq_true_eq] at h2;obtain ⟨n,rfl⟩:=Int.eq_ofNat_of_zero_le h2.1;have hn:n < C.length:=by omega
  have hle:=hc.le;unfold maxLen at hle;obtain ⟨ao,cap,rfl⟩:=hc.shape;have hk:=List.getElem?_eq_getElem hn;have HF:Hid (Po.cache C n=C[n]):=Lib.hid (by simp [Po.cache,h1,List.getD,hn]);have hl:=hC _ (List.getElem_mem hn);obtain ⟨g2,off,x,U,rfl,rfl,hg,c6,_,hr,hU,_⟩:=hc.get hk;have c2:w.cell? ⟨b,2,none⟩=some (.slice (some ⟨g2,off,none⟩) C.length cap):=hb.cell 2;generalize C[n]=l at *;obtain ⟨Pf,Pg,rfl⟩:=hr.shape;have HR:=Lib.hid hr;have HL:=Lib.hid hl;clear hb hc hm hh ha hC hr hl hk hU h2
  go_enter Tryz.func65,Tryz.ntmps65
  go_wp2_with fail
  refine (xC _ _ _ _ _ _ _ _ _ _ HP.out).mono ?_
  rintro e w1 ⟨rfl,rfl⟩
  rw [h1]
  go_wp2_with (at_builtin;go_must (refine Cz sk (IR.nil w 3) HR.out.iv (by have:=HL.out;simp;omega) ?_))
  intro Pc Pd w1 S1 r1 k1 s1;have R1:=Lib.hid r1;have K1:=Lib.hid k1;have T1:=Lib.hid s1;clear r1 k1 s1
  go_wp2_with fail
  go_ret
  exact ⟨_,S1,rfl,K1.out,by rw [HF.out];simpa using R1.out.iv,T1.out⟩
 | false =>
  have HF:Hid (Po.cache C g=[]):=Lib.hid (by simp [Po.cache,h1]);clear hb hc hm hh ha hC
  go_enter Tryz.func65,Tryz.ntmps65
  go_wp2_with fail
  refine (xC _ _ _ _ _ _ _ _ _ _ HP.out).mono ?_
  rintro e w1 ⟨rfl,rfl⟩
  rw [h1]
  go_wp2_with fail
  go_ret
  exact ⟨_,[],rfl,aj.refl _ _,by rw [HF.out];exact IV.nil _,by simp⟩
namespace Po
def outs (H:List Bool) (k:Nat):Nat:=((H.take k).filter (fun t=>!t)).length
theorem Ph (H:List Bool) (k:Nat) (t:Bool) (h:H[k]?=some t):outs H (k + 1)=outs H k + (if t then 0 else 1):=by
 obtain ⟨hk,rfl⟩:=List.getElem?_eq_some_iff.1 h;unfold outs;rw [List.take_succ_eq_append_getElem hk,List.filter_append,List.length_append]
 cases H[k] <;> simp
end Po
namespace Po
structure St where
 C:List (List Int)
 M:List Int
 f:Nat
 H:List Bool
def room (most:Nat):Nat:=max 1 (most / 2)
def qM (most:Nat) (c M:List Int):Nat:=if c=[] then min (room most) M.length else 0
def own (most:Nat) (c M:List Int):List Int:=c ++ M.reverse.take (qM most c M)
def aW (most:Nat) (c M:List Int):List Int:=M.take (M.length - qM most c M)
def vi (s:St) (g:Nat) (o m:List Int):St:=⟨s.C.set g o.dropLast,m,s.f,s.H.set (o.getLastD 0).toNat false⟩
def dS (most:Nat) (c:List Int):Nat:=if c.length=most then c.length - most / 2 else 0
def pM (most:Nat) (s:St) (g:Nat) (c:List Int) (x:Int):St:=⟨s.C.set g (c.take (c.length - dS most c) ++ [x]),s.M ++ c.reverse.take (dS most c),s.f,s.H.set x.toNat true⟩
def bR (most:Nat) (s:St) (g x:Int):St × Bool :=
 if mB s.C g && live s.f s.H x then (pM most s g.toNat (s.C.getD g.toNat []) x,true) else (s,false)
def dN (s:St) (a:Int):Nat:=s.M.count a + s.C.flatten.count a
structure Inv (size most:Nat) (s:St):Prop where
 m1:1≤most
 m2:most≤16
 s1:size≤64
 hl:s.H.length=size
 fl:s.f≤size
 one:∀ a,dN s a≤1
 bound:∀ a,1≤dN s a→0≤a∧a < s.f
 home:∀ x:Nat,x < size→s.H.getD x false=decide (1≤dN s (x:Int))
 qN:∀ c∈s.C,c.length≤most
theorem count_set {α:Type} [BEq α] [LawfulBEq α] (a:α):∀ (C:List (List α)) (g:Nat) (c c':List α),C[g]?=some c→(C.set g c').flatten.count a + c.count a=C.flatten.count a + c'.count a
 | [],g,c,c',h=>by simp at h
 | y :: r,0,c,c',h=>by
  simp at h;subst h;simp [List.count_append];omega
 | y :: r,g + 1,c,c',h=>by
  have:=count_set a r g c c' (by simpa using h);simp [List.count_append];omega
theorem Hz {α:Type} [BEq α] [LawfulBEq α] (a:α) (l:List α) (k:Nat):(l.take k).count a + (l.drop k).count a=l.count a:=by
 rw [← List.count_append,List.take_append_drop]
theorem HW (M:List Int) (n:Nat):M.reverse.take n=(M.drop (M.length - n)).reverse:=by
 rw [List.take_reverse]
theorem Pj (most:Nat) (c M:List Int) (a:Int):(own most c M).count a + (aW most c M).count a=c.count a + M.count a:=by
 unfold own aW;rw [HW,List.count_append,List.count_reverse];have:=Hz a M (M.length - qM most c M);omega
theorem HY {most:Nat} (h1:1≤most) {c M:List Int} (h:own most c M=[]):c=[]∧M=[]:=by
 unfold own qM room at h;simp only [List.append_eq_nil_iff] at h;obtain ⟨rfl,h⟩:=h;refine ⟨rfl,?_⟩;rw [if_pos rfl] at h
 cases M with
 | nil=>rfl
 | cons x r =>
  have:=congrArg List.length h;simp at this
theorem Pk {s:St} {a:Int}:1≤dN s a↔a∈s.M∨∃ c∈s.C,a∈c:=by
 unfold dN
 constructor
 ·intro h;have h2:0 < s.M.count a∨0 < s.C.flatten.count a:=by omega
  rcases h2 with h2 | h2
  ·exact .inl (List.count_pos_iff.1 h2)
  ·right
   have:=List.count_pos_iff.1 h2;simpa using this
 ·rintro (h | ⟨c,hc,h⟩)
  ·have:=List.count_pos_iff.2 h;omega
  ·have:0 < s.C.flatten.count a:=List.count_pos_iff.2 (List.mem_flatten.2 ⟨c,hc,h⟩);omega
theorem Dz {o:List Int} (h:o≠[]):o=o.dropLast ++ [o.getLastD 0]:=by
 have:=List.dropLast_concat_getLast h;rw [List.getLastD_eq_getLast?,List.getLast?_eq_some_getLast h];exact this.symm
theorem lQ {α:Type} (l:List α) (i j:Nat) (t d:α) (h:i < l.length):(l.set i t).getD j d=if i=j then t else l.getD j d:=by
 by_cases e:i=j
 ·subst e;simp [h]
 ·simp [List.getD,e]
theorem Inv.last {size most:Nat} {s:St} (v:Inv size most s) {g:Nat} {c:List Int} (hg:s.C[g]?=some c) {o:List Int} (ho:o=own most c s.M) (h0:o≠[]) :
  0≤o.getLastD 0∧o.getLastD 0 < s.f:=by
 have hm:o.getLastD 0∈o:=by
  have:=Dz h0;generalize o.getLastD 0=x at *;rw [this];simp
 apply v.bound;apply Pk.2;generalize o.getLastD 0=x at *;rw [ho] at hm;unfold own at hm;rcases List.mem_append.1 hm with h | h
 ·exact .inr ⟨c,List.mem_of_getElem? hg,h⟩
 ·left
  have:=List.mem_of_mem_take h;simpa using this
theorem Pm {most:Nat} (h1:1≤most) {c M:List Int} (hc:c.length≤most):(own most c M).length≤most:=by
 unfold own qM room
 by_cases h:c=[]
 ·subst h;simp;omega
 ·simp [h];exact hc
def ind (x a:Int):Nat:=if x=a then 1 else 0
theorem Pp {o:List Int} (h:o≠[]) (a:Int):o.count a=o.dropLast.count a + ind (o.getLastD 0) a:=by
 conv=>lhs;rw [Dz h]
 rw [List.count_append,List.count_singleton];unfold ind
 by_cases e:o.getLastD 0=a <;> simp [e]
theorem DA {size most:Nat} {s:St} {g:Nat} {c:List Int} (hg:s.C[g]?=some c) (h0:own most c s.M≠[]) (a:Int) :
  dN (vi s g (own most c s.M) (aW most c s.M)) a + ind ((own most c s.M).getLastD 0) a=dN s a:=by
 have e1:=count_set a s.C g c (own most c s.M).dropLast hg;have e2:=Pj most c s.M a;have e3:=Pp h0 a
 show (aW most c s.M).count a + (s.C.set g (own most c s.M).dropLast).flatten.count a + _=s.M.count a + s.C.flatten.count a;omega
theorem mem_set {α:Type} {l:List α} {g:Nat} {c x:α} (h:x∈l.set g c):x∈l∨x=c:=List.mem_or_eq_of_mem_set h
theorem Inv.vi {size most:Nat} {s:St} (v:Inv size most s) {g:Nat} {c:List Int} (hg:s.C[g]?=some c) (h0:own most c s.M≠[]) :
  Inv size most (vi s g (own most c s.M) (aW most c s.M)):=by
 have hb:=v.last hg rfl h0;have sq:=DA (size:=size) hg h0;have oC:=Pm v.m1 (M:=s.M) (v.qN c (List.mem_of_getElem? hg));have jm:dN s ((own most c s.M).getLastD 0)≤1:=v.one _;refine ⟨v.m1,v.m2,v.s1,by simpa [Po.vi] using v.hl,v.fl,fun a=>by have:=sq a;have:=v.one a;omega,fun a ha=>v.bound a (by have:=sq a;omega),?_,?_⟩
 ·intro x hx;have sw:=sq (x:Int);have qD:=v.one (x:Int);have xD:=v.home x hx;have kZ:=v.fl;have jS:=sq ((own most c s.M).getLastD 0)
  show (s.H.set ((own most c s.M).getLastD 0).toNat false).getD x false=_;rw [lQ _ _ _ _ _ (by rw [v.hl];omega)];unfold ind at sw jS;rw [if_pos rfl] at jS
  by_cases e:((own most c s.M).getLastD 0).toNat=x
  ·rw [if_pos e];have e2:(own most c s.M).getLastD 0=(x:Int):=by omega
   rw [if_pos e2] at sw;simp;omega
  ·rw [if_neg e];have e2:(own most c s.M).getLastD 0≠(x:Int):=by omega
   rw [if_neg e2] at sw;rw [xD];simp only [decide_eq_decide];omega
 ·intro d hd;rcases mem_set hd with h | rfl
  ·exact v.qN d h
  ·simp;omega
theorem Inv.fresh {size most:Nat} {s:St} (v:Inv size most s) (h:s.f < size):Inv size most ⟨s.C,s.M,s.f + 1,s.H⟩ :=
 ⟨v.m1,v.m2,v.s1,v.hl,h,v.one,fun a ha=>by have:=v.bound a ha;exact ⟨this.1,by simp;omega⟩,v.home,v.qN⟩
theorem H6 {most:Nat} {s:St} {g:Nat} {c:List Int} (hg:s.C[g]?=some c) (x a:Int):dN (pM most s g c x) a=dN s a + ind x a:=by
 have e1:=count_set a s.C g c (c.take (c.length - dS most c) ++ [x]) hg;have e2:=Hz a c (c.length - dS most c);have e3:[x].count a=ind x a:=by unfold ind;rw [List.count_singleton];by_cases e:x=a <;> simp [e]
 show (s.M ++ c.reverse.take (dS most c)).count a + (s.C.set g (c.take (c.length - dS most c) ++ [x])).flatten.count a=s.M.count a + s.C.flatten.count a + _;rw [List.count_append,HW,List.count_reverse];rw [List.count_append,e3] at e1;omega
theorem Inv.live {size most:Nat} {s:St} (v:Inv size most s) (x:Int):live s.f s.H x=(decide (0≤x) && decide (x < s.f) && decide (dN s x=0)):=by
 unfold Po.live
 by_cases h1:0≤x
 ·by_cases h2:x < s.f
  ·have:=v.home x.toNat (by have:=v.fl;omega);rw [this,Int.toNat_of_nonneg h1];simp only [h1,h2,decide_true,Bool.true_and];rw [Bool.eq_iff_iff];simp
  ·simp [h2]
 ·simp [h1]
theorem Inv.pM {size most:Nat} {s:St} (v:Inv size most s) {g:Nat} {c:List Int} (hg:s.C[g]?=some c) {x:Int} (hx:Po.live s.f s.H x=true) :
  Inv size most (pM most s g c x):=by
 rw [v.live] at hx;simp only [Bool.and_eq_true,decide_eq_true_eq] at hx;obtain ⟨⟨pN,sw⟩,qD⟩:=hx;have sq:=H6 (most:=most) hg x;have bQ:=v.qN c (List.mem_of_getElem? hg);refine ⟨v.m1,v.m2,v.s1,by simpa [Po.pM] using v.hl,v.fl,?_,?_,?_,?_⟩
 ·intro a;rw [sq];have:=v.one a;unfold ind
  split
  ·rename_i e;subst e;omega
  ·omega
 ·intro a ha;rw [sq] at ha;unfold ind at ha
  split at ha
  ·rename_i e;subst e;exact ⟨pN,sw⟩
  ·exact v.bound a (by omega)
 ·intro y hy;rw [sq];have kZ:=v.fl
  show (s.H.set x.toNat true).getD y false=_;rw [lQ _ _ _ _ _ (by rw [v.hl];omega),v.home y hy];unfold ind
  by_cases e:x.toNat=y
  ·rw [if_pos e,if_pos (show x=(y:Int) by omega)];simp
  ·rw [if_neg e,if_neg (show x≠(y:Int) by omega)];simp
 ·intro d hd;rcases mem_set hd with h | rfl
  ·exact v.qN d h
  ·have:=v.m1;simp only [List.length_append,List.length_take,List.length_singleton];unfold dS
   split <;> omega
theorem Inv.bR {size most:Nat} {s:St} (v:Inv size most s) (g x:Int):Inv size most (bR most s g x).1:=by
 unfold Po.bR
 split
 ·rename_i ht;simp only [mB,Bool.and_eq_true,decide_eq_true_eq] at ht;have hg:s.C[g.toNat]?=some (s.C.getD g.toNat []):=by
   rw [List.getD_eq_getElem?_getD,List.getElem?_eq_getElem (by omega)];simp
  exact v.pM hg ht.2
 ·exact v
def mC (L:List Int):Nat→Nat
 | 0=>0
 | k + 1=>mC L k + L.count (k:Int)
theorem Pq (k:Nat):mC [] k=0:=by induction k with
 | zero=>rfl
 | succ k ih=>simp [mC,ih]
theorem Pr (y:Int) (r:List Int) (k:Nat):mC (y :: r) k=mC r k + if 0≤y∧y < k then 1 else 0:=by
 induction k with
 | zero =>
  rw [if_neg (by omega)];rfl
 | succ k ih =>
  have e1:mC (y :: r) (k + 1)=mC (y :: r) k + (y :: r).count (k:Int):=rfl;have e2:mC r (k + 1)=mC r k + r.count (k:Int):=rfl;rw [e1,e2,ih,List.count_cons]
  by_cases e:y=(k:Int)
  ·rw [if_neg (by omega),if_pos (by simpa using e),if_pos (by omega)];omega
  ·have e3:(y == (k:Int))=false:=by simpa using e
   rw [e3,if_neg (show ¬ (false=true) by decide)]
   by_cases h:0≤y∧y < k
   ·rw [if_pos h,if_pos (by omega)];omega
   ·rw [if_neg h,if_neg (by omega)];omega
theorem Pt (L:List Int) (k:Nat) (h:∀ a∈L,0≤a∧a < k):mC L k=L.length:=by
 induction L with
 | nil=>exact Pq k
 | cons y r ih =>
  rw [Pr,ih (fun a ha=>h a (by simp [ha])),if_pos (h y (by simp))];simp
theorem Pu (H:List Bool) (L:List Int) (sy:∀ a,L.count a≤1) (k:Nat) (hk:k≤H.length) (hH:∀ x:Nat,x < k→H.getD x false=decide (1≤L.count (x:Int))):outs H k + mC L k=k:=by
 induction k with
 | zero=>simp [outs,mC]
 | succ k ih =>
  have hx:H[k]?=some (H.getD k false):=by rw [List.getD_eq_getElem?_getD,List.getElem?_eq_getElem (by omega)];simp
  rw [Ph H k _ hx,hH k (by omega),mC];have:=ih (by omega) (fun x hx=>hH x (by omega));have:=sy (k:Int)
  by_cases e:1≤L.count (k:Int)
  ·simp [e];omega
  ·simp [e];omega
theorem Inv.outs {size most:Nat} {s:St} (v:Inv size most s):outs s.H s.f + (s.M.length + s.C.flatten.length)=s.f:=by
 have hc:∀ a,(s.M ++ s.C.flatten).count a=dN s a:=fun a=>by rw [List.count_append];rfl
 have h1:=Pu s.H (s.M ++ s.C.flatten) (fun a=>by rw [hc];exact v.one a) s.f (by rw [v.hl];exact v.fl) (fun x hx=>by rw [hc];exact v.home x (by have:=v.fl;omega));have h2:=Pt (s.M ++ s.C.flatten) s.f (fun a ha=>v.bound a (by rw [← hc];exact List.count_pos_iff.2 ha));rw [h2,List.length_append] at h1;exact h1
theorem Inv.lens {size most:Nat} {s:St} (v:Inv size most s):s.M.length≤64∧s.C.flatten.length≤64:=by
 have:=v.outs;have:=v.fl;have:=v.s1;omega
end Po
end Go.Proofs.YtofnbflkhgammaaGreat
