/-
  What the laws need, part A5.
  Conditions: none.
-/
import Derived.Test.YtdjhhbpedllnhaaGreatA4
import Derived.Laws.CopyRow
import Derived.Laws.OwnMore
import Derived.OwnWalk
set_option linter.unusedVariables false
set_option linter.unusedSimpArgs false
set_option linter.unnecessarySimpa false
set_option maxHeartbeats 2000000
namespace Go.Proofs.YtdjhhbpedllnhaaGreat
open Go.RowKit
namespace Fl
theorem RX.take {ok:Nat→Prop} {w:World} {sz:Nat}:∀ (n:Nat) {l:List (List A)} {xs:List Value},RX ok w sz l xs→RX ok w sz (l.take n) (xs.take (n * sz))
 | 0,l,xs,h=>by simp [RX]
 | n + 1,[],xs,h=>by unfold RX at h;subst h;simp [RX]
 | n + 1,cs :: l,xs,h=>by
  obtain ⟨vs,ys,rfl,h2,h3,h4⟩:=h;have e1:(vs ++ ys).take ((n + 1) * sz)=vs ++ ys.take (n * sz):=by
   rw [List.take_append,List.take_of_length_le (by rw [h2,Nat.add_mul];omega),h2]
   congr 2;rw [Nat.add_mul];omega
  rw [e1];exact ⟨vs,_,rfl,h2,h3,RX.take n h4⟩
theorem RX.drop {ok:Nat→Prop} {w:World} {sz:Nat}:∀ (n:Nat) {l:List (List A)} {xs:List Value},RX ok w sz l xs→RX ok w sz (l.drop n) (xs.drop (n * sz))
 | 0,l,xs,h=>by simpa using h
 | n + 1,[],xs,h=>by unfold RX at h;subst h;simp [RX]
 | n + 1,cs :: l,xs,h=>by
  obtain ⟨vs,ys,rfl,h2,h3,h4⟩:=h;have e1:(vs ++ ys).drop ((n + 1) * sz)=ys.drop (n * sz):=by
   rw [List.drop_append,List.drop_of_length_le (by rw [h2,Nat.add_mul];omega),h2];simp only [List.nil_append]
   congr 1;rw [Nat.add_mul];omega
  rw [e1];exact RX.drop n h4
section
variable {P:Program} {c:Cx} {k:List Item} {f:Fm} {L:List an} {ops:Array Oper} {T X:TypeId} {ps:String} {af:Array Edge} {gd:Option (Nat × Bool)} {t:Nat}
theorem IY {x:Operand} {lo hi:Option Operand} {e sz j:Nat} {v:Value} {l l':List (List A)} {L':List an} {m n:Int} [i:fM P X e sz] [bx:gU L v e sz l j] [er:mI L j L'] (ht:t < c.N) (h:bg f x=some (.c (.v v))) (Ea:oV f lo 0=some m) (Eb:oV f hi l.length=some n) (h1:0≤m) (h2:m≤n) (h3:n≤l.length) (hl:(l.take n.toNat).drop m.toNat=l') :
  Ld P c ⟨some t,.slice X x lo hi none,T,ps,af,gd⟩ f L (dx v) (fun v':Value=>(t,.c (.v v')) :: f) (fun v'=>.row v' e sz l' :: L'):=Ld.perm (Eh bx.h er.h) ⟨fun a w s K Q hK=>by
 subst hl;have rx:=s.val h;obtain ⟨xs,r1,r2⟩:=s.res _ (List.mem_cons_self ..);have ap:=List.pairwise_cons.1 s.ap;obtain ⟨h0,ao,cap,hx,g1,g2,g3⟩:=r1;have hn:n.toNat≤l.length:=by omega
 have Ec:∀ w,(match lo.map a.eval with | some v=>Instr.sliceBound v n.toNat .sliceB | none=>pure 0:Sem Nat).run P w=.ok m.toNat w:=fun w=>by
  rcases oV.run s Ea with ⟨rfl,rfl⟩ | ⟨y,kd,rfl,hy⟩
  ·simp
  ·simp only [Option.map_some,hy,Instr.sliceBound,asIntOf,Sem.run_bind,Sem.run_pure,Result.andThen_ok];rw [if_pos ⟨h1,by omega⟩];rfl
 have Ed:∀ w,(match hi.map a.eval,(none:Option Value) with | some v,some _=>Instr.sliceBound v cap .slice3B | some v,none=>Instr.sliceBound v cap (if true then .sliceAcap else .sliceAlen) | none,none=>pure l.length | none,some _=>stuck "Slice: max without high":Sem Nat).run P w=.ok n.toNat w:=fun w=>by
  rcases oV.run s Eb with ⟨rfl,rfl⟩ | ⟨y,kd,rfl,hy⟩
  ·simp
  ·simp only [Option.map_some,hy,Instr.sliceBound,asIntOf,Sem.run_bind,Sem.run_pure,Result.andThen_ok];rw [if_pos ⟨by omega,by omega⟩];rfl
 have Ee:∀ w,(Instr.sliceBounds true l.length cap (lo.map a.eval) (hi.map a.eval) none).run P w=.ok (m.toNat,n.toNat,cap) w:=fun w=>by
  unfold Instr.sliceBounds;simp only [Sem.run_bind,Sem.run_pure,Result.andThen_ok,Option.isSome_none,Bool.false_eq_true,↓reduceIte];have a1:=Ed w;have a2:=Ec w
  cases Ef:hi.map a.eval <;> cases Eg:lo.map a.eval <;> rw [Ef] at a1 <;> rw [Eg] at a2 <;> simp only [↓reduceIte,Sem.run_pure,Result.ok.injEq,and_true] at a1 a2 <;> simp [Sem.run_bind,a1,a2]
 have fW:(execOp a.eval ⟨some t,.slice X x lo hi none,T,ps,af,gd⟩).run P w=.ok (.value (.slice (if cap=m.toNat then ao else ao.map (·.add (m.toNat * sz))) (n.toNat - m.toNat) (cap - m.toNat))) w:=by
  simp only [execOp,Option.map_none,Instr.sliceAt,Instr.slice,rx,hx,Sem.run_bind,run_underlying (lW.kE i.h),Result.andThen_ok,Ee,jK.run i.s,Sem.run_pure]
 have hlen:((l.take n.toNat).drop m.toNat).length=n.toNat - m.toNat:=by simp [hn]
 have hf:dx (.slice (if cap=m.toNat then ao else ao.map (·.add (m.toNat * sz))) (n.toNat - m.toNat) (cap - m.toNat))=dx v:=by
  subst hx
  cases ao with
  | none=>simp [dx]
  | some A=>split <;> simp [dx,Addr.add] <;> split <;> rfl
 have hR:(an.row (.slice (if cap=m.toNat then ao else ao.map (·.add (m.toNat * sz))) (n.toNat - m.toNat) (cap - m.toNat)) e sz ((l.take n.toNat).drop m.toNat)).holds (bF c (.row v e sz l :: L')) w:=by
  refine ⟨(xs.take (n.toNat * sz)).drop (m.toNat * sz),?_,(r2.take n.toNat).drop m.toNat⟩;rw [hf,hlen];refine ⟨?_,_,_,rfl,by omega,by omega,?_⟩
  ·have:=((r2.take n.toNat).drop m.toNat).len;rw [this,hlen]
  ·rcases g3 with ⟨rfl,g4,g5,g6⟩ | ⟨g,off,cur,rfl,g5,g6,g7,g8⟩
   ·exact .inl ⟨by simp,by omega,by omega,g6⟩
   ·by_cases hc:cap=m.toNat
    ·refine .inr ⟨g,off,cur,by rw [if_pos hc],g5,g6,by rw [hc];have:off≤off + cap * sz:=Nat.le_add_right _ _;simp;omega,fun q hq=>?_⟩;have j8:=((r2.take n.toNat).drop m.toNat).len;rw [j8,hlen,show n.toNat - m.toNat=0 by omega] at hq;omega
    ·refine .inr ⟨g,off + m.toNat * sz,cur,by rw [if_neg hc];simp [Addr.add_mid],g5,g6,?_,fun q hq=>?_⟩
     ·have e1:m.toNat * sz + (cap - m.toNat) * sz=cap * sz:=by rw [← Nat.add_mul];congr 1;omega
      omega
     ·have og:q < xs.length:=by
       have:=hq;simp only [List.length_drop,List.length_take] at this;omega
      have QA:m.toNat * sz + q < n.toNat * sz:=by
       have:=hq;simp only [List.length_drop,List.length_take] at this;omega
      have QB:m.toNat * sz + q < xs.length:=by
       have:=hq;simp only [List.length_drop,List.length_take] at this;omega
      rw [List.getElem?_drop,List.getElem?_take,if_pos QA,← g8 _ QB]
      congr 1;omega
 have ho:bF c (.row (.slice (if cap=m.toNat then ao else ao.map (·.add (m.toNat * sz))) (n.toNat - m.toNat) (cap - m.toNat)) e sz ((l.take n.toNat).drop m.toNat) :: L')=bF c (.row v e sz l :: L'):=by
  funext x;unfold bF;simp only [jo,an.bT,hf]
 unfold Oper.wp;rw [fW];refine hK _ _ w (aq.refl _ _) (s.put ht (by unfold RD RA;exact ⟨rfl,rfl⟩) s.kp (fun q hq=>?_) (fun y hy=>s.fL y ?_) ?_ (by rw [ho];exact Mon.refl _ _)) (fun y hy=>.inl ?_)
 ·rw [ho];rcases List.mem_cons.1 hq with rfl | hq
  ·exact hR
  ·exact s.res q (List.mem_cons_of_mem _ hq)
 ·rw [jo,an.bT,hf] at hy;exact (jo _ _ _).2 hy
 ·exact List.pairwise_cons.2 ⟨fun q hq y hy QC=>ap.1 q hq y (by rw [an.bT,hf] at hy;exact hy) QC,ap.2⟩
 ·rw [jo,an.bT,hf] at hy;exact (jo _ _ _).2 hy⟩
theorem J.join {I:Item} {ι:Type} (f':ι→Fm) (L':ι→List an) (rest:∀ x,J P c k (f' x) (L' x)) (h:(∀ x,J P c k (f' x) (L' x))→J P c (I :: k) f L):J P c (I :: k) f L:=h rest
theorem J.IZ (t u n:Nat) {v:Value} {e sz i j b o B:Nat} {ll:List (List A)} {cs:List A} {L1 L2:List an} [r:gU L v e sz ll i] [bx:lY L b B cs j] [st:lZ L j (.box b B (cs.set n (.r sz ll))) L1] [er:mI L1 i L2] (h1:look f t=some (.c (.v v))) (h2:look f u=some (.c (.v (.pointer (some ⟨b,o,none⟩))))) (hc:cs[n]?=some (.v v)) (h:J P c k f L2):J P c k f L :=
 J.wF i j n r.h bx.h hc (by rw [st.h,er.h];exact h)
theorem J.dF (i:Nat) {L2:List an} [er:mI L i L2] (h:J P c k f L2):J P c k f L:=J.drop i (by rw [er.h];exact h)
end
class yD (L:List an) (d:D) (j:outParam Nat):Prop where h:True
instance yD.box {L:List an} {b o B j:Nat} {cs:List A} [lY L b B cs j]:yD L (.c (.v (.pointer (some ⟨b,o,none⟩)))) j:=⟨trivial⟩
instance yD.row {L:List an} {v:Value} {e sz j:Nat} {l:List (List A)} [gU L v e sz l j]:yD L (.c (.v v)) j:=⟨trivial⟩
section
variable {P:Program} {c:Cx} {k:List Item} {f:Fm} {L:List an} {ops:Array Oper} {n:Nat} {aM:Array Bool}
theorem Gx.mono {S S':World→Prop} {md:Region.Mode} {Q:Exit→Act→World→Prop} {m:Option Nat} (hS:∀ w,S' w→S w):∀ (n:Nat) (aM:Array Bool) (a:Act) (w:World),Gx P md ops Q S' m n aM a w→Gx P md ops Q S m n aM a w
 | 0,_,_,_,h=>h
 | n + 1,_,_,_,h=>⟨h.1,fun i hi=>wpOp_mono (fun a' w' h'=>h'.elim .inl (fun h'=>.inr ⟨hS _ h'.1,Gx.mono hS n _ _ _ h'.2⟩)) (h.2 i hi)⟩
theorem JD.nA {m:Option Nat} {T:List Nat} {f0:Fm} {L0:List an} (h:JD P c ops m [] n aM k f L f L):JD P c ops m T n aM k f L f0 L0:=⟨fun a w w0 s s0 kp ho =>
 Gx.mono (fun w' h'=>kp.trans h' (fun x hx=>by simp [jM] at hx)) _ _ _ _ (h.go a w w s s (aq.refl _ _) (fun x hx=>.inl hx))⟩
theorem JW.yE (m:Option Nat) (x:Operand) {d:D} {j:Nat} (hx:bg f x=some d) [yD L d j] (h:JD P c ops m [j] n aM k f L f L):JW P c ops n aM k f L:=JW.iU _ _ h
end
end Fl
open Go.RowKit
namespace Fl
section
variable {P:Program} {ops:Array Oper} {Q:Exit→Act→World→Prop} {md:Region.Mode} {S:World→Prop}
def reach (md:Region.Mode) (ops:Array Oper) (aM:Array Bool):Nat→Nat→Nat→Bool
 | 0,m,i=>waitsFor md ops m i
 | n + 1,m,i=>waitsFor md ops m i || match ops[m]? with
  | none=>false
  | some o=>o.after.any (fun e=>Region.binds md e && !(aM.getD e.on false) && reach md ops aM n e.on i)
theorem I0 {aM:Array Bool} {m i:Nat} (hr:i∈Region.ready md ops aM) (hw:waitsFor md ops m i=true):m∉Region.ready md ops aM:=fun hm=>by
 obtain ⟨_,oj,oe,kZ⟩:=mem_ready.1 hm;have qn:=DN hr kZ;unfold waitsFor at hw;rw [oe] at hw;obtain ⟨x,hx,hp⟩:=Array.any_eq_true'.1 hw;simp only [Bool.and_eq_true,beq_iff_eq] at hp;exact qn x hx hp.2 hp.1
theorem I3 {aM:Array Bool} {i:Nat} (hr:i∈Region.ready md ops aM):∀ (n m:Nat),reach md ops aM n m i=true→m∉Region.ready md ops aM
 | 0,m,h=>I0 hr h
 | n + 1,m,h=>fun hm=>by
  unfold reach at h;rw [Bool.or_eq_true] at h;rcases h with h | h
  ·exact I0 hr h hm
  ·obtain ⟨_,oj,oe,kZ⟩:=mem_ready.1 hm;rw [oe] at h;obtain ⟨x,hx,hp⟩:=Array.any_eq_true'.1 h;simp only [Bool.and_eq_true,Bool.not_eq_true'] at hp;have:=kZ x hx hp.1.1;rw [hp.1.2] at this
   cases this
theorem I4 {aM:Array Bool} {i j:Nat} (hr:i∈Region.ready md ops aM) (hj:j∈Region.ready md ops aM):∀ (n m:Nat),reach md ops aM n m i=true→reach md ops (aM.setIfInBounds j true) n m i=true
 | 0,m,h=>h
 | n + 1,m,h=>by
  unfold reach at h ⊢;rw [Bool.or_eq_true] at h ⊢;rcases h with h | h
  ·exact .inl h
  ·refine .inr ?_
   cases ho:ops[m]? with
   | none=>rw [ho] at h;cases h
   | some o =>
    rw [ho] at h;obtain ⟨x,hx,hp⟩:=Array.any_eq_true'.1 h;simp only [Bool.and_eq_true,Bool.not_eq_true'] at hp;have bG:j≠x.on:=fun e=>I3 hr n x.on hp.2 (e ▸ hj)
    refine Array.any_eq_true'.2 ⟨x,hx,?_⟩;simp only [Bool.and_eq_true,Bool.not_eq_true'];exact ⟨⟨hp.1.1,by rw [getD_set_ne false bG];exact hp.1.2⟩,I4 hr hj n x.on hp.2⟩
def Ei (md:Region.Mode) (ops:Array Oper) (m:Option Nat) (aM:Array Bool) (i:Nat):Bool:=match m with
 | none=>true
 | some j=>reach md ops aM ops.size j i
theorem Gx.I5 {m:Option Nat} {i:Nat} {oi:Oper} {v:Value} (hi:ops[i]?=some oi) (uK:∀ (j:Nat) (o:Oper) cs b,ops[j]?=some o→o.op≠.select cs b) (hQ:∀ c a w,Q (.panic c) (a.put oi.dst v) w→Q (.panic c) a w) :
  ∀ (n:Nat) (aM:Array Bool) (a:Act) (w:World),Ei md ops m aM i=true→(∀ (j:Nat) oj,ops[j]?=some oj→j≠i→aM.getD j true=false→(∀ e∈oj.after,Region.binds md e=true→e.on≠i)→oi.apart ops oj=true) →
   i∈Region.ready md ops aM→YieldsIf P ops S oi v a→S w→Gx P md ops Q S m n (aM.setIfInBounds i true) (a.put oi.dst v) w→Gx P md ops Q S m (n + 1) aM a w
 | n,aM,a,w,hm,yu,hr,hy,hS,H=>by
  refine ⟨fun h=>(by rw [h] at hr;cases hr),fun j hj=>?_⟩
  by_cases mh:j=i
  ·subst mh;exact hy.wpOp hi hS (.inr ⟨hS,H⟩)
  ·cases n with
   | zero =>
    have:=ready_mono hj mh;rw [H.1] at this
    cases this
   | succ n =>
    obtain ⟨yw,oj,oe,kZ⟩:=mem_ready.1 hj;have qn:=DN hr kZ;have nt:some j≠m:=fun e=>by
     subst e;exact I3 hr _ _ hm hj
    have cF:Ei md ops m (aM.setIfInBounds j true) i=true:=by
     cases m with
     | none=>rfl
     | some q=>exact I4 hr hj _ _ hm
    have h2:=wpOp_putIf oe (yu j oj oe mh yw qn) (fun cs b=>uK i oi cs b hi) (fun cs b=>uK j oj cs b oe) hQ hy (H.2 j (ready_mono hj mh));have gB:i∈Region.ready md ops (aM.setIfInBounds j true):=ready_mono hr (Ne.symm mh);refine wpOp_mono (fun a' w' h3=>?_) h2;have DZ:=Array.setIfInBounds_comm (xs:=aM) true true mh;obtain ⟨h4,h5⟩:S w'∧_:=h3.2.resolve_left (fun h=>nt h.1);exact .inr ⟨h4,Gx.I5 hi uK hQ n (aM.setIfInBounds j true) a' w' cF (fun k ok hk D6 yx qn=>by
     refine yu k ok hk D6 ?_ qn
     by_cases yy:j=k
     ·subst yy;exact yw
     ·rw [getD_set_ne true yy] at yx;exact yx) gB h3.1 h4 (by rw [DZ];exact h5)⟩
end
def I6 (md:Region.Mode) (ops:Array Oper) (m:Option Nat) (aM:Array Bool) (i:Nat):Bool :=
 Region.noSelect ops && Region.free md ops aM i && (Region.ready md ops aM).contains i && Ei md ops m aM i
section
variable {P:Program} {c:Cx} {k:List Item} {f f0:Fm} {L L0:List an} {ops:Array Oper} {n:Nat} {aM:Array Bool} {m:Option Nat} {T:List Nat} {o:Oper}
theorem JD.tf (i:Nat) {t:Nat} {d:D} {U:List Nat} (hi:ops[i]?=some o) (hd:o.dst=some t) (hk:I6 .any ops m aM i=true) (hw:ee ops o f0=true) (ht:t < c.N) (q:Qt P c U o f0 L0 d) (hu:(U.all fun j=>!T.contains j)=true) (h:JD P c ops m T n (aM.setIfInBounds i true) k ((t,d) :: f) L ((t,d) :: f0) L0):JD P c ops m T (n + 1) aM k f L f0 L0:=⟨fun a w w0 s s0 kp ho=>by
 obtain ⟨v,h1,h2⟩:=q.go a w0 s0;unfold I6 at hk;simp only [Bool.and_eq_true] at hk;obtain ⟨⟨⟨k1,k2⟩,k3⟩,k4⟩:=hk;have m1:Mon (bF c L0) (bF c L) w0 w:=Mon.lV kp fun g hg gL=>⟨⟨gL.1,fun hx=>by rcases ho g hx with h | h;exact gL.2 h;omega⟩,fun hm=>gL.2 (Bq hm)⟩
 have D7:∀ w',aq (jM L0 T) w0 w'→rD L0 U w0 w':=fun w' uL=>⟨_,uL,fun x hx=>Bq hx,fun x hx j hj r hr rH=>by
  obtain ⟨i,hi,r2,gB,rF⟩:=yA.1 hx;have rJ:j≠i:=fun e=>by
   subst e;have:=List.all_eq_true.1 hu j hj;simp [hi] at this
  exact fq.ne s0.ap hr gB rJ x rH rF⟩
 refine Gx.I5 hi (Region.noSelect_spec k1) (fun c a w h=>by cases h.1) n aM a w k4 (Region.free_spec hi k2) (by simpa using k3) (v:=v) (.inl ⟨ee.run hw s0,fun w' uL=>h2 w' (D7 w' uL)⟩) kp ?_;have:=h.go (a.put o.dst v) w w0 (by rw [hd];exact s.lX ht (RD.cY m1 _ _ h1)) (by rw [hd];exact s0.lX ht h1) kp ho;exact this⟩
end
end Fl
open Go.RowKit
namespace Fl
section
variable {P:Program} {c:Cx} {k:List Item} {f:Fm} {L:List an} {ops:Array Oper} {n:Nat} {aM:Array Bool} {o:Oper}
structure JT (P:Program) (c:Cx) (ops:Array Oper) (n:Nat) (aM:Array Bool) (k:List Item) (f:Fm) (L:List an) (i:Nat):Prop where
 go:∀ a w,St c f L a w→wpOp P ops (fun e a' w'=>e=.normal∧kC P c k a' w') i (fun a' w'=>wpAny P .any ops (fun e a' w'=>e=.normal∧kC P c k a' w') n (aM.setIfInBounds i true) a' w') a w
variable {T:TypeId} {ps:String} {af:Array Edge} {gd:Option (Nat × Bool)} {t:Nat}
theorem Ld.QD {F:FuncId} {args:List Operand} {tys:Array TypeId} {dB ds:List D} {ι:Type} {dd:ι→D} {M:ι→List an} {Ll:List an} (Lr:List an) (L':ι→List an) [i:aJ P F] (hC:av P F ds Ll (fun x=>(dd x,M x))) (hL:(Ll ++ Lr).Perm L) (tg:∀ x,(L' x).Perm (M x ++ Lr)) (ht:t < c.N) (h:iR f args=some dB) (hle:aW dB ds) :
  Ld P c ⟨some t,.call ⟨.value (.func F),args.toArray,tys⟩,T,ps,af,gd⟩ f L (bq Ll) (fun x=>(t,dd x) :: f) L':=⟨fun a w s K Q hK=>by
 have h1:=Ld.call (P:=P) (c:=c) (T:=T) (ps:=ps) (af:=af) (gd:=gd) (L:=Ll ++ Lr) (f:=f) (tys:=tys) hC ht h hle (Ll:=Ll) (Lr:=Lr) rfl;refine h1.go a w (s.perm hL) K Q fun x v w' kp sx hf=>?_
 refine hK x v w' kp (sx.perm (tg x)) fun y hy=>?_
 rcases hf y ((rN (tg x) y).1 hy) with h | h
 ·exact .inl ((rN hL y).1 h)
 ·exact .inr h⟩
end
end Fl
open Go.RowKit
namespace Fl
theorem RX.rep {ok:Nat→Prop} {w:World} {zs:List Value} (h:zs.all (·.oneCell')=true):∀ n:Nat,RX ok w zs.length (List.replicate n (vs zs)) ((List.replicate n ()).flatMap fun _=>zs)
 | 0=>rfl
 | n + 1=>⟨zs,(List.replicate n ()).flatMap fun _=>zs,by rw [List.replicate_succ,List.flatMap_cons],rfl,RC.vs h,RX.rep h n⟩
section
variable {P:Program} {c:Cx} {k:List Item} {f:Fm} {L:List an} {T X:TypeId} {ps:String} {af:Array Edge} {gd:Option (Nat × Bool)} {t:Nat}
theorem Ld.make {e sz bytes:Nat} {z:Value} {zs:List Value} [E:ia P X e sz bytes z] [Z:aX P e zs] {x y:Operand} {kl kc:IntKind} {N:Int} (n:Nat) (ht:t < c.N) (hx:bg f x=some (.c (.v (.int kl N)))) (hy:bg f y=some (.c (.v (.int kc N)))) (hN:N=(n:Int)) (hb:n * bytes≤281474976710656) :
  Ld P c ⟨some t,.makeSlice X x y,T,ps,af,gd⟩ f L [] (fun b:Nat=>(t,.c (.v (.slice (some ⟨b,0,none⟩) n n))) :: f) (fun b=>.row (.slice (some ⟨b,0,none⟩) n n) e sz (List.replicate n (vs zs)) :: L):=⟨fun a w s K Q hK=>by
 subst hN;obtain ⟨hu,jJ,hz,qc,oQ⟩:=E.h;obtain ⟨i,hi,dY,fo,iD⟩:=info_parts jJ;have AZ:n≤281474976710656:=Nat.le_trans (Nat.le_mul_of_pos_right _ oQ) hb;have rx:=s.val hx;have ry:=s.val hy;obtain ⟨w',fW,r1,r2⟩:=run_make_full (P:=P) w 0 X e i z sz hu hi dY fo kl kc n (by rw [iD,Nat.mul_comm];exact hb) (by simp only [maxLen];omega) (Nat.zero_le _);have hk:aq [] w w':=(aq.refl [] w).grown r2 (by simp);have hr:=(Row.AW r1).1;have ya:z.cells.toList=zs:=by
  have h1:=Z.h;unfold qf at h1;rw [hi] at h1;simpa [dY] using h1
 have hl:zs.length=sz:=by rw [← ya];simpa using hz
 have iS:(an.row (.slice (some ⟨w.heap.size,0,none⟩) n n) e sz (List.replicate n (vs zs))).holds (bF c (.row (.slice (some ⟨w.heap.size,0,none⟩) n n) e sz (List.replicate n (vs zs)) :: L)) w':=by
  refine ⟨(List.replicate n ()).flatMap fun _=>zs,?_,?_⟩
  ·rw [List.length_replicate,← Iw (f:=fun _=>zs) (fun _=>hl) (x0:=()) ya qc n];exact hr
  ·subst hl;exact RX.rep Z.o n
 have hf:∀ y∈(an.row (.slice (some ⟨w.heap.size,0,none⟩) n n) e sz (List.replicate n (vs zs))).bT,w.heap.size≤y:=by simp [an.bT,dx]
 unfold Oper.wp;simp only [execOp,rx,ry,fW,Result.andThen,Sem.run_bind];exact hK w.heap.size _ _ hk (s.new ht hk hf iS (by unfold RD RA;exact ⟨rfl,rfl⟩)) (uI hf)⟩
theorem Ld.QE {e sz bytes:Nat} {z:Value} [E:ia P X e sz bytes z] {x y:Operand} {kl kc:IntKind} {N:Int} (n:Nat) (ht:t < c.N) (hx:bg f x=some (.c (.v (.int kl 0)))) (hy:bg f y=some (.c (.v (.int kc N)))) (hN:N=(n:Int)) (hb:n * bytes≤281474976710656) :
  Ld P c ⟨some t,.makeSlice X x y,T,ps,af,gd⟩ f L [] (fun b:Nat=>(t,.c (.v (.slice (some ⟨b,0,none⟩) 0 n))) :: f) (fun b=>.row (.slice (some ⟨b,0,none⟩) 0 n) e sz [] :: L):=⟨fun a w s K Q hK=>by
 subst hN;obtain ⟨hu,jJ,hz,qc,oQ⟩:=E.h;obtain ⟨i,hi,dY,fo,iD⟩:=info_parts jJ;have AZ:n≤281474976710656:=Nat.le_trans (Nat.le_mul_of_pos_right _ oQ) hb;have rx:=s.val hx;have ry:=s.val hy;obtain ⟨w',fW,r1,r2⟩:=run_make_own (P:=P) w 0 X e i z sz hu hi dY fo kl kc n (by rw [iD,Nat.mul_comm];exact hb) (by simp only [maxLen];omega) (Nat.zero_le _);have hk:aq [] w w':=(aq.refl [] w).grown r2 (by simp);have hr:=(Row.AW r1).1;have iS:(an.row (.slice (some ⟨w.heap.size,0,none⟩) 0 n) e sz []).holds (bF c (.row (.slice (some ⟨w.heap.size,0,none⟩) 0 n) e sz [] :: L)) w':=⟨[],hr,rfl⟩
 have hf:∀ y∈(an.row (.slice (some ⟨w.heap.size,0,none⟩) 0 n) e sz []).bT,w.heap.size≤y:=by simp [an.bT,dx]
 unfold Oper.wp;simp only [execOp,rx,ry,fW,Result.andThen,Sem.run_bind];exact hK w.heap.size _ _ hk (s.new ht hk hf iS (by unfold RD RA;exact ⟨rfl,rfl⟩)) (uI hf)⟩
theorem Ld.copy {e bytes:Nat} {z:Value} [E:ia P X e 1 bytes z] {x y:Operand} {v:Value} {l1 l2:List (List A)} {i:Nat} {L':List an} [bx:gU L v e 1 l1 i] [st:lZ L i (.row v e 1 l2) L'] (ht:t < c.N) (hx:bg f x=some (.c (.v v))) (hy:bg f y=some (.c (.r 1 l2))) (hn:l1.length=l2.length) :
  Ld P c ⟨some t,.call ⟨.builtin .copy,#[x,y],#[X,X]⟩,T,ps,af,gd⟩ f L (dx v) (fun _:Unit=>(t,.c (.v (.int .i64 l2.length))) :: f) (fun _=>L'):=⟨fun a w s K Q hK=>by
 obtain ⟨hu,jJ,hz,qc,oQ⟩:=E.h;obtain ⟨ti,hi,dY,fo,iD⟩:=info_parts jJ;have jZ:(P.info? e).map (·.size)=some 1:=by rw [hi];simp [fo]
 have rx:=s.val hx;have ry:=s.ev hy;unfold RD at ry;obtain ⟨ys,S,v1,v2,v3⟩:=ry.view;obtain ⟨xs,⟨hl,ao,cap,rfl,oP,iH,h4⟩,q2⟩:=s.res _ (List.mem_of_getElem? bx.h);obtain ⟨lU,bo,oR,Ej,Ij,Ik,xY⟩:=v1;have Ek:∀ u∈ys,u.oneCell'=true:=v2.one;have fW:∃ w',(execOp a.eval ⟨some t,.call ⟨.builtin .copy,#[x,y],#[X,X]⟩,T,ps,af,gd⟩).run P w=.ok (.value (.int .i64 l2.length)) w'∧aq (dx (.slice ao l1.length cap)) w w'∧Row w' (.slice ao l1.length cap) e 1 l1.length ys (dx (.slice ao l1.length cap)):=by
  by_cases h0:l2.length=0
  ·refine ⟨w,?_,aq.refl _ _,?_⟩
   ·have hr:=run_copy_none (P:=P) w X X T e ao bo l1.length cap l2.length oR hu jZ (by rw [hn,h0];rfl);rw [h0] at hr Ej ⊢;simp [execOp,resolve,invoke,builtin,rx,Ej,hr,Sem.run_bind,goInt]
   ·have e1:ys=[]:=List.eq_nil_of_length_eq_zero (by rw [lU,h0]);have e2:xs=[]:=List.eq_nil_of_length_eq_zero (by rw [hl,hn,h0]);rw [e1,← e2];exact ⟨hl,ao,cap,rfl,oP,iH,h4⟩
  ·rcases h4 with ⟨_,h,_⟩ | ⟨g,off,cur,rfl,hS,hb,AX,hc⟩
   ·omega
   ·rcases xY with ⟨h,_⟩ | ⟨ug,xZ,rfl,_,Il,x7⟩
    ·omega
    ·have hr:=run_copy_row (P:=P) w X X T e g off l1.length cap ⟨ug,xZ,none⟩ l2.length oR cur.toArray e ys hu jZ hb (by rw [lU,hn];simp) (fun j y hj=>by
      rw [Addr.add_lit,x7 j (List.getElem?_eq_some_iff.1 hj).1];exact hj) (by rw [lU,List.size_toArray];omega) Ek
     refine ⟨_,?_,(aq.refl _ w).setRow (g:=g) (.inl (by simp [dx])) (cur.toArray.toList.take off ++ ys ++ cur.toArray.toList.drop (off + ys.length)).toArray,?_⟩
     ·simp only [execOp,resolve,invoke,builtin,Sem.run_bind];simp [rx,Ej,hr,lU,goInt,Sem.run_bind]
     ·refine ⟨by rw [lU,hn],_,_,rfl,oP,iH,.inr ⟨g,off,_,rfl,hS,setRow_heap w g cur.toArray _ e _ hb,?_,?_⟩⟩
      ·simp only [List.length_append,List.length_take,List.length_drop,lU];omega
      ·intro j hj;have rm:(cur.take off).length=off:=by rw [List.length_take];omega
       rw [List.append_assoc,List.getElem?_append_right (by rw [rm];omega),rm,show off + j - off=j by omega,List.getElem?_append_left hj]
 obtain ⟨w',fW,hk,iS⟩:=fW;unfold Oper.wp;rw [fW];have m:Mon (bF c L) (bF c L) w w':=Mon.lV hk fun g hg ho=>⟨ho,fun hm=>ho.2 (dz.2 ⟨_,List.mem_of_getElem? bx.h,hm⟩)⟩
 have hh:(an.row (.slice ao l1.length cap) e 1 l2).holds (bF c L) w':=⟨ys,by rw [← hn];exact iS,RX.cY m _ _ v2⟩
 have s2:=s.set bx.h (r':=.row (.slice ao l1.length cap) e 1 l2) rfl hk hh;rw [st.h] at s2;refine hK () _ w' hk (s2.lX ht (by unfold RD RA;exact ⟨rfl,rfl⟩)) fun y hy=>?_
 rw [← st.h] at hy;exact .inl ((ym bx.h (r':=.row (.slice ao l1.length cap) e 1 l2) rfl y).1 hy)⟩
theorem Ld.oW {e sz:Nat} {x:Operand} {d:D} {cs:List A} {zs:List Value} [i:fM P X e sz] [z:aX P e zs] (ht:t < c.N) (h:bg f x=some d) (hc:iz d=some cs) (hn:cs.length=sz) (h0:Nat.ble 1 sz=true) (hs:Nat.ble sz 1000=true) :
  Ld P c ⟨some t,.buildSlice X 1 #[(0,x)],T,ps,af,gd⟩ f L [] (fun _:Unit=>(t,.c (.r sz [cs])) :: f) (fun _=>L):=⟨fun a w s K Q hK =>
 (Ld.fO (P:=P) (c:=c) (T:=T) (ps:=ps) (af:=af) (gd:=gd) (f:=f) (L:=L) (e:=e) (sz:=sz) (zs:=zs) (X:=X) (t:=t) ht h hc hn h0 hs).go a w s K Q fun b u w' k' s' hf=>hK () u w' k' s'.freeze fun y hy=>hf y ((jo _ _ _).2 (.inr hy))⟩
theorem Ld.QF {e sz:Nat} [i:fM P X e sz] (ht:t < c.N):Ld P c ⟨some t,.buildSlice X 0 #[],T,ps,af,gd⟩ f L [] (fun _:Unit=>(t,.c (.r sz [])) :: f) (fun _=>L):=⟨fun a w s K Q hK =>
 (Ld.gR (P:=P) (c:=c) (T:=T) (ps:=ps) (af:=af) (gd:=gd) (f:=f) (L:=L) (e:=e) (sz:=sz) (X:=X) (t:=t) ht).go a w s K Q fun b u w' k' s' hf=>hK () u w' k' s'.freeze fun y hy=>hf y ((jo _ _ _).2 (.inr hy))⟩
theorem Qt.min {x y:Operand} {tys:Array TypeId} {k1:IntKind} {m n r:Int} (h:bg f x=some (.c (.v (.int k1 m)))) (hy:bg f y=some (.c (.v (.int k1 n)))) (hr:(if n < m then n else m)=r):Qt P c [] ⟨t,.call ⟨.builtin .min,#[x,y],tys⟩,T,ps,af,gd⟩ f L (.c (.v (.int k1 r))):=⟨fun a w s=>by
 have rx:=s.val h;have ry:=s.val hy;subst hr;refine ⟨_,by unfold RD RA;exact ⟨rfl,rfl⟩,fun w' k=>?_⟩;simp only [execOp,resolve,invoke,builtin,Sem.run_bind];simp [rx,ry,Builtin.min_,Builtin.min2,Sem.run_bind]⟩
end
end Fl
namespace Pn
structure Cs where
 send:Bool
 ch:Int
 v:Int
structure Op where
 kind:Int
 ch:Int
 n:Int
 v:Int
 cases:List Cs
 dR:Bool
theorem Cs.ext {a b:Cs} (h1:a.send=b.send) (h2:a.ch=b.ch) (h3:a.v=b.v):a=b:=by cases a;cases b;simp_all
theorem Op.ext {a b:Op} (h1:a.kind=b.kind) (h2:a.ch=b.ch) (h3:a.n=b.n) (h4:a.v=b.v) (h5:a.cases=b.cases) (h6:a.dR=b.dR):a=b:=by cases a;cases b;simp_all
instance:DecidableEq Cs:=fun a b=>decidable_of_iff (a.send=b.send∧a.ch=b.ch∧a.v=b.v) ⟨fun ⟨h1,h2,h3⟩=>Cs.ext h1 h2 h3,fun h=>by subst h;simp⟩
instance:DecidableEq Op:=fun a b=>decidable_of_iff (a.kind=b.kind∧a.ch=b.ch∧a.n=b.n∧a.v=b.v∧a.cases=b.cases∧a.dR=b.dR) ⟨fun ⟨h1,h2,h3,h4,h5,h6⟩=>Op.ext h1 h2 h3 h4 h5 h6,fun h=>by subst h;simp⟩
instance:Inhabited Cs:=⟨⟨false,0,0⟩⟩
instance:Inhabited Op:=⟨⟨0,0,0,0,[],false⟩⟩
def jN (k:Int):Bool:=decide (2≤k) && decide (k≤8)
def jO (k:Int):Bool:=(k == 2) || (k == 4)
def lA (c:Cs):Bool:=decide (0≤c.ch∧c.ch≤8∧0≤c.v∧c.v≤255∧(c.send=false→c.v=0))
def fu (o:Op):Bool:=decide (1≤o.kind∧o.kind≤9∧0≤o.ch∧o.ch≤8∧0≤o.n∧o.n≤4∧0≤o.v∧o.v≤255∧o.cases.length≤6 ∧
 (jN o.kind=false→o.ch=0)∧(jO o.kind=false→o.v=0)∧(o.kind≠1→o.n=0)∧(o.kind≠9→o.cases=[]∧o.dR=false)∧∀ c∈o.cases,lA c=true)
def mK (l:List Op):Bool:=decide (l.length≤16∧∀ o∈l,fu o=true)
def right (p:List (List Op)):Bool:=decide (1≤p.length∧p.length≤8∧∀ l∈p,mK l=true)
section
variable {α:Type} {f:Nat→α × Nat}
end
end Pn
namespace Md
structure Ch where
 cap:Int
 buf:List Int
 closed:Bool
structure St where
 au:List Ch
 waits:Int→Option Pn.Op
structure Sd where
 ch:Int
 send:Bool
 v:Int
structure an where
 code:Int
 cs:Int
 v:Int
 ok:Bool
 n:Int
end Md
namespace Sx
structure Gr where
 ops:List Pn.Op
 at_:Int
 place:Int
 status:Int
 token:Bool
 call:Int
 aU:Bool
 param:Int
 aI:Int
 hold:Int
 t:Int
 iJ:Int
 bE:Int
 wi:Int
 dJ:Int
 res:Md.an
 order:List Int
 aF:List Int
 ax:List Int
 ak:List Int
 k:Int
structure Cn where
 cap:Int
 buf:List Int
 closed:Bool
 lock:Int
 recv:List Int
 send:List Int
structure Su where
 live:Bool
 g:Int
 ch:Int
 cs:Int
 send:Bool
 v:Int
 done:Bool
structure Mk where
 g:Int
 op:Int
 call:Int
 iJ:Int
 bE:Int
 wi:Int
 dJ:Int
 re:Int
 res:Md.an
structure ah where
 dh:Int
 bP:Int
 step:Int
 gs:List Gr
 au:List Cn
 aB:List Su
 cache:List (List Int)
 middle:List Int
 fresh:Int
 dG:List Int
 drawn:Int
 done:List Mk
def QG:Md.an:=⟨0,-1,0,false,0⟩
def clean (ops:List Pn.Op) (a:Int):Gr:=⟨ops,a,0,0,false,0,false,-1,-1,-1,0,0,0,-1,-1,QG,[],[],[],[],0⟩
def fB:Su:=⟨false,0,0,0,false,0,false⟩
def tj:ah:=⟨0,0,0,[],[],[],[],[],0,[],0,[]⟩
def can (s g c:Int):Bool:=decide (0≤s∧s≤64∧0≤g∧g≤8∧1≤c∧c≤16)
def start (p:List (List Pn.Op)) (s c:Int) (d:List Int):ah:=⟨s,c,0,p.map (clean · 0),[],List.replicate s.toNat fB,p.map (fun _=>[]),[],0,d,0,[]⟩
def new (p:List (List Pn.Op)) (s c:Int) (d:List Int):ah × Int :=
 if Pn.right p=false then (tj,3) else if can s p.length c=false then (tj,1) else (start p s c d,0)
end Sx
open Go.RowKit
def fq (L:List (List Nat)):Prop:=L.Pairwise fun A B=>∀ x∈A,x∉B
def BR (w:World) (v:Value) (l:List Bool) (S:List Nat):Prop:=Row w v 4 1 l.length (l.map Value.bool) S
section
variable {w w':World} {v:Value} {l:List Bool} {S T:List Nat}
theorem BR.aY (h:BR w v l S) (k:aq T w w') (hn:∀ x∈S,x∉T):BR w' v l S:=Row.aY h k hn
theorem BR.lt (h:BR w v l S):∀ k∈S,k < w.heap.size:=Row.lt h
theorem BR.le (h:BR w v l S):l.length≤maxLen:=Row.le h
theorem BR.shape (h:BR w v l S):∃ ao cap,v=.slice ao l.length cap:=Row.shape h
theorem BR.cells {ao:Option Addr} {m cap:Nat} (h:BR w (.slice ao m cap) l S) {k:Nat} {t:Bool} (hk:l[k]?=some t) :
  ∃ g off,ao=some ⟨g,off,none⟩∧S=[g]∧g < w.heap.size∧w.cell? ⟨g,off + k,none⟩=some (.bool t)∧w.frozen? ⟨g,off + k,none⟩=false:=by
 have fK:=(List.getElem?_eq_some_iff.1 hk).1;obtain ⟨g,off,h1,h2,h3,h4,h5⟩:=Row.cells h (by omega);exact ⟨g,off,h1,h2,h3,by rw [h4 k (by simpa using fK)];simp [hk],h5 k⟩
theorem BR.stored {g off m cap:Nat} (h:BR w (.slice (some ⟨g,off,none⟩) m cap) l S) (j:Nat) (hj:j < l.length) (t:Bool) :
  BR (w.setCell ⟨g,off + j,none⟩ (.bool t)) (.slice (some ⟨g,off,none⟩) m cap) (l.set j t) S∧aq S w (w.setCell ⟨g,off + j,none⟩ (.bool t)):=by
 have:=Row.stored h j (by simpa using hj) (.bool t);refine ⟨?_,this.2⟩;unfold BR;simpa using this.1
end
def Pl (w:World) (p:Value) (size most:Int) (C:List (List Int)) (M:List Int) (f:Int) (H:List Bool) (S:List Nat):Prop :=
 ∃ b vc vm vh T Us Tm Th,p=.pointer (some ⟨b,0,none⟩)∧cr w b [.int .i64 size,.int .i64 most,vc,vm,.int .i64 f,vh] 140 ∧
  NR w vc 28 3 C T Us∧IR w vm 3 M Tm∧BR w vh H Th∧fq [[b],T,Us.flatten,Tm,Th]∧S=b :: (T ++ Us.flatten ++ Tm ++ Th)
section
variable {w w':World} {p:Value} {size most f:Int} {C:List (List Int)} {M:List Int} {H:List Bool} {S T:List Nat}
theorem Pl.aY (h:Pl w p size most C M f H S) (k:aq T w w') (hn:∀ x∈S,x∉T):Pl w' p size most C M f H S:=by
 obtain ⟨b,vc,vm,vh,T1,Us,Tm,Th,rfl,hb,hc,hm,hh,ha,rfl⟩:=h;exact ⟨b,vc,vm,vh,T1,Us,Tm,Th,rfl,hb.aY k (hn b (by simp)),hc.aY k (fun x hx=>hn x (by simp [hx])) (fun U hU x hx=>hn x (by simp;right;right;left;exact ⟨U,hU,hx⟩)),
  hm.aY k (fun x hx=>hn x (by simp [hx])),hh.aY k (fun x hx=>hn x (by simp [hx])),ha,rfl⟩
theorem Pl.then (h:Pl w p size most C M f H S) (k:aq [] w w'):Pl w' p size most C M f H S:=h.aY k (by simp)
theorem Pl.shape (h:Pl w p size most C M f H S):∃ b,p=.pointer (some ⟨b,0,none⟩):=by
 obtain ⟨b,vc,vm,vh,T1,Us,Tm,Th,rfl,_⟩:=h;exact ⟨b,rfl⟩
theorem Pl.lt (h:Pl w p size most C M f H S):∀ k∈S,k < w.heap.size:=by
 obtain ⟨b,vc,vm,vh,T1,Us,Tm,Th,rfl,hb,hc,hm,hh,ha,rfl⟩:=h;intro k hk;simp only [List.mem_cons,List.mem_append,List.mem_flatten] at hk;rcases hk with rfl | ((hk | ⟨U,hU,hk⟩) | hk) | hk
 ·exact hb.lt
 ·exact hc.lt.1 k hk
 ·exact hc.lt.2 U hU k hk
 ·exact hm.lt k hk
 ·exact hh.lt k hk
end
namespace Po
def kF (C:List (List Int)) (g:Int):Bool:=decide (0≤g) && decide (g < C.length)
def live (f:Int) (H:List Bool) (x:Int):Bool:=decide (0≤x) && decide (x < f) && !(H.getD x.toNat false)
end Po
theorem uN (w:World) (p:Value) (size most f:Int) (C:List (List Int)) (M:List Int) (H:List Bool) (S:List Nat) (g:Int) (h:Pl w p size most C M f H S) :
  Calls Tryz.prog 110 #[p,.int .i64 g] w fun e w'=>e=.returned (.bool (Po.kF C g))∧w=w':=by
 obtain ⟨b,vc,vm,vh,T1,Us,Tm,Th,rfl,hb,hc,hm,hh,ha,rfl⟩:=h;have hle:=hc.le;unfold maxLen at hle;obtain ⟨ao,cap,rfl⟩:=hc.shape;have c2:w.cell? ⟨b,2,none⟩=some (.slice ao C.length cap):=hb.cell 2;clear hb hc hm hh ha
 cases h1:decide (0≤g) with
 | true =>
  go_enter Tryz.func110,Tryz.ntmps110
  go_wp2
  go_ret
  exact ⟨eW (by simp [Po.kF,h1]),rfl⟩
 | false =>
  go_enter Tryz.func110,Tryz.ntmps110
  go_wp2
  go_ret
  exact ⟨eW (by simp [Po.kF,h1]),rfl⟩
theorem QH (w:World) (p:Value) (size most f:Int) (C:List (List Int)) (M:List Int) (H:List Bool) (S:List Nat) (h:Pl w p size most C M f H S) :
  Calls Tryz.prog 54 #[p] w fun e w'=>e=.returned (.int .i64 f)∧w=w':=by
 obtain ⟨b,vc,vm,vh,T1,Us,Tm,Th,rfl,hb,hc,hm,hh,ha,rfl⟩:=h;have c4:w.cell? ⟨b,4,none⟩=some (.int .i64 f):=hb.cell 4;clear hb hc hm hh ha
 go_enter Tryz.func54,Tryz.ntmps54
 go_wp2
 go_ret
 exact ⟨rfl,rfl⟩
theorem El (w:World) (p:Value) (size most f:Int) (C:List (List Int)) (M:List Int) (H:List Bool) (S:List Nat) (x:Int) (h:Pl w p size most C M f H S) (hf:f≤H.length) :
  Calls Tryz.prog 184 #[p,.int .i64 x] w fun e w'=>e=.returned (.bool (Po.live f H x))∧w=w':=by
 obtain ⟨b,vc,vm,vh,T1,Us,Tm,Th,rfl,hb,hc,hm,hh,ha,rfl⟩:=h;have hle:=hh.le;unfold maxLen at hle;obtain ⟨ao,cap,rfl⟩:=hh.shape;have c4:w.cell? ⟨b,4,none⟩=some (.int .i64 f):=hb.cell 4;have c5:w.cell? ⟨b,5,none⟩=some (.slice ao H.length cap):=hb.cell 5
 by_cases h1:0≤x
 ·by_cases h2:x < f
  ·obtain ⟨n,rfl⟩:=Int.eq_ofNat_of_zero_le h1;have hn:n < H.length:=by omega
   obtain ⟨g,off,rfl,rfl,hg,c6,_⟩:=hh.cells (List.getElem?_eq_getElem hn);have HF:Hid (Po.live f H n=!(H[n])):=Lib.hid (by simp [Po.live,h2,List.getD,hn]);clear hb hc hm hh ha;generalize H[n]=t at *
   go_enter Tryz.func184,Tryz.ntmps184
   go_wp2_with fail
   go_ret
   exact ⟨eW HF.out.symm,rfl⟩
  ·have HF:Hid (Po.live f H x=false):=Lib.hid (by simp [Po.live,h2]);clear hb hc hm hh ha
   go_enter Tryz.func184,Tryz.ntmps184
   go_wp2_with fail
   go_ret
   exact ⟨eW HF.out.symm,rfl⟩
 ·have HF:Hid (Po.live f H x=false):=Lib.hid (by simp [Po.live,h1]);clear hb hc hm hh ha
  go_enter Tryz.func184,Tryz.ntmps184
  go_wp2_with fail
  go_ret
  exact ⟨eW HF.out.symm,rfl⟩
open Go.RowKit
theorem rO:kz Tryz.prog 28 3 1 8 (.int .i64 0):=⟨Tryz.underlying28,by kernel_rfl,rfl,by decide,by decide⟩
def Em (r:List Int) (w:World) (e:Ending) (w':World):Prop :=
 ∃ v S,e=.returned v∧aq [] w w'∧IV w' v r S∧∀ k∈S,w.heap.size≤k
theorem QI (w:World) (p:Value) (size most f:Int) (C:List (List Int)) (M:List Int) (H:List Bool) (S:List Nat) (h:Pl w p size most C M f H S) (hM:M.length≤1000) :
  Calls Tryz.prog 53 #[p] w (Em M w):=by
 obtain ⟨b,vc,vm,vh,T1,Us,Tm,Th,rfl,hb,hc,hm,hh,ha,rfl⟩:=h;obtain ⟨ao,cap,rfl⟩:=hm.shape;have c3:w.cell? ⟨b,3,none⟩=some (.slice ao M.length cap):=hb.cell 3;have HM:=Lib.hid hm;have HB:=Lib.hid hM;clear hb hc hm hh ha hM
 go_enter Tryz.func53,Tryz.ntmps53
 go_wp2_with (at_builtin;go_must (refine DE rO (IR.nil w 3) HM.out.iv (by have:=HB.out;simp;omega) ?_))
 intro QJ QK w1 S1 r1 k1 s1;have R1:=Lib.hid r1;have K1:=Lib.hid k1;have T1:=Lib.hid s1;clear r1 k1 s1
 go_wp2_with fail
 go_ret
 exact ⟨_,S1,rfl,K1.out,by simpa using R1.out.iv,T1.out⟩
namespace Po
def cache (C:List (List Int)) (g:Int):List Int:=if kF C g then C.getD g.toNat [] else []
end Po
theorem QL (w:World) (p:Value) (size most f:Int) (C:List (List Int)) (M:List Int) (H:List Bool) (S:List Nat) (g:Int) (h:Pl w p size most C M f H S) (hC:∀ l∈C,l.length≤1000) :
  Calls Tryz.prog 58 #[p,.int .i64 g] w (Em (Po.cache C g) w):=by
 have HP:=Lib.hid h;obtain ⟨b,vc,vm,vh,T1,Us,Tm,Th,rfl,hb,hc,hm,hh,ha,rfl⟩:=h
 cases h1:Po.kF C g with
 | true =>
  have h2:=h1;simp only [Po.kF,Bool.and_eq_true,decide_eq_true_eq] at h2;obtain ⟨n,rfl⟩:=Int.eq_ofNat_of_zero_le h2.1;have hn:n < C.length:=by omega
  have hle:=hc.le;unfold maxLen at hle;obtain ⟨ao,cap,rfl⟩:=hc.shape;have hk:=List.getElem?_eq_getElem hn;have HF:Hid (Po.cache C n=C[n]):=Lib.hid (by simp [Po.cache,h1,List.getD,hn]);have hl:=hC _ (List.getElem_mem hn);obtain ⟨g2,off,x,U,rfl,rfl,hg,c6,_,hr,hU,_⟩:=hc.get hk;have c2:w.cell? ⟨b,2,none⟩=some (.slice (some ⟨g2,off,none⟩) C.length cap):=hb.cell 2;generalize C[n]=l at *;obtain ⟨QM,QN,rfl⟩:=hr.shape;have HR:=Lib.hid hr;have HL:=Lib.hid hl;clear hb hc hm hh ha hC hr hl hk hU h2
  go_enter Tryz.func58,Tryz.ntmps58
  go_wp2_with fail
  refine (uN _ _ _ _ _ _ _ _ _ _ HP.out).mono ?_
  rintro e w1 ⟨rfl,rfl⟩
  rw [h1]
  go_wp2_with (at_builtin;go_must (refine DE rO (IR.nil w 3) HR.out.iv (by have:=HL.out;simp;omega) ?_))
  intro QJ QK w1 S1 r1 k1 s1;have R1:=Lib.hid r1;have K1:=Lib.hid k1;have T1:=Lib.hid s1;clear r1 k1 s1
  go_wp2_with fail
  go_ret
  exact ⟨_,S1,rfl,K1.out,by rw [HF.out];simpa using R1.out.iv,T1.out⟩
 | false =>
  have HF:Hid (Po.cache C g=[]):=Lib.hid (by simp [Po.cache,h1]);clear hb hc hm hh ha hC
  go_enter Tryz.func58,Tryz.ntmps58
  go_wp2_with fail
  refine (uN _ _ _ _ _ _ _ _ _ _ HP.out).mono ?_
  rintro e w1 ⟨rfl,rfl⟩
  rw [h1]
  go_wp2_with fail
  go_ret
  exact ⟨_,[],rfl,aq.refl _ _,by rw [HF.out];exact IV.nil _,by simp⟩
namespace Po
def outs (H:List Bool) (k:Nat):Nat:=((H.take k).filter (fun t=>!t)).length
theorem QO (H:List Bool) (k:Nat) (t:Bool) (h:H[k]?=some t):outs H (k + 1)=outs H k + (if t then 0 else 1):=by
 obtain ⟨hk,rfl⟩:=List.getElem?_eq_some_iff.1 h;unfold outs;rw [List.take_succ_eq_append_getElem hk,List.filter_append,List.length_append]
 cases H[k] <;> simp
end Po
namespace Po
structure St where
 C:List (List Int)
 M:List Int
 f:Nat
 H:List Bool
def room (most:Nat):Nat:=max 1 (most / 2)
def nB (most:Nat) (c M:List Int):Nat:=if c=[] then min (room most) M.length else 0
def own (most:Nat) (c M:List Int):List Int:=c ++ M.reverse.take (nB most c M)
def bp (most:Nat) (c M:List Int):List Int:=M.take (M.length - nB most c M)
def qt (s:St) (g:Nat) (o m:List Int):St:=⟨s.C.set g o.dropLast,m,s.f,s.H.set (o.getLastD 0).toNat false⟩
def take (size most:Nat) (s:St) (g:Int):St × Int × Bool :=
 if kF s.C g then
  if own most (s.C.getD g.toNat []) s.M=[] then (if s.f < size then (⟨s.C,s.M,s.f + 1,s.H⟩,(s.f:Int),true) else (s,0,false))
  else (qt s g.toNat (own most (s.C.getD g.toNat []) s.M) (bp most (s.C.getD g.toNat []) s.M),(own most (s.C.getD g.toNat []) s.M).getLastD 0,true)
 else (s,0,false)
def eD (most:Nat) (c:List Int):Nat:=if c.length=most then c.length - most / 2 else 0
def qu (most:Nat) (s:St) (g:Nat) (c:List Int) (x:Int):St:=⟨s.C.set g (c.take (c.length - eD most c) ++ [x]),s.M ++ c.reverse.take (eD most c),s.f,s.H.set x.toNat true⟩
def cy (most:Nat) (s:St) (g x:Int):St × Bool :=
 if kF s.C g && live s.f s.H x then (qu most s g.toNat (s.C.getD g.toNat []) x,true) else (s,false)
def dZ (s:St) (a:Int):Nat:=s.M.count a + s.C.flatten.count a
structure Inv (size most:Nat) (s:St):Prop where
 m1:1≤most
 m2:most≤16
 s1:size≤64
 hl:s.H.length=size
 fl:s.f≤size
 one:∀ a,dZ s a≤1
 bound:∀ a,1≤dZ s a→0≤a∧a < s.f
 home:∀ x:Nat,x < size→s.H.getD x false=decide (1≤dZ s (x:Int))
 qv:∀ c∈s.C,c.length≤most
theorem count_set {α:Type} [BEq α] [LawfulBEq α] (a:α):∀ (C:List (List α)) (g:Nat) (c c':List α),C[g]?=some c→(C.set g c').flatten.count a + c.count a=C.flatten.count a + c'.count a
 | [],g,c,c',h=>by simp at h
 | y :: r,0,c,c',h=>by
  simp at h;subst h;simp [List.count_append];omega
 | y :: r,g + 1,c,c',h=>by
  have:=count_set a r g c c' (by simpa using h);simp [List.count_append];omega
theorem I7 {α:Type} [BEq α] [LawfulBEq α] (a:α) (l:List α) (k:Nat):(l.take k).count a + (l.drop k).count a=l.count a:=by
 rw [← List.count_append,List.take_append_drop]
theorem I8 (M:List Int) (n:Nat):M.reverse.take n=(M.drop (M.length - n)).reverse:=by
 rw [List.take_reverse]
theorem QT (most:Nat) (c M:List Int) (a:Int):(own most c M).count a + (bp most c M).count a=c.count a + M.count a:=by
 unfold own bp;rw [I8,List.count_append,List.count_reverse];have:=I7 a M (M.length - nB most c M);omega
theorem I9 {most:Nat} (h1:1≤most) {c M:List Int} (h:own most c M=[]):c=[]∧M=[]:=by
 unfold own nB room at h;simp only [List.append_eq_nil_iff] at h;obtain ⟨rfl,h⟩:=h;refine ⟨rfl,?_⟩;rw [if_pos rfl] at h
 cases M with
 | nil=>rfl
 | cons x r =>
  have:=congrArg List.length h;simp at this
theorem QU {s:St} {a:Int}:1≤dZ s a↔a∈s.M∨∃ c∈s.C,a∈c:=by
 unfold dZ
 constructor
 ·intro h;have h2:0 < s.M.count a∨0 < s.C.flatten.count a:=by omega
  rcases h2 with h2 | h2
  ·exact .inl (List.count_pos_iff.1 h2)
  ·right
   have:=List.count_pos_iff.1 h2;simpa using this
 ·rintro (h | ⟨c,hc,h⟩)
  ·have:=List.count_pos_iff.2 h;omega
  ·have:0 < s.C.flatten.count a:=List.count_pos_iff.2 (List.mem_flatten.2 ⟨c,hc,h⟩);omega
theorem En {o:List Int} (h:o≠[]):o=o.dropLast ++ [o.getLastD 0]:=by
 have:=List.dropLast_concat_getLast h;rw [List.getLastD_eq_getLast?,List.getLast?_eq_some_getLast h];exact this.symm
theorem mL {α:Type} (l:List α) (i j:Nat) (t d:α) (h:i < l.length):(l.set i t).getD j d=if i=j then t else l.getD j d:=by
 by_cases e:i=j
 ·subst e;simp [h]
 ·simp [List.getD,e]
theorem Inv.last {size most:Nat} {s:St} (v:Inv size most s) {g:Nat} {c:List Int} (hg:s.C[g]?=some c) {o:List Int} (ho:o=own most c s.M) (h0:o≠[]) :
  0≤o.getLastD 0∧o.getLastD 0 < s.f:=by
 have hm:o.getLastD 0∈o:=by
  have:=En h0;generalize o.getLastD 0=x at *;rw [this];simp
 apply v.bound;apply QU.2;generalize o.getLastD 0=x at *;rw [ho] at hm;unfold own at hm;rcases List.mem_append.1 hm with h | h
 ·exact .inr ⟨c,List.mem_of_getElem? hg,h⟩
 ·left
  have:=List.mem_of_mem_take h;simpa using this
theorem Ja {most:Nat} (h1:1≤most) {c M:List Int} (hc:c.length≤most):(own most c M).length≤most:=by
 unfold own nB room
 by_cases h:c=[]
 ·subst h;simp;omega
 ·simp [h];exact hc
def ind (x a:Int):Nat:=if x=a then 1 else 0
theorem QV {o:List Int} (h:o≠[]) (a:Int):o.count a=o.dropLast.count a + ind (o.getLastD 0) a:=by
 conv=>lhs;rw [En h]
 rw [List.count_append,List.count_singleton];unfold ind
 by_cases e:o.getLastD 0=a <;> simp [e]
theorem Eo {size most:Nat} {s:St} {g:Nat} {c:List Int} (hg:s.C[g]?=some c) (h0:own most c s.M≠[]) (a:Int) :
  dZ (qt s g (own most c s.M) (bp most c s.M)) a + ind ((own most c s.M).getLastD 0) a=dZ s a:=by
 have e1:=count_set a s.C g c (own most c s.M).dropLast hg;have e2:=QT most c s.M a;have e3:=QV h0 a
 show (bp most c s.M).count a + (s.C.set g (own most c s.M).dropLast).flatten.count a + _=s.M.count a + s.C.flatten.count a;omega
theorem mem_set {α:Type} {l:List α} {g:Nat} {c x:α} (h:x∈l.set g c):x∈l∨x=c:=List.mem_or_eq_of_mem_set h
theorem Inv.qt {size most:Nat} {s:St} (v:Inv size most s) {g:Nat} {c:List Int} (hg:s.C[g]?=some c) (h0:own most c s.M≠[]) :
  Inv size most (qt s g (own most c s.M) (bp most c s.M)):=by
 have hb:=v.last hg rfl h0;have nC:=Eo (size:=size) hg h0;have mD:=Ja v.m1 (M:=s.M) (v.qv c (List.mem_of_getElem? hg));have jL:dZ s ((own most c s.M).getLastD 0)≤1:=v.one _;refine ⟨v.m1,v.m2,v.s1,by simpa [Po.qt] using v.hl,v.fl,fun a=>by have:=nC a;have:=v.one a;omega,fun a ha=>v.bound a (by have:=nC a;omega),?_,?_⟩
 ·intro x hx;have tn:=nC (x:Int);have rF:=v.one (x:Int);have yF:=v.home x hx;have lp:=v.fl;have kB:=nC ((own most c s.M).getLastD 0)
  show (s.H.set ((own most c s.M).getLastD 0).toNat false).getD x false=_;rw [mL _ _ _ _ _ (by rw [v.hl];omega)];unfold ind at tn kB;rw [if_pos rfl] at kB
  by_cases e:((own most c s.M).getLastD 0).toNat=x
  ·rw [if_pos e];have e2:(own most c s.M).getLastD 0=(x:Int):=by omega
   rw [if_pos e2] at tn;simp;omega
  ·rw [if_neg e];have e2:(own most c s.M).getLastD 0≠(x:Int):=by omega
   rw [if_neg e2] at tn;rw [yF];simp only [decide_eq_decide];omega
 ·intro d hd;rcases mem_set hd with h | rfl
  ·exact v.qv d h
  ·simp;omega
theorem Inv.fresh {size most:Nat} {s:St} (v:Inv size most s) (h:s.f < size):Inv size most ⟨s.C,s.M,s.f + 1,s.H⟩ :=
 ⟨v.m1,v.m2,v.s1,v.hl,h,v.one,fun a ha=>by have:=v.bound a ha;exact ⟨this.1,by simp;omega⟩,v.home,v.qv⟩
theorem Jb {most:Nat} {s:St} {g:Nat} {c:List Int} (hg:s.C[g]?=some c) (x a:Int):dZ (qu most s g c x) a=dZ s a + ind x a:=by
 have e1:=count_set a s.C g c (c.take (c.length - eD most c) ++ [x]) hg;have e2:=I7 a c (c.length - eD most c);have e3:[x].count a=ind x a:=by unfold ind;rw [List.count_singleton];by_cases e:x=a <;> simp [e]
 show (s.M ++ c.reverse.take (eD most c)).count a + (s.C.set g (c.take (c.length - eD most c) ++ [x])).flatten.count a=s.M.count a + s.C.flatten.count a + _;rw [List.count_append,I8,List.count_reverse];rw [List.count_append,e3] at e1;omega
theorem Inv.live {size most:Nat} {s:St} (v:Inv size most s) (x:Int):live s.f s.H x=(decide (0≤x) && decide (x < s.f) && decide (dZ s x=0)):=by
 unfold Po.live
 by_cases h1:0≤x
 ·by_cases h2:x < s.f
  ·have:=v.home x.toNat (by have:=v.fl;omega);rw [this,Int.toNat_of_nonneg h1];simp only [h1,h2,decide_true,Bool.true_and];rw [Bool.eq_iff_iff];simp
  ·simp [h2]
 ·simp [h1]
theorem Inv.qu {size most:Nat} {s:St} (v:Inv size most s) {g:Nat} {c:List Int} (hg:s.C[g]?=some c) {x:Int} (hx:Po.live s.f s.H x=true) :
  Inv size most (qu most s g c x):=by
 rw [v.live] at hx;simp only [Bool.and_eq_true,decide_eq_true_eq] at hx;obtain ⟨⟨qw,tn⟩,rF⟩:=hx;have nC:=Jb (most:=most) hg x;have bY:=v.qv c (List.mem_of_getElem? hg);refine ⟨v.m1,v.m2,v.s1,by simpa [Po.qu] using v.hl,v.fl,?_,?_,?_,?_⟩
 ·intro a;rw [nC];have:=v.one a;unfold ind
  split
  ·rename_i e;subst e;omega
  ·omega
 ·intro a ha;rw [nC] at ha;unfold ind at ha
  split at ha
  ·rename_i e;subst e;exact ⟨qw,tn⟩
  ·exact v.bound a (by omega)
 ·intro y hy;rw [nC];have lp:=v.fl
  show (s.H.set x.toNat true).getD y false=_;rw [mL _ _ _ _ _ (by rw [v.hl];omega),v.home y hy];unfold ind
  by_cases e:x.toNat=y
  ·rw [if_pos e,if_pos (show x=(y:Int) by omega)];simp
  ·rw [if_neg e,if_neg (show x≠(y:Int) by omega)];simp
 ·intro d hd;rcases mem_set hd with h | rfl
  ·exact v.qv d h
  ·have:=v.m1;simp only [List.length_append,List.length_take,List.length_singleton];unfold eD
   split <;> omega
theorem Inv.cy {size most:Nat} {s:St} (v:Inv size most s) (g x:Int):Inv size most (cy most s g x).1:=by
 unfold Po.cy
 split
 ·rename_i ht;simp only [kF,Bool.and_eq_true,decide_eq_true_eq] at ht;have hg:s.C[g.toNat]?=some (s.C.getD g.toNat []):=by
   rw [List.getD_eq_getElem?_getD,List.getElem?_eq_getElem (by omega)];simp
  exact v.qu hg ht.2
 ·exact v
def nD (L:List Int):Nat→Nat
 | 0=>0
 | k + 1=>nD L k + L.count (k:Int)
theorem QW (k:Nat):nD [] k=0:=by induction k with
 | zero=>rfl
 | succ k ih=>simp [nD,ih]
theorem QX (y:Int) (r:List Int) (k:Nat):nD (y :: r) k=nD r k + if 0≤y∧y < k then 1 else 0:=by
 induction k with
 | zero =>
  rw [if_neg (by omega)];rfl
 | succ k ih =>
  have e1:nD (y :: r) (k + 1)=nD (y :: r) k + (y :: r).count (k:Int):=rfl;have e2:nD r (k + 1)=nD r k + r.count (k:Int):=rfl;rw [e1,e2,ih,List.count_cons]
  by_cases e:y=(k:Int)
  ·rw [if_neg (by omega),if_pos (by simpa using e),if_pos (by omega)];omega
  ·have e3:(y == (k:Int))=false:=by simpa using e
   rw [e3,if_neg (show ¬ (false=true) by decide)]
   by_cases h:0≤y∧y < k
   ·rw [if_pos h,if_pos (by omega)];omega
   ·rw [if_neg h,if_neg (by omega)];omega
theorem QY (L:List Int) (k:Nat) (h:∀ a∈L,0≤a∧a < k):nD L k=L.length:=by
 induction L with
 | nil=>exact QW k
 | cons y r ih =>
  rw [QX,ih (fun a ha=>h a (by simp [ha])),if_pos (h y (by simp))];simp
theorem QZ (H:List Bool) (L:List Int) (tq:∀ a,L.count a≤1) (k:Nat) (hk:k≤H.length) (hH:∀ x:Nat,x < k→H.getD x false=decide (1≤L.count (x:Int))):outs H k + nD L k=k:=by
 induction k with
 | zero=>simp [outs,nD]
 | succ k ih =>
  have hx:H[k]?=some (H.getD k false):=by rw [List.getD_eq_getElem?_getD,List.getElem?_eq_getElem (by omega)];simp
  rw [QO H k _ hx,hH k (by omega),nD];have:=ih (by omega) (fun x hx=>hH x (by omega));have:=tq (k:Int)
  by_cases e:1≤L.count (k:Int)
  ·simp [e];omega
  ·simp [e];omega
theorem Inv.outs {size most:Nat} {s:St} (v:Inv size most s):outs s.H s.f + (s.M.length + s.C.flatten.length)=s.f:=by
 have hc:∀ a,(s.M ++ s.C.flatten).count a=dZ s a:=fun a=>by rw [List.count_append];rfl
 have h1:=QZ s.H (s.M ++ s.C.flatten) (fun a=>by rw [hc];exact v.one a) s.f (by rw [v.hl];exact v.fl) (fun x hx=>by rw [hc];exact v.home x (by have:=v.fl;omega));have h2:=QY (s.M ++ s.C.flatten) s.f (fun a ha=>v.bound a (by rw [← hc];exact List.count_pos_iff.2 ha));rw [h2,List.length_append] at h1;exact h1
theorem Inv.lens {size most:Nat} {s:St} (v:Inv size most s):s.M.length≤64∧s.C.flatten.length≤64:=by
 have:=v.outs;have:=v.fl;have:=v.s1;omega
end Po
end Go.Proofs.YtdjhhbpedllnhaaGreat
