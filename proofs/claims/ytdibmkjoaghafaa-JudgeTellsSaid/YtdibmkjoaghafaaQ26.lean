/-
  What the laws need, part Q26.
  Conditions: none.
-/
import Derived.Test.YtdibmkjoaghafaaQ25
set_option linter.unusedVariables false
set_option linter.unusedSimpArgs false
set_option linter.unnecessarySimpa false
set_option maxHeartbeats 2000000
namespace Go.Proofs.Ytdibmkjoaghafaa
open Go.RowKit
namespace Jg
theorem bothG_no {st:Md.St} {s r:Sx.Mk} {os or:Pn.Op} (h:∀ a b,Md.side os s.fire=some a→Md.side or r.fire=some b→a.send=true→b.send=false→a.ch=b.ch→s.wi=r.g→r.wi=s.g→Md.chan st.chans a.ch=none):bothB st s os r or=false:=by
 unfold bothB bothG
 cases h1:Md.side os s.fire with
 | none=>rfl
 | some a =>
  cases h2:Md.side or r.fire with
  | none=>rfl
  | some b =>
   simp only
   by_cases q:a.send=true∧b.send=false∧a.ch=b.ch∧s.wi=r.g∧r.wi=s.g
   ·rw [if_pos q,h a b h1 h2 q.1 q.2.1 q.2.2.1 q.2.2.2.1 q.2.2.2.2]
   ·rw [if_neg q]
theorem both_yes {st:Md.St} {s r:Sx.Mk} {os or:Pn.Op} {a b:Md.Sd} {c:Md.Ch} (h1:Md.side os s.fire=some a) (h2:Md.side or r.fire=some b) (q1:a.send=true) (q2:b.send=false) (q3:a.ch=b.ch) (q4:s.wi=r.g) (q5:r.wi=s.g) (q6:Md.chan st.chans a.ch=some c) :
  bothB st s os r or=coreB st c s os r or∧bothS st s os r or=coreS st c s os r or:=by
 unfold bothB bothS bothG;rw [h1,h2];simp only;rw [if_pos ⟨q1,q2,q3,q4,q5⟩,q6];exact ⟨rfl,rfl⟩
theorem two_no {st:Md.St} {a b:Sx.Mk} {oa ob:Pn.Op} (h1:bothB st a oa b ob=false) (h2:bothB st b ob a oa=false):twoB st a oa b ob=false:=by
 unfold twoB;split <;> assumption
theorem two_wi {st:Md.St} {a b:Sx.Mk} {oa ob:Pn.Op} (h:¬ (a.wi=b.g∧b.wi=a.g)):twoB st a oa b ob=false :=
 two_no (bothG_no fun x y _ _ _ _ _ q4 q5=>absurd ⟨q4,q5⟩ h) (bothG_no fun x y _ _ _ _ _ q4 q5=>absurd ⟨q5,q4⟩ h)
theorem two_sd {st:Md.St} {a b:Sx.Mk} {oa ob:Pn.Op} (h:Md.side oa a.fire=none∨Md.side ob b.fire=none):twoB st a oa b ob=false :=
 two_no (bothG_no fun x y h1 h2 _ _ _ _ _=>by rcases h with h | h <;> (first | (rw [h] at h1;cases h1) | (rw [h] at h2;cases h2))) (bothG_no fun x y h1 h2 _ _ _ _ _=>by rcases h with h | h <;> (first | (rw [h] at h1;cases h1) | (rw [h] at h2;cases h2)))
theorem two_ch {st:Md.St} {a b:Sx.Mk} {oa ob:Pn.Op} {x y:Md.Sd} (h1:Md.side oa a.fire=some x) (h2:Md.side ob b.fire=some y) (h:x.send=y.send∨x.ch≠y.ch∨Md.chan st.chans x.ch=none):twoB st a oa b ob=false :=
 two_no (bothG_no fun x' y' e1 e2 q1 q2 q3 _ _=>by
  rw [h1] at e1;rw [h2] at e2;obtain rfl:=Option.some.inj e1;obtain rfl:=Option.some.inj e2;rcases h with h | h | h
  ·rw [q1,q2] at h;cases h
  ·exact absurd q3 h
  ·exact h) (bothG_no fun y' x' e2 e1 q1 q2 q3 _ _=>by
  rw [h1] at e1;rw [h2] at e2;obtain rfl:=Option.some.inj e1;obtain rfl:=Option.some.inj e2;rcases h with h | h | h
  ·rw [q1,q2] at h;cases h
  ·exact absurd q3.symm h
  ·rw [q3];exact h)
theorem two_fst {st:Md.St} {a b:Sx.Mk} {oa ob:Pn.Op} {x y:Md.Sd} {c:Md.Ch} (h1:Md.side oa a.fire=some x) (h2:Md.side ob b.fire=some y) (q1:x.send=true) (q2:y.send=false) (q3:x.ch=y.ch) (q4:a.wi=b.g) (q5:b.wi=a.g) (q6:Md.chan st.chans x.ch=some c) :
  twoB st a oa b ob=coreB st c a oa b ob∧twoS st a oa b ob=coreS st c a oa b ob:=by
 have hs:sends oa a.fire=true:=by unfold sends;rw [h1];exact q1
 unfold twoB twoS;rw [if_pos hs,if_pos hs];exact both_yes h1 h2 q1 q2 q3 q4 q5 q6
theorem two_snd {st:Md.St} {a b:Sx.Mk} {oa ob:Pn.Op} {x y:Md.Sd} {c:Md.Ch} (h1:Md.side oa a.fire=some x) (h2:Md.side ob b.fire=some y) (q1:x.send=false) (q2:y.send=true) (q3:x.ch=y.ch) (q4:a.wi=b.g) (q5:b.wi=a.g) (q6:Md.chan st.chans x.ch=some c) :
  twoB st a oa b ob=coreB st c b ob a oa∧twoS st a oa b ob=coreS st c b ob a oa:=by
 have hs:¬ sends oa a.fire=true:=by unfold sends;rw [h1];simp [q1]
 unfold twoB twoS;rw [if_neg hs,if_neg hs];exact both_yes h2 h1 q2 q1 q3.symm q5 q4 (by rw [← q3];exact q6)
end Jg
namespace Fl
set_option maxRecDepth 100000
set_option maxHeartbeats 4000000
section
variable {P:Program} {c:Cx} {f:Fm} {L:List Res} {T:TypeId} {ps:String} {af:Array Edge} {gd:Option (Nat × Bool)} {t:Nat}
theorem Qt.buildA {r:List A} {X:Nat} {parts:List (Nat × Operand)} {pl:List (Nat × Nat)} {zs:List Value} {l:List (Nat × List A)} [z:TyZ' P X zs] [i:TyP P X pl] (h:evP f parts=some l) (hf:fillA pl (vs zs) l=some r):Qt P c [] ⟨t,.build X parts.toArray,T,ps,af,gd⟩ f L (.agg r):=⟨fun a w s=>by
 obtain ⟨g1,g2⟩:=evP.rep s h;obtain ⟨zv,hz1,hz2⟩:=tyZero.run z.h;obtain ⟨fs,u1,u2⟩:=tyPlaces.run i.h;obtain ⟨us,r1,r2⟩:=fillA.run (ok:=okk c L) (w:=w) l (parts.map fun p=>(p.1,a.eval p.2)) (vs zs) _ zv.cells hf (by rw [hz1];exact RC.vs z.o) g1 g2;refine ⟨.agg us,by unfold RD;exact ⟨us.toList,by simp,r2⟩,fun w' k=>?_⟩;have e:(parts.toArray.map fun (i,x)=>(i,a.eval x)).toList=parts.map fun p=>(p.1,a.eval p.2):=by simp
 simp only [execOp,Instr.build,Sem.run_bind,hz2,Result.andThen_ok,run_underlying u1,u2,e,r1,Sem.run_pure]⟩
end
abbrev After (N:Nat) (B:Bool) (T:Md.St):Type:={ q:Nat × Md.St × List Nat // q.1≤N∧(B=true→q.2.1=T) }
theorem t_alone (b N:Nat) (st:Md.St) (S:List Nat) (m:Sx.Mk) (o:Pn.Op) (hN:N≤90000) (hg:wf64L m.g) :
  Con Try.prog 18 [.c (.v (pt b)),.agg (eM m),.agg (eOp o)] [moT b N st S] (fun q:After (N + 1) (Jg.aloneB st m o) (Jg.aloneS st m o)=>(.c (bI (Jg.aloneB st m o)),[moT b q.1.1 q.1.2.1 q.1.2.2])):=by
 refine Con.intro Try.func18 rfl rfl rfl (fun ok e=>?_);have e1:Jg.aloneB st m o=if m.wi≠-1 then false else if m.res.code=2 then Md.no st m.g o else Jg.fireB st m o:=rfl
 have e2:Jg.aloneS st m o=if m.wi≠-1 then st else if m.res.code=2 then st else Jg.fireS st m o:=rfl
 generalize Jg.aloneB st m o=B at e1 ⊢;generalize Jg.aloneS st m o=T at e2 ⊢
 cases t1:(m.wi != -1)
 case true =>
  have h1:m.wi≠-1:=by simpa using t1
  rw [if_pos h1] at e1;subst e1
  repeat (first | refine gmQ ?_ | intro _)
  (exact J.retE [_,_] rfl Try.func18 rfl (.cons (.tmp rfl) .nil) ⟨(N,st,S),by simp only;omega,fun h=>by cases h⟩ (by exact .refl) rfl)
 have h1:¬ m.wi≠-1:=by simpa using t1
 rw [if_neg h1] at e1 e2
 cases t2:(m.res.code == 2)
 case true =>
  have h2:m.res.code=2:=by simpa using t2
  rw [if_pos h2] at e1 e2;have MN:=m_no b N st S m.g o;subst e1 e2
  repeat (first | (refine K.call ?_;refine JO.ld (Ld.callT (MN) (qb rfl) rfl (by (exact LeDs.cons .refl (.cons .refl (.cons .refl .nil))))) rfl (fun _=>?_)) | refine gmQ ?_ | intro _)
  (exact J.retE [_,_] rfl Try.func18 rfl (.cons (.tmp rfl) .nil) ⟨(N,T,S),by simp only;omega,fun _=>rfl⟩ (by exact .refl) rfl)
 have h2:¬ m.res.code=2:=by simpa using t2
 rw [if_neg h2] at e1 e2;unfold Jg.fireB at e1;unfold Jg.fireS at e2;have MF:=m_fire b N st S m.g o m.fire (by omega) hg;rcases hF:Md.fire st m.g o m.fire with ⟨st1,_ | r⟩
 ·rw [hF] at MF e1 e2;simp only [Option.isSome_none,Bool.false_and,Option.getD_none] at MF e1 e2;subst e1 e2
  repeat (first | (refine K.store ?_;refine JO.ld (Ld.storeW rfl rfl rfl (by exact rfl) (by exact rfl)) rfl (fun _=>?_)) | (refine K.call ?_;refine JO.ld (Ld.callT (MF) (qb rfl) rfl (by (exact LeDs.cons .refl (.cons .refl (.cons .refl (.cons .refl .nil)))))) rfl ?_;intro _) | refine gmQ ?_ | intro _)
  rename_i S1 _ _
  (exact J.retE [_,_,_] rfl Try.func18 rfl (.cons (.tmp rfl) .nil) ⟨(N + 1,T,S1),by simp only;omega,fun _=>rfl⟩ (by exact .refl) rfl)
 ·rw [hF] at MF e1 e2;simp only [Option.isSome_some,Bool.true_and,Option.getD_some] at MF e1 e2;subst e1 e2;have AG:=t_agrees m r
  repeat (first | (refine K.store ?_;refine JO.ld (Ld.storeW rfl rfl rfl (by exact rfl) (by exact rfl)) rfl (fun _=>?_)) | (refine K.call ?_;(refine JO.ld (Ld.callT (MF) (qb rfl) rfl (by (exact LeDs.cons .refl (.cons .refl (.cons .refl (.cons .refl .nil)))))) rfl ?_;intro _)) | refine gmQ ?_ | intro _)
  rename_i S1 _ _
  (exact J.retE [_,_,_] rfl Try.func18 rfl (.cons (.tmp rfl) .nil) ⟨(N + 1,T,S1),by simp only;omega,fun _=>rfl⟩ (by exact .refl) rfl)
theorem chan_at {l:List Md.Ch} {ch:Int} {c:Md.Ch} (h:Md.chan l ch=some c):(0:Int)≤ch - 1∧(l.map eCh)[(ch - 1).toNat]?=some (eCh c):=by
 unfold Md.chan at h
 split at h
 ·exact ⟨by omega,by rw [List.getElem?_map,h];rfl⟩
 ·cases h
theorem t_two (bp N:Nat) (st:Md.St) (S:List Nat) (a:Sx.Mk) (oa:Pn.Op) (b:Sx.Mk) (ob:Pn.Op) (hN:N≤90000) (hga:wf64L a.g) (hgb:wf64L b.g) (hc:st.chans.length≤8) :
  Con Try.prog 19 [.c (.v (pt bp)),.agg (eM a),.agg (eOp oa),.agg (eM b),.agg (eOp ob)] [moT bp N st S] (fun q:After (N + 2) (Jg.twoB st a oa b ob) (Jg.twoS st a oa b ob)=>(.c (bI (Jg.twoB st a oa b ob)),[moT bp q.1.1 q.1.2.1 q.1.2.2])):=by
 refine Con.intro Try.func19 rfl rfl rfl (fun ok e=>?_);obtain ⟨B,hB⟩:∃ B,Jg.twoB st a oa b ob=B:=⟨_,rfl⟩
 obtain ⟨T,hT⟩:∃ T,Jg.twoS st a oa b ob=T:=⟨_,rfl⟩
 rw [hB,hT]
 cases t1:(a.wi != b.g)
 case true =>
  obtain rfl:false=B:=by rw [← hB];exact (Jg.two_wi (by simp at t1;exact fun q=>t1 q.1)).symm
  repeat (first | refine jCQ t1 ?_ | refine gmQ ?_ | intro _)
  (exact J.retE [_,_,_,_] rfl Try.func19 rfl (.cons (.tmp rfl) .nil) ⟨(N,st,S),by simp only;omega,fun h=>by cases h⟩ (by exact .refl) rfl)
 cases t2:(b.wi != a.g)
 case true =>
  obtain rfl:false=B:=by rw [← hB];exact (Jg.two_wi (by simp at t2;exact fun q=>t2 q.2)).symm
  repeat (first | refine jCQ t1 ?_ | refine jCQ t2 ?_ | refine gmQ ?_ | intro _)
  (exact J.retE [_,_,_,_] rfl Try.func19 rfl (.cons (.tmp rfl) .nil) ⟨(N,st,S),by simp only;omega,fun h=>by cases h⟩ (by exact .refl) rfl)
 have MA:=m_side oa a.fire;have MB:=m_side ob b.fire;have MC:=m_chans bp N st S (by omega) (by omega);rcases hx:Md.side oa a.fire with _ | x
 ·rw [hx] at MA;simp only [Option.getD_none,Option.isSome_none] at MA;obtain rfl:false=B:=by rw [← hB];exact (Jg.two_sd (.inl hx)).symm
  repeat (first | (refine K.store ?_;refine JO.ld (Ld.storeW rfl rfl rfl (by exact rfl) (by exact rfl)) rfl (fun _=>?_)) | refine jCQ t1 ?_ | refine jCQ t2 ?_ | (refine K.call ?_;first | refine jPQ (MA) ?_ | refine jPQ (MB) ?_ | (refine JO.ld (Ld.callT (MC) (qb rfl) rfl (LeDs.cons .refl .nil)) rfl (fun _=>?_))) | refine gmQ ?_ | intro _)
  (exact J.retE [_,_,_,_,_,_] rfl Try.func19 rfl (.cons (.tmp rfl) .nil) ⟨(N,st,S),by simp only;omega,fun h=>by cases h⟩ (by exact .refl) rfl)
 rw [hx] at MA;simp only [Option.getD_some,Option.isSome_some] at MA;rcases hy:Md.side ob b.fire with _ | y
 ·rw [hy] at MB;simp only [Option.getD_none,Option.isSome_none] at MB;obtain rfl:false=B:=by rw [← hB];exact (Jg.two_sd (.inr hy)).symm
  repeat (first | (refine K.store ?_;refine JO.ld (Ld.storeW rfl rfl rfl (by exact rfl) (by exact rfl)) rfl (fun _=>?_)) | refine jCQ t1 ?_ | refine jCQ t2 ?_ | (refine K.call ?_;first | refine jPQ (MA) ?_ | refine jPQ (MB) ?_ | (refine JO.ld (Ld.callT (MC) (qb rfl) rfl (LeDs.cons .refl .nil)) rfl (fun _=>?_))) | refine gmQ ?_ | intro _)
  (exact J.retE [_,_,_,_,_,_] rfl Try.func19 rfl (.cons (.tmp rfl) .nil) ⟨(N,st,S),by simp only;omega,fun h=>by cases h⟩ (by exact .refl) rfl)
 rw [hy] at MB;simp only [Option.getD_some,Option.isSome_some] at MB
 cases t3:(x.send == y.send)
 case true =>
  obtain rfl:false=B:=by rw [← hB];exact (Jg.two_ch hx hy (.inl (by simpa using t3))).symm
  repeat (first | (refine K.store ?_;refine JO.ld (Ld.storeW rfl rfl rfl (by exact rfl) (by exact rfl)) rfl (fun _=>?_)) | (refine K.binOp ?_;first | refine jCQ t1 ?_ | refine jCQ t2 ?_ | refine jq rfl rfl rfl ((Qt.eqB rfl rfl).eq (congrArg (fun z=>D.c (.v (.bool z))) t3)) ?_) | (refine K.call ?_;first | refine jPQ (MA) ?_ | refine jPQ (MB) ?_ | (refine JO.ld (Ld.callT (MC) (qb rfl) rfl (LeDs.cons .refl .nil)) rfl (fun _=>?_))) | refine gmQ ?_ | intro _)
  (exact J.retE [_,_,_,_,_,_] rfl Try.func19 rfl (.cons (.tmp rfl) .nil) ⟨(N,st,S),by simp only;omega,fun h=>by cases h⟩ (by exact .refl) rfl)
 cases t4:(x.ch != y.ch)
 case true =>
  obtain rfl:false=B:=by rw [← hB];exact (Jg.two_ch hx hy (.inr (.inl (by simpa using t4)))).symm
  repeat (first | (refine K.store ?_;refine JO.ld (Ld.storeW rfl rfl rfl (by exact rfl) (by exact rfl)) rfl (fun _=>?_)) | (refine K.binOp ?_;first | refine jCQ t1 ?_ | refine jCQ t2 ?_ | refine jq rfl rfl rfl ((Qt.eqB rfl rfl).eq (congrArg (fun z=>D.c (.v (.bool z))) t3)) ?_ | refine jCQ t4 ?_) | (refine K.call ?_;first | refine jPQ (MA) ?_ | refine jPQ (MB) ?_ | (refine JO.ld (Ld.callT (MC) (qb rfl) rfl (LeDs.cons .refl .nil)) rfl (fun _=>?_))) | refine gmQ ?_ | intro _)
  (exact J.retE [_,_,_,_,_,_] rfl Try.func19 rfl (.cons (.tmp rfl) .nil) ⟨(N,st,S),by simp only;omega,fun h=>by cases h⟩ (by exact .refl) rfl)
 cases t5:decide (x.ch < 1)
 case true =>
  obtain rfl:false=B:=by rw [← hB];exact (Jg.two_ch hx hy (.inr (.inr (by unfold Md.chan;rw [if_neg (by have:=of_decide_eq_true t5;omega)])))).symm
  repeat (first | (refine K.store ?_;refine JO.ld (Ld.storeW rfl rfl rfl (by exact rfl) (by exact rfl)) rfl (fun _=>?_)) | (refine K.binOp ?_;first | refine jCQ t1 ?_ | refine jCQ t2 ?_ | refine jq rfl rfl rfl ((Qt.eqB rfl rfl).eq (congrArg (fun z=>D.c (.v (.bool z))) t3)) ?_ | refine jCQ t4 ?_ | refine jCQ t5 ?_) | (refine K.call ?_;first | refine jPQ (MA) ?_ | refine jPQ (MB) ?_ | (refine JO.ld (Ld.callT (MC) (qb rfl) rfl (LeDs.cons .refl .nil)) rfl (fun _=>?_))) | refine gmQ ?_ | intro _)
  (exact J.retE [_,_,_,_,_,_] rfl Try.func19 rfl (.cons (.tmp rfl) .nil) ⟨(N,st,S),by simp only;omega,fun h=>by cases h⟩ (by exact .refl) rfl)
 cases t6:decide (x.ch > (st.chans.length:Int))
 case true =>
  obtain rfl:false=B:=by rw [← hB];exact (Jg.two_ch hx hy (.inr (.inr (by unfold Md.chan;rw [if_pos (by have:=of_decide_eq_false t5;omega),List.getElem?_eq_none (by have:=of_decide_eq_true t6;omega)])))).symm
  repeat (first | (refine K.store ?_;refine JO.ld (Ld.storeW rfl rfl rfl (by exact rfl) (by exact rfl)) rfl (fun _=>?_)) | (refine K.binOp ?_;first | refine jCQ t1 ?_ | refine jCQ t2 ?_ | refine jq rfl rfl rfl ((Qt.eqB rfl rfl).eq (congrArg (fun z=>D.c (.v (.bool z))) t3)) ?_ | refine jCQ t4 ?_ | refine jCQ t5 ?_ | refine jCQ t6 ?_) | (refine K.call ?_;first | refine jPQ (MA) ?_ | refine jPQ (MB) ?_ | (refine JO.ld (Ld.callT (MC) (qb rfl) rfl (LeDs.cons .refl .nil)) rfl (fun _=>?_))) | refine gmQ ?_ | intro _)
  (exact J.retE [_,_,_,_,_,_] rfl Try.func19 rfl (.cons (.tmp rfl) .nil) ⟨(N,st,S),by simp only;omega,fun h=>by cases h⟩ (by exact .refl) rfl)
 have t5':=of_decide_eq_false t5;have t6':=of_decide_eq_false t6;obtain ⟨c,hch⟩:∃ c,Md.chan st.chans x.ch=some c:=by
  unfold Md.chan;rw [if_pos (by omega),List.getElem?_eq_getElem (by omega)];exact ⟨_,rfl⟩
 have q3:x.ch=y.ch:=by simpa using t4
 have q4:a.wi=b.g:=by simpa using t1
 have q5:b.wi=a.g:=by simpa using t2
 repeat (first | (refine K.store ?_;refine JO.ld (Ld.storeW rfl rfl rfl (by exact rfl) (by exact rfl)) rfl (fun _=>?_)) | (refine K.binOp ?_;first | refine jCQ t1 ?_ | refine jCQ t2 ?_ | refine jq rfl rfl rfl ((Qt.eqB rfl rfl).eq (congrArg (fun z=>D.c (.v (.bool z))) t3)) ?_ | refine jCQ t4 ?_ | refine jCQ t5 ?_ | refine jCQ t6 ?_) | (refine K.call ?_;first | refine jPQ (MA) ?_ | refine jPQ (MB) ?_ | (refine JO.ld (Ld.callT (MC) (qb rfl) rfl (LeDs.cons .refl .nil)) rfl (fun _=>?_))) | refine gmQ ?_ | intro _)
 rename_i b6 b7 b8 b9 b11 _ b13 _ _;refine J.joinS (ι:={ z:Sx.Mk × Pn.Op × Sx.Mk × Pn.Op // B=Jg.coreB st c z.1 z.2.1 z.2.2.1 z.2.2.2∧T=Jg.coreS st c z.1 z.2.1 z.2.2.1 z.2.2.2∧wf64L z.1.g∧wf64L z.2.2.1.g }) (fun z=>[(15,.c (.r 3 (st.chans.map eCh))),(11,.c (.v (.pointer (some ⟨b11,0,none⟩)))),(9,.c (.v (.pointer (some ⟨b9,0,none⟩)))),(8,.c (.v (.pointer (some ⟨b8,0,none⟩)))),(7,.c (.v (.pointer (some ⟨b7,0,none⟩)))),(6,.c (.v (.pointer (some ⟨b6,0,none⟩)))),(0,.c (.v (pt bp)))])
  (fun z=>[.box b13 92 (eSd y),.box b11 92 (eSd x),.box b9 28 (eOp z.1.2.2.2),.box b8 52 (eM z.1.2.2.1),.box b7 28 (eOp z.1.2.1),.box b6 52 (eM z.1.1),moT bp N st S]) (fun z=>?_) (fun K TAIL=>?_)
 rotate_left
 ·cases hs:x.send
  ·obtain ⟨e1,e2⟩:=Jg.two_snd (st:=st) hx hy hs (by rw [hs] at t3;simpa using t3) q3 q4 q5 hch
   repeat ((refine J.cond_t rfl ?_))
   refine J.draw (by kernel_rfl) rfl ?_;refine JW.base (some 4) ?_;refine tk 0 ?_;refine tk 2 ?_;refine tk 3 ?_;refine JD.each2 (i:=1) (j:=4) (by kernel_rfl) ?_ ?_
   (refine JS.q rfl rfl rfl (qb rfl) (Qt.loadWb rfl (by exact rfl)) ?_)
   refine jt 4 rfl rfl (Ld.storeW rfl rfl rfl (by exact rfl) (by exact rfl)) (fun _=>?_);refine JW.base (some 5) ?_;refine jt 5 rfl rfl (Ld.storeW rfl rfl rfl (by exact rfl) (by exact rfl)) (fun _=>?_);refine JW.base (some 6) ?_;refine jt 6 rfl rfl (Ld.storeW rfl rfl rfl (by exact rfl) (by exact rfl)) (fun _=>?_);refine JW.base (some 7) ?_;refine jt 7 rfl rfl (Ld.storeW rfl rfl rfl (by exact rfl) (by exact rfl)) (fun _=>?_);refine wnQ ?_
   rotate_left
   (refine JS.last rfl rfl (Ld.storeW rfl rfl rfl (by exact rfl) (by exact rfl)) (fun _=>?_))
   refine JW.base (some 5) ?_;refine tk 1 ?_;refine jt 5 rfl rfl (Ld.storeW rfl rfl rfl (by exact rfl) (by exact rfl)) (fun _=>?_);refine JW.base (some 6) ?_;refine jt 6 rfl rfl (Ld.storeW rfl rfl rfl (by exact rfl) (by exact rfl)) (fun _=>?_);refine JW.base (some 7) ?_;refine jt 7 rfl rfl (Ld.storeW rfl rfl rfl (by exact rfl) (by exact rfl)) (fun _=>?_);refine wnQ ?_
   rotate_left
   all_goals
    repeat (fail)
    exact (TAIL ⟨(b,ob,a,oa),by rw [← hB,e1],by rw [← hT,e2],hgb,hga⟩).weak ⟨rfl,rfl,rfl,rfl,rfl,rfl,rfl,trivial⟩
  ·obtain ⟨e1,e2⟩:=Jg.two_fst (st:=st) hx hy hs (by rw [hs] at t3;simpa using t3) q3 q4 q5 hch
   repeat (refine gn ?_)
   exact (TAIL ⟨(a,oa,b,ob),by rw [← hB,e1],by rw [← hT,e2],hga,hgb⟩).weak ⟨rfl,rfl,rfl,rfl,rfl,rfl,rfl,trivial⟩
 obtain ⟨⟨s,os,r,or⟩,hB',hT',gs,gr⟩:=z;simp only at hB' hT' gs gr ⊢;clear MA MB MC hB hT hga hgb t1 t2 t3 t4 t5 t6 q3 q4 q5;have w1:IntKind.i64.wrap (x.ch - 1)=x.ch - 1:=w64 (by omega) (by omega);obtain ⟨i0,CX⟩:=chan_at hch;unfold Jg.coreB at hB';unfold Jg.coreS at hT'
 cases t7:(c.cap == 0)
 case true =>
  rw [if_pos (by simpa using t7)] at hB' hT';unfold Jg.meetV at hB' hT';have MM:=m_meet bp N st S s.g os s.fire r.g or r.fire gs gr;rcases hm:Md.meet st s.g os s.fire r.g or r.fire with ⟨st1,_ | v⟩
  ·rw [hm] at MM hB';simp only [Option.isSome_none,Option.getD_none,Bool.false_and] at MM hB';subst hB'
   repeat (first | (refine K.store ?_;refine JO.ld (Ld.storeW rfl rfl rfl (by exact rfl) (by exact rfl)) rfl (fun _=>?_)) | (refine K.indexAddr ?_;refine jq rfl rfl rfl (Qt.indexR rfl rfl i0 CX) ?_) | (refine K.binOp ?_;first | refine jq rfl rfl rfl (Qt.ari rfl rfl rfl w1) ?_ | refine jCQ t7 ?_) | (refine K.call ?_;refine JO.ld (Ld.callT (MM) (qb rfl) rfl (by (exact LeDs.cons .refl (.cons .refl (.cons .refl (.cons .refl (.cons .refl (.cons .refl (.cons .refl .nil))))))))) rfl ?_;intro _) | (refine K.build ?_;first | refine jq rfl rfl rfl ((Qt.buildA (r:=eRes (Jg.got r.fire 0)) rfl rfl)) ?_ | refine jq rfl rfl rfl ((Qt.buildA (r:=eRes (Jg.sent s.fire)) rfl rfl)) ?_) | refine gmQ ?_ | intro _)
   rename_i S1 _ _ _ _
   (exact J.retE [_,_,_,_,_,_,_,_,_] rfl Try.func19 rfl (.cons (.tmp rfl) .nil) ⟨(N,st1,S1),by simp only;omega,fun h=>by cases h⟩ (by exact .refl) rfl)
  ·rw [hm] at MM hB' hT';simp only [Option.isSome_some,Option.getD_some,Bool.true_and] at MM hB' hT';subst hB' hT';have A1:=t_agrees s (Jg.sent s.fire);have A2:=t_agrees r (Jg.got r.fire v)
   cases u1:Jg.agr s (Jg.sent s.fire)
   ·rw [u1] at A1
    repeat (first | (refine K.store ?_;refine JO.ld (Ld.storeW rfl rfl rfl (by exact rfl) (by exact rfl)) rfl (fun _=>?_)) | (refine K.indexAddr ?_;refine jq rfl rfl rfl (Qt.indexR rfl rfl i0 CX) ?_) | (refine K.binOp ?_;first | refine jq rfl rfl rfl (Qt.ari rfl rfl rfl w1) ?_ | refine jCQ t7 ?_) | (refine K.call ?_;first | (refine JO.ld (Ld.callT (MM) (qb rfl) rfl (by (exact LeDs.cons .refl (.cons .refl (.cons .refl (.cons .refl (.cons .refl (.cons .refl (.cons .refl .nil))))))))) rfl ?_;intro _) | (refine JO.ld (Ld.pure (A1) (qb rfl) rfl (by (exact LeDs.cons .refl (.cons .refl .nil)))) rfl (fun _=>?_))) | (refine K.build ?_;first | refine jq rfl rfl rfl ((Qt.buildA (r:=eRes (Jg.got r.fire v)) rfl rfl)) ?_ | refine jq rfl rfl rfl ((Qt.buildA (r:=eRes (Jg.sent s.fire)) rfl rfl)) ?_) | refine gmQ ?_ | intro _)
    rename_i S1 _ _ _ _ _
    (exact J.retE [_,_,_,_,_,_,_,_,_] rfl Try.func19 rfl (.cons (.tmp rfl) .nil) ⟨(N,T,S1),by simp only;omega,fun _=>rfl⟩ (by exact .refl) rfl)
   ·rw [u1] at A1
    repeat (first | (refine K.store ?_;refine JO.ld (Ld.storeW rfl rfl rfl (by exact rfl) (by exact rfl)) rfl (fun _=>?_)) | (refine K.indexAddr ?_;refine jq rfl rfl rfl (Qt.indexR rfl rfl i0 CX) ?_) | (refine K.binOp ?_;first | refine jq rfl rfl rfl (Qt.ari rfl rfl rfl w1) ?_ | refine jCQ t7 ?_) | (refine K.call ?_;first | (refine JO.ld (Ld.callT (MM) (qb rfl) rfl (by (exact LeDs.cons .refl (.cons .refl (.cons .refl (.cons .refl (.cons .refl (.cons .refl (.cons .refl .nil))))))))) rfl ?_;intro _) | (refine JO.ld (Ld.pure (A1) (qb rfl) rfl (by (exact LeDs.cons .refl (.cons .refl .nil)))) rfl (fun _=>?_)) | (refine JO.ld (Ld.pure (A2) (qb rfl) rfl (by (exact LeDs.cons .refl (.cons .refl .nil)))) rfl (fun _=>?_))) | (refine K.build ?_;first | refine jq rfl rfl rfl ((Qt.buildA (r:=eRes (Jg.got r.fire v)) rfl rfl)) ?_ | refine jq rfl rfl rfl ((Qt.buildA (r:=eRes (Jg.sent s.fire)) rfl rfl)) ?_) | refine gmQ ?_ | intro _)
    rename_i S1 _ _ _ _ _ _
    (exact J.retE [_,_,_,_,_,_,_,_,_] rfl Try.func19 rfl (.cons (.tmp rfl) .nil) ⟨(N,T,S1),by simp only;omega,fun _=>rfl⟩ (by exact .refl) rfl)
 rw [if_neg (by simpa using t7)] at hB' hT'
 repeat (first | (refine K.store ?_;refine JO.ld (Ld.storeW rfl rfl rfl (by exact rfl) (by exact rfl)) rfl (fun _=>?_)) | (refine K.indexAddr ?_;refine jq rfl rfl rfl (Qt.indexR rfl rfl i0 CX) ?_) | (refine K.binOp ?_;first | refine jq rfl rfl rfl (Qt.ari rfl rfl rfl w1) ?_ | refine jCQ t7 ?_) | refine gmQ ?_ | intro _)
 rename_i b16 _;refine J.joinS (ι:={ z:Sx.Mk × Pn.Op × Sx.Mk × Pn.Op // B=Jg.seqB st z.1 z.2.1 z.2.2.1 z.2.2.2∧T=Jg.seqS st z.1 z.2.1 z.2.2.1 z.2.2.2∧wf64L z.1.g∧wf64L z.2.2.1.g }) (fun z=>[(9,.c (.v (.pointer (some ⟨b9,0,none⟩)))),(8,.c (.v (.pointer (some ⟨b8,0,none⟩)))),(7,.c (.v (.pointer (some ⟨b7,0,none⟩)))),(6,.c (.v (.pointer (some ⟨b6,0,none⟩)))),(0,.c (.v (pt bp)))])
  (fun z=>[.box b16 44 (eCh c),.box b13 92 (eSd y),.box b11 92 (eSd x),.box b9 28 (eOp z.1.2.2.2),.box b8 52 (eM z.1.2.2.1),.box b7 28 (eOp z.1.2.1),.box b6 52 (eM z.1.1),moT bp N st S]) (fun z=>?_) (fun K TAIL=>?_)
 rotate_left
 ·refine J.cond rfl (fun h=>?_) (fun h=>?_)
  ·rw [if_pos (by simpa using h)] at hB' hT'
   repeat (fail)
   refine J.draw (by kernel_rfl) rfl ?_;refine JW.base (some 4) ?_;refine tk 0 ?_;refine tk 2 ?_;refine tk 3 ?_;refine JD.each2 (i:=1) (j:=4) (by kernel_rfl) ?_ ?_
   (refine JS.q rfl rfl rfl (qb rfl) (Qt.loadWb rfl (by exact rfl)) ?_)
   refine jt 4 rfl rfl (Ld.storeW rfl rfl rfl (by exact rfl) (by exact rfl)) (fun _=>?_);refine JW.base (some 5) ?_;refine jt 5 rfl rfl (Ld.storeW rfl rfl rfl (by exact rfl) (by exact rfl)) (fun _=>?_);refine JW.base (some 6) ?_;refine jt 6 rfl rfl (Ld.storeW rfl rfl rfl (by exact rfl) (by exact rfl)) (fun _=>?_);refine JW.base (some 7) ?_;refine jt 7 rfl rfl (Ld.storeW rfl rfl rfl (by exact rfl) (by exact rfl)) (fun _=>?_);refine wnQ ?_
   rotate_left
   (refine JS.last rfl rfl (Ld.storeW rfl rfl rfl (by exact rfl) (by exact rfl)) (fun _=>?_))
   refine JW.base (some 5) ?_;refine tk 1 ?_;refine jt 5 rfl rfl (Ld.storeW rfl rfl rfl (by exact rfl) (by exact rfl)) (fun _=>?_);refine JW.base (some 6) ?_;refine jt 6 rfl rfl (Ld.storeW rfl rfl rfl (by exact rfl) (by exact rfl)) (fun _=>?_);refine JW.base (some 7) ?_;refine jt 7 rfl rfl (Ld.storeW rfl rfl rfl (by exact rfl) (by exact rfl)) (fun _=>?_);refine wnQ ?_
   rotate_left
   all_goals
    repeat (fail)
    exact (TAIL ⟨(r,or,s,os),hB',hT',gr,gs⟩).weak ⟨rfl,rfl,rfl,rfl,rfl,trivial⟩
  ·rw [if_neg (by simpa using h)] at hB' hT'
   repeat ((refine J.skip ?_))
   exact (TAIL ⟨(s,os,r,or),hB',hT',gs,gr⟩).weak ⟨rfl,rfl,rfl,rfl,rfl,trivial⟩
 clear hB' hT' gs gr;obtain ⟨⟨s,os,r,or⟩,hB',hT',gs,gr⟩:=z;simp only at hB' hT' gs gr ⊢;unfold Jg.seqB at hB';unfold Jg.seqS at hT';unfold Jg.fireB Jg.fireS at hB' hT';have MF:=m_fire bp N st S s.g os s.fire (by omega) gs;rcases hF:Md.fire st s.g os s.fire with ⟨st1,_ | r1⟩
 ·rw [hF] at MF hB';simp only [Option.isSome_none,Option.getD_none,Bool.false_and] at MF hB';subst hB'
  repeat (first | (refine K.store ?_;refine JO.ld (Ld.storeW rfl rfl rfl (by exact rfl) (by exact rfl)) rfl (fun _=>?_)) | (refine K.call ?_;refine JO.ld (Ld.callT (MF) (qb rfl) rfl (by (exact LeDs.cons .refl (.cons .refl (.cons .refl (.cons .refl .nil)))))) rfl ?_;intro _) | refine gmQ ?_ | intro _)
  rename_i S1 _ _
  (exact J.retE [_,_,_,_,_,_,_,_] rfl Try.func19 rfl (.cons (.tmp rfl) .nil) ⟨(N + 1,st1,S1),by simp only;omega,fun h=>by cases h⟩ (by exact .refl) rfl)
 rw [hF] at MF hB' hT';simp only [Option.isSome_some,Option.getD_some,Bool.true_and] at MF hB' hT';have A1:=t_agrees s r1
 cases u1:Jg.agr s r1
 ·rw [u1] at A1 hB';simp only [Bool.false_and] at hB';subst hB'
  repeat (first | (refine K.store ?_;refine JO.ld (Ld.storeW rfl rfl rfl (by exact rfl) (by exact rfl)) rfl (fun _=>?_)) | (refine K.call ?_;first | (refine JO.ld (Ld.callT (MF) (qb rfl) rfl (by (exact LeDs.cons .refl (.cons .refl (.cons .refl (.cons .refl .nil)))))) rfl ?_;intro _) | (refine JO.ld (Ld.pure (A1) (qb rfl) rfl (by (exact LeDs.cons .refl (.cons .refl .nil)))) rfl (fun _=>?_))) | refine gmQ ?_ | intro _)
  rename_i S1 _ _ _
  (exact J.retE [_,_,_,_,_,_,_,_] rfl Try.func19 rfl (.cons (.tmp rfl) .nil) ⟨(N + 1,st1,S1),by simp only;omega,fun h=>by cases h⟩ (by exact .refl) rfl)
 rw [u1] at A1 hB' hT';simp only [Bool.true_and,if_true] at hB' hT'
 repeat (first | (refine K.store ?_;refine JO.ld (Ld.storeW rfl rfl rfl (by exact rfl) (by exact rfl)) rfl (fun _=>?_)) | (refine K.call ?_;first | (refine JO.ld (Ld.callT (MF) (qb rfl) rfl (by (exact LeDs.cons .refl (.cons .refl (.cons .refl (.cons .refl .nil)))))) rfl ?_;intro _) | (refine JO.ld (Ld.pure (A1) (qb rfl) rfl (by (exact LeDs.cons .refl (.cons .refl .nil)))) rfl (fun _=>?_))) | refine gmQ ?_ | intro _)
 rename_i S1 _ _ _;have MF2:=m_fire bp (N + 1) st1 S1 r.g or r.fire (by omega) gr;rcases hF2:Md.fire st1 r.g or r.fire with ⟨st2,_ | r2⟩
 ·rw [hF2] at MF2 hB';simp only [Option.isSome_none,Option.getD_none,Bool.false_and] at MF2 hB';subst hB'
  repeat (first | (refine K.store ?_;refine JO.ld (Ld.storeW rfl rfl rfl (by exact rfl) (by exact rfl)) rfl (fun _=>?_)) | (refine K.call ?_;refine JO.ld (Ld.callT (MF2) (qb rfl) rfl (by (exact LeDs.cons .refl (.cons .refl (.cons .refl (.cons .refl .nil)))))) rfl ?_;intro _) | refine gn ?_)
  rename_i S2 _
  (exact J.retE [_,_,_,_,_,_,_,_] rfl Try.func19 rfl (.cons (.tmp rfl) .nil) ⟨(N + 2,st2,S2),by simp only;omega,fun h=>by cases h⟩ (by exact .refl) rfl)
 rw [hF2] at MF2 hB' hT';simp only [Option.isSome_some,Option.getD_some,Bool.true_and] at MF2 hB' hT';subst hB' hT';have A2:=t_agrees r r2
 repeat (first | (refine K.store ?_;refine JO.ld (Ld.storeW rfl rfl rfl (by exact rfl) (by exact rfl)) rfl (fun _=>?_)) | (refine K.call ?_;first | (refine JO.ld (Ld.callT (MF2) (qb rfl) rfl (by (exact LeDs.cons .refl (.cons .refl (.cons .refl (.cons .refl .nil)))))) rfl ?_;intro _) | (refine JO.ld (Ld.pure (A2) (qb rfl) rfl (by (exact LeDs.cons .refl (.cons .refl .nil)))) rfl (fun _=>?_))) | refine gn ?_)
 rename_i S2 _ _
 (exact J.retE [_,_,_,_,_,_,_,_] rfl Try.func19 rfl (.cons (.tmp rfl) .nil) ⟨(N + 2,T,S2),by simp only;omega,fun _=>rfl⟩ (by exact .refl) rfl)
end Fl
namespace Jg
def Bf (l:List Md.Ch) (k:Nat):Prop:=∀ c∈l,c.buf.length≤k
def Sz (st:Md.St) (k:Nat):Prop:=st.chans.length≤8∧Bf st.chans k
theorem Bf.up {l:List Md.Ch} {k m:Nat} (h:Bf l k) (e:k≤m):Bf l m:=fun c hc=>Nat.le_trans (h c hc) e
theorem Bf.put {l:List Md.Ch} {k:Nat} {ch:Int} {c:Md.Ch} (h:Bf l k) (hc:c.buf.length≤k):Bf (Md.putChan l ch c) k:=fun x hx=>by
 unfold Md.putChan at hx;rcases List.mem_or_eq_of_mem_set hx with hx | hx
 ·exact h x hx
 ·rw [hx];exact hc
theorem Bf.chan {l:List Md.Ch} {k:Nat} {ch:Int} {c:Md.Ch} (h:Bf l k) (e:Md.chan l ch=some c):c.buf.length≤k:=by
 unfold Md.chan at e
 split at e
 ·exact h c (List.mem_of_getElem? e)
 ·cases e
theorem Bf.fires {l:List Md.Ch} {k:Nat} (o:Pn.Op) (i:Int) (h:Bf l k):Bf (Md.fires l o i).1 (k + 1):=by
 have h1:=h.up (Nat.le_succ k);unfold Md.fires
 split
 ·unfold Md.makes
  split
  ·exact h1
  ·intro c hc;rcases List.mem_append.1 hc with hc | hc
   ·exact h1 c hc
   ·rw [List.mem_singleton.1 hc];simp
 ·split
  ·exact h1
  ·split
   ·unfold Md.closes
    split
    ·exact h1
    ·rename_i c e
     split
     ·exact h1
     ·exact h1.put (by have:=h.chan e;simp only;omega)
   ·unfold Md.does
    split
    ·exact h1
    ·split
     ·exact h1
     ·rename_i c e;have hc:=h.chan e
      repeat' split
      all_goals first | exact h1 | exact h1.put (by simp only [List.length_append,List.length_drop,List.length_cons,List.length_nil];omega)
theorem Sz.up {st:Md.St} {k m:Nat} (h:Sz st k) (e:k≤m):Sz st m:=⟨h.1,h.2.up e⟩
theorem Sz.fire {st:Md.St} {k:Nat} (g:Int) (o:Pn.Op) (i:Int) (h:Sz st k):Sz (Md.fire st g o i).1 (k + 1):=by
 refine ⟨fire_le st g o i h.1,?_⟩;have:=h.2.fires o i;unfold Md.fire
 split
 ·rename_i l r e;rw [e] at this;exact this
 ·exact h.2.up (Nat.le_succ k)
theorem Sz.wait {st:Md.St} {k:Nat} (g:Int) (o:Pn.Op) (h:Sz st k):Sz (Md.wait st g o).1 k:=by
 unfold Sz;rw [wait_chans];exact h
theorem Sz.meet {st:Md.St} {k:Nat} (g:Int) (a:Pn.Op) (i h':Int) (b:Pn.Op) (j:Int) (h:Sz st k):Sz (Md.meet st g a i h' b j).1 k:=by
 unfold Sz;rw [meet_chans];exact h
theorem Sz.alone {st:Md.St} {k:Nat} (m:Sx.Mk) (o:Pn.Op) (h:Sz st k):Sz (aloneS st m o) (k + 1):=by
 unfold aloneS
 split
 ·exact h.up (Nat.le_succ k)
 ·split
  ·exact h.up (Nat.le_succ k)
  ·exact h.fire _ _ _
theorem Sz.seq {st:Md.St} {k:Nat} (a:Sx.Mk) (oa:Pn.Op) (b:Sx.Mk) (ob:Pn.Op) (h:Sz st k):Sz (seqS st a oa b ob) (k + 2):=by
 unfold seqS
 split
 ·exact (h.fire _ _ _).fire _ _ _
 ·exact (h.fire _ _ _).up (by omega)
theorem Sz.core {st:Md.St} {k:Nat} (c:Md.Ch) (a:Sx.Mk) (oa:Pn.Op) (b:Sx.Mk) (ob:Pn.Op) (h:Sz st k):Sz (coreS st c a oa b ob) (k + 2):=by
 unfold coreS
 split
 ·exact (h.meet _ _ _ _ _ _).up (by omega)
 ·split
  ·exact h.seq _ _ _ _
  ·exact h.seq _ _ _ _
theorem Sz.both {st:Md.St} {k:Nat} (a:Sx.Mk) (oa:Pn.Op) (b:Sx.Mk) (ob:Pn.Op) (h:Sz st k):Sz (bothS st a oa b ob) (k + 2):=by
 unfold bothS
 split
 ·exact h.core _ _ _ _ _
 ·exact h.up (by omega)
theorem Sz.two {st:Md.St} {k:Nat} (a:Sx.Mk) (oa:Pn.Op) (b:Sx.Mk) (ob:Pn.Op) (h:Sz st k):Sz (twoS st a oa b ob) (k + 2):=by
 unfold twoS
 split
 ·exact h.both _ _ _ _
 ·exact h.both _ _ _ _
theorem Sz.grp {st:Md.St} {k:Nat} (l:List Sx.Mk) (f:Nat→Pn.Op) (G:List Ta.Pt) (h:Sz st k):Sz (grpS l f st G) (k + 2):=by
 unfold grpS
 split
 ·split
  ·exact (h.wait _ _).up (by omega)
  ·exact (h.alone _ _).up (by omega)
 ·exact h.two _ _ _ _
 ·exact h.up (by omega)
end Jg
open Go.RowKit
namespace Fl
set_option maxRecDepth 100000
set_option maxHeartbeats 4000000
section
variable {P:Program} {c:Cx} {k:List Item} {f:Fm} {L:List Res} {ops:Array Oper} {l:List Oper} {T:TypeId} {ps:String} {af:Array Edge} {gd:Option (Nat × Bool)} {t:Nat}
theorem JO.callI {F:FuncId} {args:List Operand} {tys:Array TypeId} {ds0 ds:List D} {ι:Type} {dd:ι→D} [i:TyC P F] (hC:Con P F ds [] (fun x=>(dd x,[]))) (hw:Wants ops ⟨some t,.call ⟨.value (.func F),args.toArray,tys⟩,T,ps,af,gd⟩ f=true) (ht:t < c.N) (h:evDs f args=some ds0) (hle:LeDs ds0 ds)
  (hk:∀ x,JO P c ops l k ((t,dd x) :: f) L):JO P c ops (⟨some t,.call ⟨.value (.func F),args.toArray,tys⟩,T,ps,af,gd⟩ :: l) k f L :=
 JO.call hC hw ht h hle (Ll:=[]) (Lr:=L) rfl hk
end
abbrev RSt (st:Md.St) (n:Nat):Type:={ z:Mr.St // Mr.Rel st z∧z.waits.length≤n }
theorem t_refFires (st:Md.St) (q:Mr.St) (hr:Mr.Rel st q) (o:Pn.Op) (m:Sx.Mk) (n k:Nat) (hn:q.waits.length≤n) (hb:n≤90000) (hz:Jg.Sz st k) (hk:k≤90000) :
  Con Try.prog 48 [.agg (eMr q),.agg (eOp o),.agg (eM m)] [] (fun z:RSt (Jg.fireS st m o) n=>(.tup [.agg (eMr z.1),.c (bI (Jg.fireB st m o))],[])):=by
 refine Con.intro Try.func48 rfl rfl rfl (fun ok e=>?_);have MF:=r_fire st q hr m.g o m.fire n hn (by omega) (by have:=hz.1;omega) (fun c hc=>by have:=hz.2 c hc;omega);unfold Jg.fireB Jg.fireS;rcases hF:Md.fire st m.g o m.fire with ⟨st1,_ | r⟩
 ·rw [hF] at MF;simp only [Option.isSome_none,Option.getD_none,Bool.false_and] at MF ⊢
  repeat (first | (refine K.store ?_;refine JO.ld (Ld.storeW rfl rfl rfl (by exact rfl) (by exact rfl)) rfl (fun _=>?_)) | (refine K.call ?_;refine JO.callI (MF) rfl (qb rfl) rfl (by (exact LeDs.cons .refl (.cons .refl (.cons .refl (.cons .refl .nil))))) ?_;intro _) | refine gmQ ?_ | intro _)
  rename_i z _ _ _ _;refine J.draw (by kernel_rfl) rfl ?_;refine JW.base1 none (.tmp 6) rfl ?_;refine tk 0 ?_;refine tk 1 ?_;refine tk 2 ?_
  (refine JD.skip 3 rfl rfl (by kernel_rfl) rfl (qb rfl) ?_)
  (refine JD.skip 4 rfl rfl (by kernel_rfl) rfl (qb rfl) ?_)
  (refine JD.skip 5 rfl rfl (by kernel_rfl) rfl (qb rfl) ?_)
  refine tk 6 ?_;refine JD.each1 (i:=7) (by kernel_rfl) ?_
  (refine JS.st rfl rfl rfl (Ld.storeW rfl rfl rfl (by exact rfl) (by exact rfl)) (.tbox rfl) (fun _=>?_))
  refine tk 8 ?_;refine dnQ ?_
  all_goals
   repeat (fail)
   (exact J.ret Try.func48 rfl (.cons (.cell 2 rfl rfl rfl) (.cons (.tmp rfl) .nil)) z (by exact .refl) [] .nil rfl rfl)
 ·rw [hF] at MF;simp only [Option.isSome_some,Option.getD_some,Bool.true_and] at MF ⊢;have AG:=t_refAgrees m r
  repeat (first | (refine K.store ?_;refine JO.ld (Ld.storeW rfl rfl rfl (by exact rfl) (by exact rfl)) rfl (fun _=>?_)) | (refine K.call ?_;refine JO.callI (MF) rfl (qb rfl) rfl (by (exact LeDs.cons .refl (.cons .refl (.cons .refl (.cons .refl .nil))))) ?_;intro _) | refine gmQ ?_ | intro _)
  rename_i z _ _ _ _;refine J.draw (by kernel_rfl) rfl ?_;refine JW.base1 none (.tmp 6) rfl ?_;refine tk 0 ?_;refine tk 1 ?_;refine tk 2 ?_;refine tk 3 ?_;refine tk 4 ?_;refine jl 5 rfl rfl rfl rfl (Ld.pure (AG) (qb rfl) rfl (by repeat (first | exact LeDs.nil | refine LeDs.cons (LeD.agg (by repeat (first | exact .nil | refine .cons .refl ?_))) ?_))) .none (fun _=>?_);refine tk 6 ?_;refine JD.each1 (i:=7) (by kernel_rfl) ?_
  (refine JS.st rfl rfl rfl (Ld.storeW rfl rfl rfl (by exact rfl) (by exact rfl)) (.tbox rfl) (fun _=>?_))
  refine jk 8 rfl rfl rfl rfl (Qt.assign rfl) ?_;refine dnQ ?_
  all_goals
   repeat (fail)
   (exact J.ret Try.func48 rfl (.cons (.cell 2 rfl rfl rfl) (.cons (.tmp rfl) .nil)) z (by exact .refl) [] .nil rfl rfl)
noncomputable abbrev oneB (st:Md.St) (m:Sx.Mk) (o:Pn.Op) (kind:Int):Bool:=if kind=1 then (Md.wait st m.g o).2 else Jg.aloneB st m o
noncomputable abbrev oneS (st:Md.St) (m:Sx.Mk) (o:Pn.Op) (kind:Int):Md.St:=if kind=1 then (Md.wait st m.g o).1 else Jg.aloneS st m o
theorem t_refAlone (st:Md.St) (q:Mr.St) (hr:Mr.Rel st q) (o:Pn.Op) (m:Sx.Mk) (kind:Int) (n k:Nat) (hn:q.waits.length≤n) (hb:n≤90000) (hz:Jg.Sz st k) (hk:k≤90000) :
  Con Try.prog 22 [.agg (eMr q),.agg (eOp o),.agg (eM m),.c (nI kind)] [] (fun z:RSt (oneS st m o kind) (n + 1)=>(.tup [.agg (eMr z.1),.c (bI (oneB st m o kind))],[])):=by
 refine Con.intro Try.func22 rfl rfl rfl (fun ok e=>?_);obtain ⟨B,hB⟩:∃ B,oneB st m o kind=B:=⟨_,rfl⟩
 obtain ⟨T,hT⟩:∃ T,oneS st m o kind=T:=⟨_,rfl⟩
 rw [hB,hT];unfold oneB at hB;unfold oneS at hT
 cases t0:(kind == 1)
 case true =>
  have h0:kind=1:=by simpa using t0
  rw [if_pos h0] at hB hT;subst hB hT;have MP:=r_put st q hr m.g o n hn (by omega)
  repeat (first | (refine K.store ?_;refine JO.ld (Ld.storeW rfl rfl rfl (by exact rfl) (by exact rfl)) rfl (fun _=>?_)) | (refine K.call ?_;refine JO.callI (MP) rfl (qb rfl) rfl (by (exact LeDs.cons .refl (.cons .refl (.cons .refl .nil)))) ?_;intro _) | refine gmQ ?_ | intro _)
  rename_i z _
  (exact J.ret Try.func22 rfl (.cons (.cell 0 rfl rfl rfl) (.cons (.tmp rfl) .nil)) z (by exact .refl) [] .nil rfl rfl)
 have h0:¬ kind=1:=by simpa using t0
 rw [if_neg h0] at hB hT;have e1:Jg.aloneB st m o=if m.wi≠-1 then false else if m.res.code=2 then Md.no st m.g o else Jg.fireB st m o:=rfl
 have e2:Jg.aloneS st m o=if m.wi≠-1 then st else if m.res.code=2 then st else Jg.fireS st m o:=rfl
 rw [e1] at hB;rw [e2] at hT
 cases t1:(m.wi != -1)
 case true =>
  have h1:m.wi≠-1:=by simpa using t1
  rw [if_pos h1] at hB hT;subst hB hT
  repeat (first | (refine K.store ?_;refine JO.ld (Ld.storeW rfl rfl rfl (by exact rfl) (by exact rfl)) rfl (fun _=>?_)) | refine gmQ ?_ | intro _)
  (exact J.ret Try.func22 rfl (.cons (.cell 0 rfl rfl rfl) (.cons (.tmp rfl) .nil)) ⟨q,hr,by omega⟩ (by exact .refl) [] .nil rfl rfl)
 have h1:¬ m.wi≠-1:=by simpa using t1
 rw [if_neg h1] at hB hT
 cases t2:(m.res.code == 2)
 case true =>
  have h2:m.res.code=2:=by simpa using t2
  rw [if_pos h2] at hB hT;subst hB hT;have MN:=r_no st q hr m.g o
  repeat (first | refine gmQ ?_ | intro _)
  refine J.draw (by kernel_rfl) rfl ?_;refine JW.base (some 6) ?_;refine tk 0 ?_
  (refine JD.takeT 1 rfl rfl (by kernel_rfl) rfl (qb rfl) (Qt.loadWb rfl (by exact rfl)) rfl ?_)
  refine JD.takeT 2 rfl rfl (by kernel_rfl) rfl (qb rfl) (Qt.fieldAddr rfl rfl) rfl ?_
  (refine JD.takeT 3 rfl rfl (by kernel_rfl) rfl (qb rfl) (Qt.load1b rfl (by exact rfl)) rfl ?_)
  (refine JD.takeT 4 rfl rfl (by kernel_rfl) rfl (qb rfl) (Qt.loadWb rfl (by exact rfl)) rfl ?_)
  refine jmQ 5 (MN) ?_;refine jt 6 rfl rfl (Ld.storeW rfl rfl rfl (by exact rfl) (by exact rfl)) (fun _=>?_);refine JW.base none ?_;refine jk 7 rfl rfl rfl rfl (Qt.assign rfl) ?_;refine dnQ ?_
  all_goals
   repeat (fail)
   (exact J.ret Try.func22 rfl (.cons (.cell 0 rfl rfl rfl) (.cons (.tmp rfl) .nil)) ⟨q,hr,by omega⟩ (by exact .refl) [] .nil rfl rfl)
 have h2:¬ m.res.code=2:=by simpa using t2
 rw [if_neg h2] at hB hT;subst hB hT;have MF:=t_refFires st q hr o m n k hn hb hz hk
 repeat (first | (refine K.store ?_;refine JO.ld (Ld.storeW rfl rfl rfl (by exact rfl) (by exact rfl)) rfl (fun _=>?_)) | (refine K.call ?_;refine JO.callI (MF) rfl (qb rfl) rfl (by (exact LeDs.cons .refl (.cons .refl (.cons .refl .nil)))) ?_;intro _) | refine gmQ ?_ | intro _)
 rename_i z _
 (exact J.ret Try.func22 rfl (.cons (.cell 0 rfl rfl rfl) (.cons (.tmp rfl) .nil)) ⟨z.1,z.2.1,by have:=z.2.2;omega⟩ (by exact .refl) [] .nil rfl rfl)
theorem t_refBoth (st:Md.St) (q:Mr.St) (hr:Mr.Rel st q) (s:Sx.Mk) (os:Pn.Op) (r:Sx.Mk) (or:Pn.Op) (n k:Nat) (hn:q.waits.length≤n) (hb:n≤90000) (hz:Jg.Sz st k) (hk:k≤80000) :
  Con Try.prog 23 [.agg (eMr q),.agg (eM s),.agg (eOp os),.agg (eM r),.agg (eOp or)] [] (fun z:{ z:Mr.St // Jg.bothB st s os r or=true→Mr.Rel (Jg.bothS st s os r or) z∧z.waits.length≤n }=>(.tup [.agg (eMr z.1),.c (bI (Jg.bothB st s os r or))],[])):=by
 refine Con.intro Try.func23 rfl rfl rfl (fun ok e=>?_);obtain ⟨B,hB⟩:∃ B,Jg.bothB st s os r or=B:=⟨_,rfl⟩
 obtain ⟨T,hT⟩:∃ T,Jg.bothS st s os r or=T:=⟨_,rfl⟩
 rw [hB,hT];have MA:=r_side os s.fire;have MB:=r_side or r.fire;rcases hx:Md.side os s.fire with _ | ⟨xc,xs,xv⟩
 ·rw [hx] at MA;simp only [Option.getD_none,Option.isSome_none] at MA;obtain rfl:false=B:=by rw [← hB];exact (Jg.bothG_no fun a b e1 _ _ _ _ _ _=>by rw [hx] at e1;cases e1).symm
  repeat (first | (refine K.store ?_;refine JO.ld (Ld.storeW rfl rfl rfl (by exact rfl) (by exact rfl)) rfl (fun _=>?_)) | (refine K.call ?_;first | (refine JO.ld (Ld.pure (MA) (qb rfl) rfl (by (exact LeDs.cons .refl (.cons .refl .nil)))) rfl (fun _=>?_)) | (refine JO.ld (Ld.pure (MB) (qb rfl) rfl (by (exact LeDs.cons .refl (.cons .refl .nil)))) rfl (fun _=>?_))) | refine gmQ ?_ | intro _)
  (exact J.ret Try.func23 rfl (.cons (.cell 2 rfl rfl rfl) (.cons (.tmp rfl) .nil)) ⟨q,fun h=>by cases h⟩ (by exact .refl) [] .nil rfl rfl)
 rw [hx] at MA;simp only [Option.getD_some,Option.isSome_some] at MA;rcases hy:Md.side or r.fire with _ | ⟨yc,ys,yv⟩
 ·rw [hy] at MB;simp only [Option.getD_none,Option.isSome_none] at MB;obtain rfl:false=B:=by rw [← hB];exact (Jg.bothG_no fun a b _ e2 _ _ _ _ _=>by rw [hy] at e2;cases e2).symm
  repeat (first | (refine K.store ?_;refine JO.ld (Ld.storeW rfl rfl rfl (by exact rfl) (by exact rfl)) rfl (fun _=>?_)) | (refine K.call ?_;first | (refine JO.ld (Ld.pure (MA) (qb rfl) rfl (by (exact LeDs.cons .refl (.cons .refl .nil)))) rfl (fun _=>?_)) | (refine JO.ld (Ld.pure (MB) (qb rfl) rfl (by (exact LeDs.cons .refl (.cons .refl .nil)))) rfl (fun _=>?_))) | refine gmQ ?_ | intro _)
  (exact J.ret Try.func23 rfl (.cons (.cell 2 rfl rfl rfl) (.cons (.tmp rfl) .nil)) ⟨q,fun h=>by cases h⟩ (by exact .refl) [] .nil rfl rfl)
 rw [hy] at MB;simp only [Option.getD_some,Option.isSome_some] at MB;have no:(xs=false∨ys=true∨xc≠yc∨Md.chan st.chans xc=none∨s.wi≠r.g∨r.wi≠s.g)→false=B:=fun h=>by
  rw [← hB];refine (Jg.bothG_no fun a b e1 e2 q1 q2 q3 q4 q5=>?_).symm;rw [hx] at e1;rw [hy] at e2;obtain rfl:=Option.some.inj e1;obtain rfl:=Option.some.inj e2;simp only at q1 q2 q3;rcases h with h | h | h | h | h | h
  ·rw [q1] at h;cases h
  ·rw [q2] at h;cases h
  ·exact absurd q3 h
  ·exact h
  ·exact absurd q4 h
  ·exact absurd q5 h
 have MD:=r_made q xc;rw [← hr.1] at MD
 cases xs
 ·obtain rfl:=no (.inl rfl)
  repeat (first | (refine K.store ?_;refine JO.ld (Ld.storeW rfl rfl rfl (by exact rfl) (by exact rfl)) rfl (fun _=>?_)) | (refine K.call ?_;first | (refine JO.ld (Ld.pure (MA) (qb rfl) rfl (by (exact LeDs.cons .refl (.cons .refl .nil)))) rfl (fun _=>?_)) | (refine JO.ld (Ld.pure (MB) (qb rfl) rfl (by (exact LeDs.cons .refl (.cons .refl .nil)))) rfl (fun _=>?_))) | refine gmQ ?_ | intro _)
  (exact J.ret Try.func23 rfl (.cons (.cell 2 rfl rfl rfl) (.cons (.tmp rfl) .nil)) ⟨q,fun h=>by cases h⟩ (by exact .refl) [] .nil rfl rfl)
 cases ys
 case true =>
  obtain rfl:=no (.inr (.inl rfl))
  repeat (first | (refine K.store ?_;refine JO.ld (Ld.storeW rfl rfl rfl (by exact rfl) (by exact rfl)) rfl (fun _=>?_)) | (refine K.call ?_;first | (refine JO.ld (Ld.pure (MA) (qb rfl) rfl (by (exact LeDs.cons .refl (.cons .refl .nil)))) rfl (fun _=>?_)) | (refine JO.ld (Ld.pure (MB) (qb rfl) rfl (by (exact LeDs.cons .refl (.cons .refl .nil)))) rfl (fun _=>?_))) | refine gmQ ?_ | intro _)
  (exact J.ret Try.func23 rfl (.cons (.cell 2 rfl rfl rfl) (.cons (.tmp rfl) .nil)) ⟨q,fun h=>by cases h⟩ (by exact .refl) [] .nil rfl rfl)
 cases t1:(xc != yc)
 case true =>
  obtain rfl:=no (.inr (.inr (.inl (by simpa using t1))))
  repeat (first | (refine K.store ?_;refine JO.ld (Ld.storeW rfl rfl rfl (by exact rfl) (by exact rfl)) rfl (fun _=>?_)) | (refine K.call ?_;first | (refine JO.ld (Ld.pure (MA) (qb rfl) rfl (by (exact LeDs.cons .refl (.cons .refl .nil)))) rfl (fun _=>?_)) | (refine JO.ld (Ld.pure (MB) (qb rfl) rfl (by (exact LeDs.cons .refl (.cons .refl .nil)))) rfl (fun _=>?_))) | refine gmQ ?_ | intro _)
  (exact J.ret Try.func23 rfl (.cons (.cell 2 rfl rfl rfl) (.cons (.tmp rfl) .nil)) ⟨q,fun h=>by cases h⟩ (by exact .refl) [] .nil rfl rfl)
 rcases hch:Md.chan st.chans xc with _ | c
 ·rw [hch] at MD;obtain rfl:=no (.inr (.inr (.inr (.inl hch))))
  repeat (first | (refine K.store ?_;refine JO.ld (Ld.storeW rfl rfl rfl (by exact rfl) (by exact rfl)) rfl (fun _=>?_)) | (refine K.call ?_;first | (refine JO.ld (Ld.pure (MA) (qb rfl) rfl (by (exact LeDs.cons .refl (.cons .refl .nil)))) rfl (fun _=>?_)) | (refine JO.ld (Ld.pure (MB) (qb rfl) rfl (by (exact LeDs.cons .refl (.cons .refl .nil)))) rfl (fun _=>?_)) | (refine JO.ld (Ld.pure (MD) (qb rfl) rfl (by (exact LeDs.cons .refl (.cons .refl .nil)))) rfl (fun _=>?_))) | refine gmQ ?_ | intro _)
  (exact J.ret Try.func23 rfl (.cons (.cell 2 rfl rfl rfl) (.cons (.tmp rfl) .nil)) ⟨q,fun h=>by cases h⟩ (by exact .refl) [] .nil rfl rfl)
 rw [hch] at MD;simp only [Option.isSome_some] at MD
 cases t2:(s.wi != r.g)
 case true =>
  obtain rfl:=no (.inr (.inr (.inr (.inr (.inl (by simpa using t2))))))
  repeat (first | (refine K.store ?_;refine JO.ld (Ld.storeW rfl rfl rfl (by exact rfl) (by exact rfl)) rfl (fun _=>?_)) | (refine K.call ?_;first | (refine JO.ld (Ld.pure (MA) (qb rfl) rfl (by (exact LeDs.cons .refl (.cons .refl .nil)))) rfl (fun _=>?_)) | (refine JO.ld (Ld.pure (MB) (qb rfl) rfl (by (exact LeDs.cons .refl (.cons .refl .nil)))) rfl (fun _=>?_)) | (refine JO.ld (Ld.pure (MD) (qb rfl) rfl (by (exact LeDs.cons .refl (.cons .refl .nil)))) rfl (fun _=>?_))) | refine gmQ ?_ | intro _)
  (exact J.ret Try.func23 rfl (.cons (.cell 2 rfl rfl rfl) (.cons (.tmp rfl) .nil)) ⟨q,fun h=>by cases h⟩ (by exact .refl) [] .nil rfl rfl)
 cases t3:(r.wi != s.g)
 case true =>
  obtain rfl:=no (.inr (.inr (.inr (.inr (.inr (by simpa using t3))))))
  repeat (first | (refine K.store ?_;refine JO.ld (Ld.storeW rfl rfl rfl (by exact rfl) (by exact rfl)) rfl (fun _=>?_)) | (refine K.call ?_;first | (refine JO.ld (Ld.pure (MA) (qb rfl) rfl (by (exact LeDs.cons .refl (.cons .refl .nil)))) rfl (fun _=>?_)) | (refine JO.ld (Ld.pure (MB) (qb rfl) rfl (by (exact LeDs.cons .refl (.cons .refl .nil)))) rfl (fun _=>?_)) | (refine JO.ld (Ld.pure (MD) (qb rfl) rfl (by (exact LeDs.cons .refl (.cons .refl .nil)))) rfl (fun _=>?_))) | refine gmQ ?_ | intro _)
  (exact J.ret Try.func23 rfl (.cons (.cell 2 rfl rfl rfl) (.cons (.tmp rfl) .nil)) ⟨q,fun h=>by cases h⟩ (by exact .refl) [] .nil rfl rfl)
 obtain ⟨e1,e2⟩:=Jg.both_yes (st:=st) hx hy rfl rfl (by simpa using t1) (by simpa using t2) (by simpa using t3) hch;rw [e1] at hB;rw [e2] at hT;obtain ⟨i0,CX⟩:=chan_at hch;rw [hr.1] at CX;have cl:=(List.getElem?_eq_some_iff.1 CX).1;rw [List.length_map,← hr.1] at cl;have c8:=hz.1;have w1:IntKind.i64.wrap (xc - 1)=xc - 1:=w64 (by omega) (by omega);clear no;unfold Jg.coreB at hB;unfold Jg.coreS at hT
 cases t4:(c.cap == 0)
 case true =>
  rw [if_pos (by simpa using t4)] at hB hT;unfold Jg.meetV at hB hT;have MM:=r_meet st q hr s.g os s.fire r.g or r.fire n hn (by omega);rcases hm:Md.meet st s.g os s.fire r.g or r.fire with ⟨st1,_ | v⟩
  ·rw [hm] at MM hB;simp only [Option.isSome_none,Option.getD_none,Bool.false_and] at MM hB;subst hB
   repeat (first | (refine K.store ?_;refine JO.ld (Ld.storeW rfl rfl rfl (by exact rfl) (by exact rfl)) rfl (fun _=>?_)) | (refine K.indexAddr ?_;refine jq rfl rfl rfl (Qt.indexR rfl rfl i0 CX) ?_) | (refine K.binOp ?_;refine jq rfl rfl rfl (Qt.ari rfl rfl rfl w1) ?_) | (refine K.call ?_;first | (refine JO.ld (Ld.pure (MA) (qb rfl) rfl (by (exact LeDs.cons .refl (.cons .refl .nil)))) rfl (fun _=>?_)) | (refine JO.ld (Ld.pure (MB) (qb rfl) rfl (by (exact LeDs.cons .refl (.cons .refl .nil)))) rfl (fun _=>?_)) | (refine JO.ld (Ld.pure (MD) (qb rfl) rfl (by (exact LeDs.cons .refl (.cons .refl .nil)))) rfl (fun _=>?_)) | (refine JO.callI (MM) rfl (qb rfl) rfl (by (exact LeDs.cons .refl (.cons .refl (.cons .refl (.cons .refl (.cons .refl (.cons .refl (.cons .refl .nil)))))))) ?_;intro _)) | (refine K.build ?_;first | refine jq rfl rfl rfl ((Qt.buildA (r:=eRes (Jg.got r.fire 0)) rfl rfl)) ?_ | refine jq rfl rfl rfl ((Qt.buildA (r:=eRes (Jg.sent s.fire)) rfl rfl)) ?_) | refine gmQ ?_ | intro _)
   refine J.draw (by kernel_rfl) rfl ?_;refine JW.base1 none (.tmp 10) rfl ?_;refine tk 0 ?_;refine tk 1 ?_;refine tk 2 ?_
   (refine JD.skip 3 rfl rfl (by kernel_rfl) rfl (qb rfl) ?_)
   (refine JD.skip 4 rfl rfl (by kernel_rfl) rfl (qb rfl) ?_)
   (refine JD.skip 5 rfl rfl (by kernel_rfl) rfl (qb rfl) ?_)
   refine tk 6 ?_;refine tk 7 ?_
   (refine JD.skip 8 rfl rfl (by kernel_rfl) rfl (qb rfl) ?_)
   (refine JD.skip 9 rfl rfl (by kernel_rfl) rfl (qb rfl) ?_)
   (refine JD.skip 10 rfl rfl (by kernel_rfl) rfl (qb rfl) ?_)
   refine tk 11 ?_;refine JD.each1 (i:=12) (by kernel_rfl) ?_
   (refine JS.st rfl rfl rfl (Ld.storeW rfl rfl rfl (by exact rfl) (by exact rfl)) (.tbox rfl) (fun _=>?_))
   refine tk 13 ?_;refine dnQ ?_
   all_goals
    rename_i z _ _ _ _ _ _ _
    repeat (fail)
    (exact J.ret Try.func23 rfl (.cons (.cell 6 rfl rfl rfl) (.cons (.tmp rfl) .nil)) ⟨z.1,fun h=>by cases h⟩ (by exact .refl) [] .nil rfl rfl)
  rw [hm] at MM hB hT;simp only [Option.isSome_some,Option.getD_some,Bool.true_and] at MM hB hT;subst hB hT;have A1:=t_refAgrees s (Jg.sent s.fire);have A2:=t_refAgrees r (Jg.got r.fire v)
  repeat (first | (refine K.store ?_;refine JO.ld (Ld.storeW rfl rfl rfl (by exact rfl) (by exact rfl)) rfl (fun _=>?_)) | (refine K.indexAddr ?_;refine jq rfl rfl rfl (Qt.indexR rfl rfl i0 CX) ?_) | (refine K.binOp ?_;refine jq rfl rfl rfl (Qt.ari rfl rfl rfl w1) ?_) | (refine K.call ?_;first | (refine JO.ld (Ld.pure (MA) (qb rfl) rfl (by (exact LeDs.cons .refl (.cons .refl .nil)))) rfl (fun _=>?_)) | (refine JO.ld (Ld.pure (MB) (qb rfl) rfl (by (exact LeDs.cons .refl (.cons .refl .nil)))) rfl (fun _=>?_)) | (refine JO.ld (Ld.pure (MD) (qb rfl) rfl (by (exact LeDs.cons .refl (.cons .refl .nil)))) rfl (fun _=>?_)) | (refine JO.callI (MM) rfl (qb rfl) rfl (by (exact LeDs.cons .refl (.cons .refl (.cons .refl (.cons .refl (.cons .refl (.cons .refl (.cons .refl .nil)))))))) ?_;intro _)) | (refine K.build ?_;first | refine jq rfl rfl rfl ((Qt.buildA (r:=eRes (Jg.got r.fire v)) rfl rfl)) ?_ | refine jq rfl rfl rfl ((Qt.buildA (r:=eRes (Jg.sent s.fire)) rfl rfl)) ?_) | refine gmQ ?_ | intro _)
  rename_i z _ _ _ _ _ _
  cases u1:Jg.agr s (Jg.sent s.fire)
  ·rw [u1] at A1;refine J.draw (by kernel_rfl) rfl ?_;refine JW.base1 none (.tmp 10) rfl ?_;refine tk 0 ?_;refine tk 1 ?_;refine tk 2 ?_;refine tk 3 ?_;refine tk 4 ?_;refine jl 5 rfl rfl rfl rfl (Ld.pure (A1) (qb rfl) rfl (by repeat (first | exact LeDs.nil | refine LeDs.cons (LeD.agg (by repeat (first | exact .nil | refine .cons .refl ?_))) ?_))) .none (fun _=>?_);refine jk 6 rfl rfl rfl rfl (Qt.pick rfl rfl) ?_;refine jk 7 rfl rfl rfl rfl (Qt.move rfl) ?_
   (refine JD.skip 8 rfl rfl (by kernel_rfl) rfl (qb rfl) ?_)
   (refine JD.skip 9 rfl rfl (by kernel_rfl) rfl (qb rfl) ?_)
   (refine JD.skip 10 rfl rfl (by kernel_rfl) rfl (qb rfl) ?_)
   refine tk 11 ?_;refine JD.each1 (i:=12) (by kernel_rfl) ?_
   (refine JS.st rfl rfl rfl (Ld.storeW rfl rfl rfl (by exact rfl) (by exact rfl)) (.tbox rfl) (fun _=>?_))
   refine jk 13 rfl rfl rfl rfl (Qt.assign rfl) ?_;refine dnQ ?_
   all_goals
    repeat (fail)
    (exact J.ret Try.func23 rfl (.cons (.cell 6 rfl rfl rfl) (.cons (.tmp rfl) .nil)) ⟨z.1,fun _=>z.2⟩ (by exact .refl) [] .nil rfl rfl)
  ·rw [u1] at A1;refine J.draw (by kernel_rfl) rfl ?_;refine JW.base1 none (.tmp 10) rfl ?_;refine tk 0 ?_;refine tk 1 ?_;refine tk 2 ?_;refine tk 3 ?_;refine tk 4 ?_;refine jl 5 rfl rfl rfl rfl (Ld.pure (A1) (qb rfl) rfl (by repeat (first | exact LeDs.nil | refine LeDs.cons (LeD.agg (by repeat (first | exact .nil | refine .cons .refl ?_))) ?_))) .none (fun _=>?_);refine jk 6 rfl rfl rfl rfl (Qt.pick rfl rfl) ?_;refine jk 7 rfl rfl rfl rfl (Qt.move rfl) ?_;refine tk 8 ?_;refine tk 9 ?_;refine jl 10 rfl rfl rfl rfl (Ld.pure (A2) (qb rfl) rfl (by repeat (first | exact LeDs.nil | refine LeDs.cons (LeD.agg (by repeat (first | exact .nil | refine .cons .refl ?_))) ?_))) .none (fun _=>?_);refine tk 11 ?_;refine JD.each1 (i:=12) (by kernel_rfl) ?_
   (refine JS.st rfl rfl rfl (Ld.storeW rfl rfl rfl (by exact rfl) (by exact rfl)) (.tbox rfl) (fun _=>?_))
   refine jk 13 rfl rfl rfl rfl (Qt.assign rfl) ?_;refine dnQ ?_
   all_goals
    repeat (fail)
    (exact J.ret Try.func23 rfl (.cons (.cell 6 rfl rfl rfl) (.cons (.tmp rfl) .nil)) ⟨z.1,fun _=>z.2⟩ (by exact .refl) [] .nil rfl rfl)
 rw [if_neg (by simpa using t4)] at hB hT
 cases t5:((c.buf.length:Int) == c.cap)
 case true =>
  rw [if_pos (by simpa using t5)] at hB hT;unfold Jg.seqB at hB;unfold Jg.seqS at hT;have MF:=t_refFires st q hr or r n k hn hb hz (by omega)
  cases u1:Jg.fireB st r or
  ·rw [u1] at MF hB;simp only [Bool.false_and] at hB;subst hB
   repeat (first | (refine K.store ?_;refine JO.ld (Ld.storeW rfl rfl rfl (by exact rfl) (by exact rfl)) rfl (fun _=>?_)) | (refine K.indexAddr ?_;refine jq rfl rfl rfl (Qt.indexR rfl rfl i0 CX) ?_) | (refine K.binOp ?_;refine jq rfl rfl rfl (Qt.ari rfl rfl rfl w1) ?_) | (refine K.call ?_;first | (refine JO.ld (Ld.pure (MA) (qb rfl) rfl (by (exact LeDs.cons .refl (.cons .refl .nil)))) rfl (fun _=>?_)) | (refine JO.ld (Ld.pure (MB) (qb rfl) rfl (by (exact LeDs.cons .refl (.cons .refl .nil)))) rfl (fun _=>?_)) | (refine JO.ld (Ld.pure (MD) (qb rfl) rfl (by (exact LeDs.cons .refl (.cons .refl .nil)))) rfl (fun _=>?_)) | (refine JO.callI (MF) rfl (qb rfl) rfl (by (exact LeDs.cons .refl (.cons .refl (.cons .refl .nil)))) ?_;intro _)) | refine gmQ ?_ | intro _)
   rename_i z _ _ _
   (exact J.ret Try.func23 rfl (.cons (.cell 4 rfl rfl rfl) (.cons (.tmp rfl) .nil)) ⟨z.1,fun h=>by cases h⟩ (by exact .refl) [] .nil rfl rfl)
  rw [u1] at MF hB hT;simp only [Bool.true_and,if_true] at hB hT;subst hB hT
  repeat (first | (refine K.store ?_;refine JO.ld (Ld.storeW rfl rfl rfl (by exact rfl) (by exact rfl)) rfl (fun _=>?_)) | (refine K.indexAddr ?_;refine jq rfl rfl rfl (Qt.indexR rfl rfl i0 CX) ?_) | (refine K.binOp ?_;refine jq rfl rfl rfl (Qt.ari rfl rfl rfl w1) ?_) | (refine K.call ?_;first | (refine JO.ld (Ld.pure (MA) (qb rfl) rfl (by (exact LeDs.cons .refl (.cons .refl .nil)))) rfl (fun _=>?_)) | (refine JO.ld (Ld.pure (MB) (qb rfl) rfl (by (exact LeDs.cons .refl (.cons .refl .nil)))) rfl (fun _=>?_)) | (refine JO.ld (Ld.pure (MD) (qb rfl) rfl (by (exact LeDs.cons .refl (.cons .refl .nil)))) rfl (fun _=>?_)) | (refine JO.callI (MF) rfl (qb rfl) rfl (by (exact LeDs.cons .refl (.cons .refl (.cons .refl .nil)))) ?_;intro _)) | refine gmQ ?_ | intro _)
  rename_i z _ _;have MF2:=t_refFires (Jg.fireS st r or) z.1 z.2.1 os s n (k + 1) z.2.2 hb (hz.fire _ _ _) (by omega)
  repeat (first | (refine K.store ?_;refine JO.ld (Ld.storeW rfl rfl rfl (by exact rfl) (by exact rfl)) rfl (fun _=>?_)) | (refine K.call ?_;refine JO.callI (MF2) rfl (qb rfl) rfl (by (exact LeDs.cons .refl (.cons .refl (.cons .refl .nil)))) ?_;intro _) | refine gn ?_)
  rename_i z2 _
  (exact J.ret Try.func23 rfl (.cons (.cell 4 rfl rfl rfl) (.cons (.tmp rfl) .nil)) ⟨z2.1,fun _=>z2.2⟩ (by exact .refl) [] .nil rfl rfl)
 rw [if_neg (by simpa using t5)] at hB hT;unfold Jg.seqB at hB;unfold Jg.seqS at hT;have MF:=t_refFires st q hr os s n k hn hb hz (by omega)
 cases u1:Jg.fireB st s os
 ·rw [u1] at MF hB;simp only [Bool.false_and] at hB;subst hB
  repeat (first | (refine K.store ?_;refine JO.ld (Ld.storeW rfl rfl rfl (by exact rfl) (by exact rfl)) rfl (fun _=>?_)) | (refine K.indexAddr ?_;refine jq rfl rfl rfl (Qt.indexR rfl rfl i0 CX) ?_) | (refine K.binOp ?_;refine jq rfl rfl rfl (Qt.ari rfl rfl rfl w1) ?_) | (refine K.call ?_;first | (refine JO.ld (Ld.pure (MA) (qb rfl) rfl (by (exact LeDs.cons .refl (.cons .refl .nil)))) rfl (fun _=>?_)) | (refine JO.ld (Ld.pure (MB) (qb rfl) rfl (by (exact LeDs.cons .refl (.cons .refl .nil)))) rfl (fun _=>?_)) | (refine JO.ld (Ld.pure (MD) (qb rfl) rfl (by (exact LeDs.cons .refl (.cons .refl .nil)))) rfl (fun _=>?_)) | (refine JO.callI (MF) rfl (qb rfl) rfl (by (exact LeDs.cons .refl (.cons .refl (.cons .refl .nil)))) ?_;intro _)) | refine gmQ ?_ | intro _)
  rename_i z _ _ _
  (exact J.ret Try.func23 rfl (.cons (.cell 4 rfl rfl rfl) (.cons (.tmp rfl) .nil)) ⟨z.1,fun h=>by cases h⟩ (by exact .refl) [] .nil rfl rfl)
 rw [u1] at MF hB hT;simp only [Bool.true_and,if_true] at hB hT;subst hB hT
 repeat (first | (refine K.store ?_;refine JO.ld (Ld.storeW rfl rfl rfl (by exact rfl) (by exact rfl)) rfl (fun _=>?_)) | (refine K.indexAddr ?_;refine jq rfl rfl rfl (Qt.indexR rfl rfl i0 CX) ?_) | (refine K.binOp ?_;refine jq rfl rfl rfl (Qt.ari rfl rfl rfl w1) ?_) | (refine K.call ?_;first | (refine JO.ld (Ld.pure (MA) (qb rfl) rfl (by (exact LeDs.cons .refl (.cons .refl .nil)))) rfl (fun _=>?_)) | (refine JO.ld (Ld.pure (MB) (qb rfl) rfl (by (exact LeDs.cons .refl (.cons .refl .nil)))) rfl (fun _=>?_)) | (refine JO.ld (Ld.pure (MD) (qb rfl) rfl (by (exact LeDs.cons .refl (.cons .refl .nil)))) rfl (fun _=>?_)) | (refine JO.callI (MF) rfl (qb rfl) rfl (by (exact LeDs.cons .refl (.cons .refl (.cons .refl .nil)))) ?_;intro _)) | refine gmQ ?_ | intro _)
 rename_i z _ _;have MF2:=t_refFires (Jg.fireS st s os) z.1 z.2.1 or r n (k + 1) z.2.2 hb (hz.fire _ _ _) (by omega)
 repeat (first | (refine K.store ?_;refine JO.ld (Ld.storeW rfl rfl rfl (by exact rfl) (by exact rfl)) rfl (fun _=>?_)) | (refine K.call ?_;refine JO.callI (MF2) rfl (qb rfl) rfl (by (exact LeDs.cons .refl (.cons .refl (.cons .refl .nil)))) ?_;intro _) | refine gn ?_)
 rename_i z2 _
 (exact J.ret Try.func23 rfl (.cons (.cell 4 rfl rfl rfl) (.cons (.tmp rfl) .nil)) ⟨z2.1,fun _=>z2.2⟩ (by exact .refl) [] .nil rfl rfl)
end Fl
end Go.Proofs.Ytdibmkjoaghafaa
