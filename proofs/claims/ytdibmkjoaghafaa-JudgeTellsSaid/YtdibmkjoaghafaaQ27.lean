/-
  What the laws need, part Q27.
  Conditions: none.
-/
import Derived.Test.YtdibmkjoaghafaaQ26
set_option linter.unusedVariables false
set_option linter.unusedSimpArgs false
set_option linter.unnecessarySimpa false
set_option maxHeartbeats 2000000
namespace Go.Proofs.Ytdibmkjoaghafaa
namespace Jg
theorem hd_at {x:Ta.Pt} {r:List Ta.Pt} {n:Nat} (h:n < (hd x r).length):∃ y,(x :: r)[n]?=some y∧y.step=x.step:=by
 refine ⟨(hd x r)[n],?_,hd_same _ (List.getElem_mem h)⟩;rw [← hd_tl x r,List.getElem?_append_left h,List.getElem?_eq_getElem h]
theorem dw_head {α:Type} {q:α→Bool}:∀ {r:List α} {z:α} {t:List α},r.dropWhile q=z :: t→q z=false
 | [],z,t,h=>by cases h
 | a :: r,z,t,h=>by
  rw [List.dropWhile_cons] at h
  split at h
  ·exact dw_head h
  ·rename_i e
   injection h with h1 h2;rw [← h1];simpa using e
theorem hd_end {x:Ta.Pt} {r:List Ta.Pt}:(tl x r=[]∧(hd x r).length=(x :: r).length)∨∃ z,(x :: r)[(hd x r).length]?=some z∧¬ z.step=x.step:=by
 cases h:tl x r with
 | nil =>
  left
  refine ⟨rfl,?_⟩
  conv=>rhs;rw [← hd_tl x r,h,List.append_nil]
 | cons z t =>
  right
  refine ⟨z,?_,?_⟩
  ·rw [← hd_tl x r,List.getElem?_append_right (Nat.le_refl _),Nat.sub_self,h];rfl
  ·have:=dw_head h;unfold same at this;simpa using this
theorem hd_le (x:Ta.Pt) (r:List Ta.Pt):(hd x r).length≤(x :: r).length:=by
 conv=>rhs;rw [← hd_tl x r]
 simp
theorem tl_is (x:Ta.Pt) (r:List Ta.Pt):(x :: r).drop (hd x r).length=tl x r:=by
 conv=>lhs;rw [← hd_tl x r]
 rw [List.drop_left'];rfl
theorem hd_pos (x:Ta.Pt) (r:List Ta.Pt):1≤(hd x r).length:=by unfold hd;simp
theorem cutO_cases (o:Pn.Op) (n:Int):(cutO o n).cases.length=o.cases.length:=by
 unfold cutO
 split
 ·rfl
 ·split
  ·simp
  ·rfl
theorem seen_cases (p:List (List Pn.Op)) (l:List Sx.Mk) (m:Sx.Mk):(seen p l m).cases.length=(opAt p m).cases.length:=cutO_cases _ _
def st0:Md.St:=⟨[],fun _=>none⟩
noncomputable def rp (p:List (List Pn.Op)) (l:List Sx.Mk):Md.St × Int:=if fits p l=true then run l (opP p l) st0 (Ta.points l) else (st0,-1)
theorem points_len (l:List Sx.Mk):(Ta.points l).length≤2 * l.length:=by
 unfold Ta.points;rw [Ss.srt_len];exact Ta.ptsTo_len l _
def Part (l:List Sx.Mk) (f:Nat→Pn.Op) (st:Md.St) (R:List Ta.Pt):Prop:=(∃ D,Ta.points l=D ++ R)∧run l f st R=run l f st0 (Ta.points l)∧∃ k,Sz st k
theorem Part.start (l:List Sx.Mk) (f:Nat→Pn.Op):Part l f st0 (Ta.points l):=⟨⟨[],rfl⟩,rfl,0,by unfold Sz Bf st0;simp⟩
theorem Part.mem {l:List Sx.Mk} {f:Nat→Pn.Op} {st:Md.St} {R:List Ta.Pt} (h:Part l f st R) {y:Ta.Pt} (hy:y∈R):y∈Ta.points l:=by
 obtain ⟨⟨D,e⟩,_⟩:=h;rw [e];exact List.mem_append_right _ hy
theorem Part.next {l:List Sx.Mk} {f:Nat→Pn.Op} {st:Md.St} {x:Ta.Pt} {r:List Ta.Pt} (h:Part l f st (x :: r)) (hg:grpB l f st (hd x r)=true):Part l f (grpS l f st (hd x r)) (tl x r):=by
 obtain ⟨⟨D,e⟩,e2,k,hz⟩:=h;refine ⟨⟨D ++ hd x r,by rw [e,List.append_assoc,hd_tl]⟩,?_,k + 2,hz.grp _ _ _⟩;rw [← e2,run_yes hg]
theorem Part.stop {l:List Sx.Mk} {f:Nat→Pn.Op} {st:Md.St} {x:Ta.Pt} {r:List Ta.Pt} (h:Part l f st (x :: r)) (hg:grpB l f st (hd x r)=false):(run l f st0 (Ta.points l)).2=x.step:=by
 rw [← h.2.1,run_no hg]
end Jg
open Go.RowKit
namespace Fl
set_option maxRecDepth 100000
set_option maxHeartbeats 4000000
section
variable {P:Program} {c:Cx} {k:List Item} {f:Fm} {L:List Res} {ops:Array Oper} {l:List Oper} {T:TypeId} {ps:String} {af:Array Edge} {gd:Option (Nat × Bool)} {t:Nat}
theorem JO.callM {F:FuncId} {args:List Operand} {tys:Array TypeId} {ds0 ds:List D} {ι:Type} {dd:ι→D} {r:ι→Res} [i:TyC P F] (hC:Con P F ds [] (fun x=>(dd x,[r x]))) (hw:Wants ops ⟨some t,.call ⟨.value (.func F),args.toArray,tys⟩,T,ps,af,gd⟩ f=true) (ht:t < c.N) (h:evDs f args=some ds0) (hle:LeDs ds0 ds)
  (hk:∀ x,JO P c ops l k ((t,dd x) :: f) (r x :: L)):JO P c ops (⟨some t,.call ⟨.value (.func F),args.toArray,tys⟩,T,ps,af,gd⟩ :: l) k f L :=
 JO.call hC hw ht h hle (Ll:=[]) (Lr:=L) rfl hk
end
abbrev rpD (K:Int):Option (Nat × Nat × List Nat)→D
 | none=>.tup [.c (.v (.pointer none)),.c (nI K)]
 | some x=>.tup [.c (.v (pt x.1)),.c (nI K)]
abbrev rpL (st:Md.St):Option (Nat × Nat × List Nat)→List Res
 | none=>[]
 | some x=>[moT x.1 x.2.1 st x.2.2]
def opsK (p:List (List Pn.Op)) (l:List Sx.Mk) (k:Nat):List (List A):=(l.take k).map (fun m=>eOp (Jg.seen p l m)) ++ List.replicate (l.length - k) zO
theorem opsK_len (p:List (List Pn.Op)) (l:List Sx.Mk) (k:Nat) (h:k≤l.length):(opsK p l k).length=l.length:=by unfold opsK;simp;omega
theorem opsK_set {p:List (List Pn.Op)} {l:List Sx.Mk} {k:Nat} {m:Sx.Mk} (h:l[k]?=some m):opsK p l (k + 1)=(opsK p l k).set k (eOp (Jg.seen p l m)):=by
 have hk:=(List.getElem?_eq_some_iff.1 h).1;unfold opsK;rw [List.take_add_one,h,show l.length - k=(l.length - (k + 1)) + 1 by omega,List.replicate_succ];simp only [Option.toList_some,List.map_append,List.map_cons,List.map_nil,List.append_assoc,List.singleton_append];rw [List.set_append_right _ _ (by simp;omega)]
 congr 1
 simp only [List.length_map,List.length_take];rw [show k - min k l.length=0 by omega];rfl
theorem opsK_all (p:List (List Pn.Op)) (l:List Sx.Mk):opsK p l l.length=(l.map (Jg.seen p l)).map eOp:=by unfold opsK;simp
theorem wfG {x:Int} (h1:0≤x) (h2:x < 1000):wf64L x:=by unfold wf64L Lit.wf;simp [IntKind.min,IntKind.max,IntKind.signed,IntKind.bits];omega
theorem t_Replay (p:List (List Pn.Op)) (l:List Sx.Mk) (hs:l.length≤400) (hp:p.length≤400) (hcs:∀ m∈l,Jg.inP p m=true→(Jg.opAt p m).cases.length≤1000) :
  Con Try.prog 5 [.c (opsA p),.c (.r 13 (l.map eM))] [] (fun x:{ x:Option (Nat × Nat × List Nat) // x.isSome=((Jg.rp p l).2 == 0)∧∀ y,x=some y→y.2.1≤2000 }=>(rpD (Jg.rp p l).2 x.1,rpL (Jg.rp p l).1 x.1)):=by
 refine Con.intro Try.func5 rfl rfl rfl (fun ok e=>?_);have CF:=t_Fits p l hs hp
 cases hf:Jg.fits p l
 ·rw [hf] at CF;have e1:Jg.rp p l=(Jg.st0,-1):=by unfold Jg.rp;rw [if_neg (by simp [hf])]
  rw [e1]
  repeat (first | (refine K.call ?_;refine JO.ld (Ld.pure (CF) (qb rfl) rfl (by (exact LeDs.cons .refl (.cons .refl .nil)))) rfl (fun _=>?_)) | refine gn ?_)
  exact J.ret Try.func5 rfl (.cons (.tmp rfl) (.cons (.tmp rfl) .nil)) ⟨none,rfl,fun y h=>by cases h⟩ (by exact .refl) [] .nil rfl rfl
 rw [hf] at CF;have e1:Jg.rp p l=Jg.run l (Jg.opP p l) Jg.st0 (Ta.points l):=by unfold Jg.rp;rw [if_pos hf]
 rw [e1];have hin:∀ x∈l,Jg.inP p x=true:=fun x hx=>(Jg.fits_op hf hx).2.2
 repeat (first | (refine K.call ?_;refine JO.ld (Ld.pure (CF) (qb rfl) rfl (by (exact LeDs.cons .refl (.cons .refl .nil)))) rfl (fun _=>?_)) | (refine K.make ?_;refine JO.ld (Ld.make (l.length) (qb rfl) rfl rfl (by (rfl)) (by omega)) rfl (fun _=>?_)) | refine gn ?_)
 rename_i b6;refine J.loop (ι:={ k:Nat // k≤l.length }) (fun q=>[(24,.c (nI q.1)),(23,.c (nI l.length)),(22,.c (.r 13 (l.map eM))),(6,.c (.v (.slice (some ⟨b6,0,none⟩) l.length l.length))),(1,.c (.r 13 (l.map eM))),(0,.c (opsA p))])
  (fun q=>[.row (.slice (some ⟨b6,0,none⟩) l.length l.length) 28 6 (opsK p l q.1)]) (fun q=>l.length - q.1) ⟨0,Nat.zero_le _⟩ (fun X h=>J.congL (by unfold opsK;rfl) (h.weak ⟨rfl,rfl,rfl,rfl,rfl,rfl,trivial⟩)) (fun q ih=>?_)
 obtain ⟨k,hk'⟩:=q;simp only at hk' ih ⊢
 by_cases hk:k < l.length
 ·have t1:decide ((k:Int) < (l.length:Int))=true:=decide_eq_true (by omega);obtain ⟨m,hm⟩:∃ m,l[k]?=some m:=⟨_,List.getElem?_eq_getElem hk⟩
  have AX:=s_at (enc:=eM) hm;have hmi:=hin m (List.mem_of_getElem? hm);have CS:=t_Seen p l m hs hin hmi (hcs m (List.mem_of_getElem? hm) hmi);have i0:(0:Int)≤(k:Int):=by omega
  have i1:(k:Int) < ((opsK p l k).length:Int):=by rw [opsK_len p l k hk'];omega
  have q1:((k:Nat):Int).toNat < (opsK p l k).length:=by omega
  have ih1:=ih ⟨k + 1,by omega⟩ (by simp only;omega);clear ih;simp only at ih1;rw [opsK_set hm] at ih1;generalize opsK p l k=R at i1 q1 ih1 ⊢
  repeat (first | (refine K.store ?_;first | refine JO.ld (Ld.storeOW rfl rfl rfl (by exact rfl) (by exact q1)) rfl (fun _=>?_) | refine JO.ld (Ld.storeW rfl rfl rfl (by exact rfl) (by exact rfl)) rfl (fun _=>?_)) | (refine K.indexAddr ?_;refine jq rfl rfl rfl (Qt.indexO rfl rfl i0 i1) ?_) | (refine K.call ?_;refine JO.ld (Ld.pure (CS) (qb rfl) rfl (by (exact LeDs.cons .refl (.cons .refl (.cons .refl .nil))))) rfl (fun _=>?_)) | refine gmQ ?_ | intro _)
  refine J.dropN 0 ?_;exact ih1.weak ⟨rfl,rfl,rfl,rfl,rfl,rfl,trivial⟩
 obtain rfl:k=l.length:=by omega
 have t1:decide ((l.length:Int) < (l.length:Int))=false:=decide_eq_false (by omega);clear ih hk hk';rw [opsK_all];refine J.frzS 6 rfl ?_;have CP:=t_points l hs
 repeat (first | (refine K.call ?_;first | refine JO.callM m_new rfl (qb rfl) rfl .nil ?_;intro _ | (refine JO.ld (Ld.pure (CP) (qb rfl) rfl (LeDs.cons .refl .nil)) rfl (fun _=>?_))) | refine gn ?_)
 rename_i q0 _;obtain ⟨b,S0⟩:=q0;simp only;obtain ⟨T,hT⟩:∃ T,(Jg.run l (Jg.opP p l) Jg.st0 (Ta.points l)).1=T:=⟨_,rfl⟩
 obtain ⟨sp,hK⟩:∃ sp,(Jg.run l (Jg.opP p l) Jg.st0 (Ta.points l)).2=sp:=⟨_,rfl⟩
 rw [hT,hK];have pl:=Jg.points_len l;refine J.loop (ι:={ q:List Ta.Pt × Md.St × Nat × List Nat // Jg.Part l (Jg.opP p l) q.2.1 q.1∧q.2.2.1 + 2 * q.1.length≤1700 }) (fun q=>[(10,.c (.r 3 (q.1.1.map ePt))),(9,.c (.v (pt b))),(6,.c (.r 6 ((l.map (Jg.seen p l)).map eOp))),(1,.c (.r 13 (l.map eM)))])
  (fun q=>[moT b q.1.2.2.1 q.1.2.1 q.1.2.2.2]) (fun q=>q.1.1.length) ⟨(Ta.points l,Jg.st0,0,S0),Jg.Part.start l _,by simp only;omega⟩ (fun X h=>h.weak ⟨rfl,rfl,rfl,rfl,trivial⟩) (fun q ih=>?_)
 obtain ⟨⟨R,st,N,S⟩,hpt,hN⟩:=q;simp only at hpt hN ih ⊢
 cases R with
 | nil =>
  have t2:decide ((([]:List Ta.Pt).length:Int) > 0)=false:=rfl;have hr:=hpt.2.1;rw [Jg.run_nil] at hr;rw [← hr] at hT hK;simp only at hT hK;subst hT hK
  repeat (refine gn ?_)
  (exact J.retA Try.func5 rfl (.cons (.tmp rfl) (.cons (.tmp rfl) .nil)) ⟨some (b,N,S),rfl,fun y h=>by cases h;simp only;omega⟩ (by exact .refl) rfl)
 | cons x r =>
  have t2:decide (((x :: r).length:Int) > 0)=true:=decide_eq_true (by simp only [List.length_cons];omega);have hle:=Jg.hd_le x r;have P0:((x :: r).map ePt)[(0:Int).toNat]?=some (ePt x):=rfl;have z0:(0:Int)≤0:=Int.le_refl _
  repeat (refine gn ?_)
  refine J.loop (ι:={ n:Nat // 1≤n∧n≤(Jg.hd x r).length }) (fun q=>[(11,.c (nI q.1)),(10,.c (.r 3 ((x :: r).map ePt))),(9,.c (.v (pt b))),(6,.c (.r 6 ((l.map (Jg.seen p l)).map eOp))),(1,.c (.r 13 (l.map eM)))])
   (fun q=>[moT b N st S]) (fun q=>(Jg.hd x r).length - q.1) ⟨1,Nat.le_refl _,Jg.hd_pos x r⟩ (fun X h=>h.weak ⟨rfl,rfl,rfl,rfl,rfl,trivial⟩) (fun q ih2=>?_)
  obtain ⟨n,n1,n2⟩:=q;simp only at n1 n2 ih2 ⊢;have zn:(0:Int)≤(n:Int):=by omega
  by_cases hn:n < (Jg.hd x r).length
  ·obtain ⟨y,hy,hys⟩:=Jg.hd_at hn;have t3:decide ((n:Int) < ((x :: r).length:Int))=true:=decide_eq_true (by omega);have t4:(y.step == x.step)=true:=by simpa using hys
   have PN:=s_at (enc:=ePt) hy;have ih3:=ih2 ⟨n + 1,by omega,by omega⟩ (by simp only;omega);clear ih ih2
   repeat ((refine J.seq ?_))
   refine J.look 43 (by kernel_rfl) (by kernel_rfl) ?_;refine JLk.q rfl rfl (qb rfl) (Qt.move rfl) ?_;refine JLk.q rfl rfl (qb rfl) (Qt.move rfl) ?_
   (refine JLk.q rfl rfl (qb rfl) (Qt.lenM rfl) ?_)
   refine JLk.q rfl rfl (qb rfl) (Qt.cmp rfl rfl (congrArg some t3)) ?_;refine JLk.q rfl rfl (qb rfl) (Qt.move rfl) ?_
   (refine JLk.q rfl rfl (qb rfl) (Qt.move rfl) ?_)
   (refine JLk.q rfl rfl (qb rfl) (Qt.move rfl) ?_)
   (refine JLk.q rfl rfl (qb rfl) (Qt.indexR rfl rfl zn PN) ?_)
   (refine JLk.q rfl rfl (qb rfl) (Qt.fieldAddr rfl rfl) ?_)
   (refine JLk.q rfl rfl (qb rfl) (Qt.load1 rfl .el rfl) ?_)
   (refine JLk.q rfl rfl (qb rfl) (Qt.move rfl) ?_)
   (refine JLk.q rfl rfl (qb rfl) (Qt.indexR rfl rfl z0 P0) ?_)
   (refine JLk.q rfl rfl (qb rfl) (Qt.fieldAddr rfl rfl) ?_)
   (refine JLk.q rfl rfl (qb rfl) (Qt.load1 rfl .el rfl) ?_)
   (refine JLk.q rfl rfl (qb rfl) (Qt.cmp rfl rfl (congrArg some t4)) ?_)
   refine JLk.q rfl rfl (qb rfl) (Qt.pick rfl rfl) ?_;refine JLk.nil ?_
   repeat (refine gn ?_)
   exact ih3.weak ⟨rfl,rfl,rfl,rfl,rfl,trivial⟩
  obtain rfl:n=(Jg.hd x r).length:=by omega
  clear ih2;apply J.cut (Q:=True) (f':=[(11,.c (nI (Jg.hd x r).length)),(10,.c (.r 3 ((x :: r).map ePt))),(9,.c (.v (pt b))),(6,.c (.r 6 ((l.map (Jg.seen p l)).map eOp))),(1,.c (.r 13 (l.map eM)))]) (L':=[moT b N st S])
  case main =>
   intro TAIL;rcases Jg.hd_end (x:=x) (r:=r) with ⟨_,he⟩ | ⟨z,hz1,hz2⟩
   ·have t3:decide (((Jg.hd x r).length:Int) < ((x :: r).length:Int))=false:=decide_eq_false (by omega)
    repeat ((refine J.seq ?_))
    refine J.look 43 (by kernel_rfl) (by kernel_rfl) ?_;refine JLk.q rfl rfl (qb rfl) (Qt.move rfl) ?_;refine JLk.q rfl rfl (qb rfl) (Qt.move rfl) ?_
    (refine JLk.q rfl rfl (qb rfl) (Qt.lenM rfl) ?_)
    refine JLk.q rfl rfl (qb rfl) (Qt.cmp rfl rfl (congrArg some t3)) ?_;refine JLk.q rfl rfl (qb rfl) (Qt.move rfl) ?_
    (refine JLk.no rfl rfl (qb rfl) ?_)
    (refine JLk.no rfl rfl (qb rfl) ?_)
    refine JLk.no rfl rfl (qb rfl) ?_
    (refine JLk.no rfl rfl (qb rfl) ?_)
    (refine JLk.no rfl rfl (qb rfl) ?_)
    (refine JLk.no rfl rfl (qb rfl) ?_)
    refine JLk.no rfl rfl (qb rfl) ?_
    (refine JLk.no rfl rfl (qb rfl) ?_)
    (refine JLk.no rfl rfl (qb rfl) ?_)
    (refine JLk.no rfl rfl (qb rfl) ?_)
    refine JLk.q rfl rfl (qb rfl) (Qt.pick rfl rfl) ?_;refine JLk.nil ?_
    repeat (refine gn ?_)
    exact (TAIL trivial).weak ⟨rfl,rfl,rfl,rfl,rfl,trivial⟩
   ·have t3:decide (((Jg.hd x r).length:Int) < ((x :: r).length:Int))=true:=decide_eq_true (by have:=(List.getElem?_eq_some_iff.1 hz1).1;omega);have t4:(z.step == x.step)=false:=by simpa using hz2
    have PN:=s_at (enc:=ePt) hz1
    repeat ((refine J.seq ?_))
    refine J.look 43 (by kernel_rfl) (by kernel_rfl) ?_;refine JLk.q rfl rfl (qb rfl) (Qt.move rfl) ?_;refine JLk.q rfl rfl (qb rfl) (Qt.move rfl) ?_
    (refine JLk.q rfl rfl (qb rfl) (Qt.lenM rfl) ?_)
    refine JLk.q rfl rfl (qb rfl) (Qt.cmp rfl rfl (congrArg some t3)) ?_;refine JLk.q rfl rfl (qb rfl) (Qt.move rfl) ?_
    (refine JLk.q rfl rfl (qb rfl) (Qt.move rfl) ?_)
    (refine JLk.q rfl rfl (qb rfl) (Qt.move rfl) ?_)
    (refine JLk.q rfl rfl (qb rfl) (Qt.indexR rfl rfl zn PN) ?_)
    (refine JLk.q rfl rfl (qb rfl) (Qt.fieldAddr rfl rfl) ?_)
    (refine JLk.q rfl rfl (qb rfl) (Qt.load1 rfl .el rfl) ?_)
    (refine JLk.q rfl rfl (qb rfl) (Qt.move rfl) ?_)
    (refine JLk.q rfl rfl (qb rfl) (Qt.indexR rfl rfl z0 P0) ?_)
    (refine JLk.q rfl rfl (qb rfl) (Qt.fieldAddr rfl rfl) ?_)
    (refine JLk.q rfl rfl (qb rfl) (Qt.load1 rfl .el rfl) ?_)
    (refine JLk.q rfl rfl (qb rfl) (Qt.cmp rfl rfl (congrArg some t4)) ?_)
    refine JLk.q rfl rfl (qb rfl) (Qt.pick rfl rfl) ?_;refine JLk.nil ?_
    repeat (refine gn ?_)
    exact (TAIL trivial).weak ⟨rfl,rfl,rfl,rfl,rfl,trivial⟩
  intro _;have hx:=hpt.mem (List.mem_cons_self (a:=x) (l:=r));have ok1:∀ y∈Ta.points l,(0:Int)≤y.at_∧(l.map eM)[y.at_.toNat]?=some (eM (Jg.mkAt l y))∧((l.map (Jg.seen p l)).map eOp)[y.at_.toNat]?=some (eOp (Jg.opP p l y.at_.toNat))∧wf64L (Jg.mkAt l y).g∧(Jg.opP p l y.at_.toNat).cases.length≤1000:=fun y hy=>by
   have hk:=Jg.points_mem hy;obtain ⟨m1,m2⟩:=hk.mk;obtain ⟨k,m,k1,k2,_⟩:=hk;have hi:=hin _ m1;obtain ⟨ops,o,g1,g2,g3,g4,g5⟩:=Jg.inP_get hi;have gl:=(List.getElem?_eq_some_iff.1 g1).1;refine ⟨by omega,by rw [List.getElem?_map,m2];rfl,?_,wfG g3 (by omega),?_⟩
   ·rw [List.getElem?_map,List.getElem?_map,m2];rfl
   ·unfold Jg.opP;rw [Jg.seen_cases];exact hcs _ m1 hi
  obtain ⟨zx,LA,OA,gx,cx⟩:=ok1 x hx;have kx:=(Jg.points_mem hx)
  have kx2:x.kind=1∨x.kind=2:=by obtain ⟨_,_,_,_,h⟩:=kx;rcases h with h | h;exact .inl h.1;exact .inr h.1
  have ct:((((x :: r).map ePt).take (((x :: r).map ePt).length:Int).toNat).drop (((Jg.hd x r).length:Nat):Int).toNat)=(Jg.tl x r).map ePt:=by
   rw [Int.toNat_natCast,Int.toNat_natCast,List.take_length,← List.map_drop,Jg.tl_is]
  have hlen:(Jg.tl x r).length + (Jg.hd x r).length=(x :: r).length:=by rw [← Jg.hd_tl x r,List.length_append];omega
  obtain ⟨w,hw,hws⟩:=Jg.hd_at (x:=x) (r:=r) (n:=(Jg.hd x r).length - 1) (by omega);have PW:=s_at (enc:=ePt) hw;have w1:IntKind.i64.wrap (((Jg.hd x r).length:Int) - 1)=(((Jg.hd x r).length - 1:Nat):Int):=by
   have:(x :: r).length≤850:=by omega
   rw [w64 (by omega) (by omega)];omega
  have zm:(0:Int)≤(((Jg.hd x r).length - 1:Nat):Int):=by omega
  have step0:∀ {X:Prop},X→X:=fun h=>h
  generalize hGl:Jg.hd x r=G at w1 zm PW hw hlen ct n1 zn ⊢
  repeat (fail)
  refine J.joinS (ι:=Nat × Nat) (fun q=>[(13,.c (.v (.pointer (some ⟨q.2,0,none⟩)))),(12,.c (.v (.pointer (some ⟨q.1,0,none⟩)))),(11,.c (nI G.length)),(10,.c (.r 3 ((x :: r).map ePt))),(9,.c (.v (pt b))),(6,.c (.r 6 ((l.map (Jg.seen p l)).map eOp))),(1,.c (.r 13 (l.map eM)))])
   (fun q=>[.box q.2 58 (ePt w),.box q.1 58 (ePt x),moT b N st S]) (fun q=>?_) (fun K0 TAIL=>?_)
  rotate_left
  ·skip
   refine J.draw (by kernel_rfl) rfl ?_;refine JW.base none ?_;refine tk 0 ?_;refine JD.take 1 rfl rfl (by kernel_rfl) rfl (qb rfl) (Qt.indexR rfl rfl z0 P0) rfl ?_;refine tk 2 ?_;refine tk 3 ?_;refine tk 4 ?_;refine JD.take 5 rfl rfl (by kernel_rfl) rfl (qb rfl) (Qt.ari rfl rfl rfl w1) rfl ?_;refine JD.take 6 rfl rfl (by kernel_rfl) rfl (qb rfl) (Qt.indexR rfl rfl zm PW) rfl ?_;refine tk 7 ?_;refine JD.each2 (i:=8) (j:=9) (by kernel_rfl) ?_ ?_;refine JS.loud rfl rfl rfl (qb rfl) (Ld.alloc (qb rfl)) .none (fun _=>?_);refine jl 9 rfl rfl rfl rfl (Ld.alloc (qb rfl)) .none (fun _=>?_);refine JD.each1 (i:=10) (by kernel_rfl) ?_
   (refine JS.st rfl rfl rfl (Ld.storeW rfl rfl rfl (by exact rfl) (by exact rfl)) (by (exact .box (by repeat (first | exact .refl | refine .cons ?_)))) (fun _=>?_))
   refine JD.each1 (i:=11) (by kernel_rfl) ?_
   (refine JS.st rfl rfl rfl (Ld.storeW rfl rfl rfl (by exact rfl) (by exact rfl)) (by (exact .box (by repeat (first | exact .refl | refine .cons ?_)))) (fun _=>?_))
   refine dnQ ?_
   rotate_left
   refine JS.loud rfl rfl rfl (qb rfl) (Ld.alloc (qb rfl)) .none (fun _=>?_);refine jl 8 rfl rfl rfl rfl (Ld.alloc (qb rfl)) .none (fun _=>?_);refine JD.each1 (i:=10) (by kernel_rfl) ?_
   (refine JS.st rfl rfl rfl (Ld.storeW rfl rfl rfl (by exact rfl) (by exact rfl)) (by (exact .box (by repeat (first | exact .refl | refine .cons ?_)))) (fun _=>?_))
   refine JD.each1 (i:=11) (by kernel_rfl) ?_
   (refine JS.st rfl rfl rfl (Ld.storeW rfl rfl rfl (by exact rfl) (by exact rfl)) (by (exact .box (by repeat (first | exact .refl | refine .cons ?_)))) (fun _=>?_))
   refine dnQ ?_
   rotate_left
   all_goals
    first
     | (rename_i b12 b13 _ _;exact (TAIL (b12,b13)).weak ⟨rfl,rfl,rfl,rfl,rfl,rfl,rfl,trivial⟩)
     | (rename_i b13 b12 _ _;refine J.perm (List.Perm.swap _ _ _) ?_;exact (TAIL (b12,b13)).weak ⟨rfl,rfl,rfl,rfl,rfl,rfl,rfl,trivial⟩)
  obtain ⟨b12,b13⟩:=q;simp only;have hGd:G=x :: r.takeWhile (Jg.same x):=by rw [← hGl];rfl
  cases hTW:r.takeWhile (Jg.same x) with
  | nil =>
   rw [hTW] at hGd;subst hGd;rcases kx2 with kx1 | kx2
   ·have t6:(x.kind == 1)=true:=by simpa using kx1
    have MW:=m_wait b N st S (Jg.mkAt l x).g (Jg.opP p l x.at_.toNat) (by omega) gx cx
    cases hB:(Md.wait st (Jg.mkAt l x).g (Jg.opP p l x.at_.toNat)).2
    ·rw [hB] at MW;have hno:Jg.grpB l (Jg.opP p l) st (Jg.hd x r)=false:=by rw [hGl];simp only [Jg.grpB,if_pos kx1];exact hB
     have hst:=hpt.stop hno;rw [hK] at hst;have h1:=Jg.pt_pos hf hx;subst hst
     repeat (refine gn ?_)
     refine J.draw (by kernel_rfl) rfl ?_;refine JW.baseT [2] none ?_;refine tk 0 ?_;refine tk 1 ?_;refine tk 2 ?_;refine tk 3 ?_;refine JD.take 4 rfl rfl (by kernel_rfl) rfl (qb rfl) (Qt.indexR rfl rfl zx LA) rfl ?_;refine tk 5 ?_;refine tk 6 ?_;refine tk 7 ?_;refine tk 8 ?_;refine tk 9 ?_;refine JD.take 10 rfl rfl (by kernel_rfl) rfl (qb rfl) (Qt.indexR rfl rfl zx OA) rfl ?_;refine tk 11 ?_;refine jl 12 rfl rfl rfl rfl (Ld.callT MW (qb rfl) rfl (.cons .refl (.cons .refl (.cons .refl .nil)))) (.tres rfl) (fun _=>?_);refine jk 13 rfl rfl rfl rfl (Qt.assign rfl) ?_;refine dnQ ?_
     all_goals
      repeat (refine gn ?_)
      refine J.draw (by kernel_rfl) rfl ?_;refine JW.base none ?_;refine tk 0 ?_;refine tk 1 ?_;refine tk 2 ?_;refine tk 3 ?_;refine dnQ ?_
      all_goals
       repeat (fail)
       exact J.ret Try.func5 rfl (.cons (.tmp rfl) (.cons (.tmp rfl) .nil)) ⟨none,by simp;omega,fun y h=>by cases h⟩ (by exact .refl) [] .nil rfl rfl
    ·rw [hB] at MW;have hyes:Jg.grpB l (Jg.opP p l) st (Jg.hd x r)=true:=by rw [hGl];simp only [Jg.grpB,if_pos kx1];exact hB
     have hnx:=hpt.next hyes;have eS:Jg.grpS l (Jg.opP p l) st (Jg.hd x r)=(Md.wait st (Jg.mkAt l x).g (Jg.opP p l x.at_.toNat)).1:=by rw [hGl];simp only [Jg.grpS,if_pos kx1]
     rw [eS] at hnx
     repeat (refine gn ?_)
     refine J.draw (by kernel_rfl) rfl ?_;refine JW.baseT [2] none ?_;refine tk 0 ?_;refine tk 1 ?_;refine tk 2 ?_;refine tk 3 ?_;refine JD.take 4 rfl rfl (by kernel_rfl) rfl (qb rfl) (Qt.indexR rfl rfl zx LA) rfl ?_;refine tk 5 ?_;refine tk 6 ?_;refine tk 7 ?_;refine tk 8 ?_;refine tk 9 ?_;refine JD.take 10 rfl rfl (by kernel_rfl) rfl (qb rfl) (Qt.indexR rfl rfl zx OA) rfl ?_;refine tk 11 ?_;refine jl 12 rfl rfl rfl rfl (Ld.callT MW (qb rfl) rfl (.cons .refl (.cons .refl (.cons .refl .nil)))) (.tres rfl) (fun _=>?_);refine jk 13 rfl rfl rfl rfl (Qt.assign rfl) ?_;refine dnQ ?_
     all_goals
      rename_i S1
      repeat (first | (refine K.slice ?_;refine jq rfl rfl rfl ((Qt.sliceR rfl rfl rfl (by (omega)) (by (simp;omega)) (by (omega))).eq (congrArg (fun z=>D.c (A.r 3 z)) ct)) ?_) | refine gn ?_)
      refine J.dropN 0 ?_;refine J.dropN 0 ?_;exact (ih ⟨(Jg.tl x r,_,N + 1,S1),hnx,by simp only [List.length_cons,List.length_nil] at hlen hN ⊢;omega⟩ (by simp only [List.length_cons,List.length_nil] at hlen ⊢;omega)).weak ⟨rfl,rfl,rfl,rfl,trivial⟩
   ·have kx1:¬ x.kind=1:=by omega
    have t6:(x.kind == 1)=false:=by simpa using kx1
    have MA:=t_alone b N st S (Jg.mkAt l x) (Jg.opP p l x.at_.toNat) (by omega) gx
    cases hB:Jg.aloneB st (Jg.mkAt l x) (Jg.opP p l x.at_.toNat)
    ·rw [hB] at MA;have hno:Jg.grpB l (Jg.opP p l) st (Jg.hd x r)=false:=by rw [hGl];simp only [Jg.grpB,if_neg kx1];exact hB
     have hst:=hpt.stop hno;rw [hK] at hst;have h1:=Jg.pt_pos hf hx;subst hst
     repeat (refine gn ?_)
     refine J.draw (by kernel_rfl) rfl ?_;refine JW.baseT [2] none ?_;refine tk 0 ?_;refine tk 1 ?_;refine tk 2 ?_;refine tk 3 ?_;refine JD.take 4 rfl rfl (by kernel_rfl) rfl (qb rfl) (Qt.indexR rfl rfl zx LA) rfl ?_;refine tk 5 ?_;refine tk 6 ?_;refine tk 7 ?_;refine tk 8 ?_;refine JD.take 9 rfl rfl (by kernel_rfl) rfl (qb rfl) (Qt.indexR rfl rfl zx OA) rfl ?_;refine tk 10 ?_;refine jl 11 rfl rfl rfl rfl (Ld.callT MA (qb rfl) rfl (.cons .refl (.cons .refl (.cons .refl .nil)))) (.tres rfl) (fun _=>?_);refine jk 12 rfl rfl rfl rfl (Qt.assign rfl) ?_;refine dnQ ?_
     all_goals
      repeat (refine gn ?_)
      refine J.draw (by kernel_rfl) rfl ?_;refine JW.base none ?_;refine tk 0 ?_;refine tk 1 ?_;refine tk 2 ?_;refine tk 3 ?_;refine dnQ ?_
      all_goals
       repeat (fail)
       exact J.ret Try.func5 rfl (.cons (.tmp rfl) (.cons (.tmp rfl) .nil)) ⟨none,by simp;omega,fun y h=>by cases h⟩ (by exact .refl) [] .nil rfl rfl
    ·rw [hB] at MA;have hyes:Jg.grpB l (Jg.opP p l) st (Jg.hd x r)=true:=by rw [hGl];simp only [Jg.grpB,if_neg kx1];exact hB
     have hnx:=hpt.next hyes;have eS:Jg.grpS l (Jg.opP p l) st (Jg.hd x r)=Jg.aloneS st (Jg.mkAt l x) (Jg.opP p l x.at_.toNat):=by rw [hGl];simp only [Jg.grpS,if_neg kx1]
     rw [eS] at hnx
     repeat (refine gn ?_)
     refine J.draw (by kernel_rfl) rfl ?_;refine JW.baseT [2] none ?_;refine tk 0 ?_;refine tk 1 ?_;refine tk 2 ?_;refine tk 3 ?_;refine JD.take 4 rfl rfl (by kernel_rfl) rfl (qb rfl) (Qt.indexR rfl rfl zx LA) rfl ?_;refine tk 5 ?_;refine tk 6 ?_;refine tk 7 ?_;refine tk 8 ?_;refine JD.take 9 rfl rfl (by kernel_rfl) rfl (qb rfl) (Qt.indexR rfl rfl zx OA) rfl ?_;refine tk 10 ?_;refine jl 11 rfl rfl rfl rfl (Ld.callT MA (qb rfl) rfl (.cons .refl (.cons .refl (.cons .refl .nil)))) (.tres rfl) (fun _=>?_);refine jk 12 rfl rfl rfl rfl (Qt.assign rfl) ?_;refine dnQ ?_
     all_goals
      rename_i z;obtain ⟨⟨N1,st1,S1⟩,hN1,hT1⟩:=z;have hT2:=hT1 rfl;simp only at hN1 hT2
      repeat (first | (refine K.slice ?_;refine jq rfl rfl rfl ((Qt.sliceR rfl rfl rfl (by (omega)) (by (simp;omega)) (by (omega))).eq (congrArg (fun z=>D.c (A.r 3 z)) ct)) ?_) | refine gn ?_)
      refine J.dropN 0 ?_;refine J.dropN 0 ?_;exact (ih ⟨(Jg.tl x r,st1,N1,S1),by rw [hT2];exact hnx,by simp only [List.length_cons,List.length_nil] at hlen hN ⊢;omega⟩ (by simp only [List.length_cons,List.length_nil] at hlen ⊢;omega)).weak ⟨rfl,rfl,rfl,rfl,trivial⟩
  | cons y tt =>
   rw [hTW] at hGd
   cases tt with
   | cons y2 t2 =>
    subst hGd;have f1:((((x :: y :: y2 :: t2).length:Nat):Int) == 1)=false:=by simp;omega
    have f2:((((x :: y :: y2 :: t2).length:Nat):Int) == 2)=false:=by simp;omega
    have hno:Jg.grpB l (Jg.opP p l) st (Jg.hd x r)=false:=by rw [hGl];rfl
    have hst:=hpt.stop hno;rw [hK] at hst;have h1:=Jg.pt_pos hf hx;subst hst
    repeat (refine gn ?_)
    refine J.draw (by kernel_rfl) rfl ?_;refine JW.base none ?_;refine tk 0 ?_;refine tk 1 ?_;refine tk 2 ?_;refine tk 3 ?_;refine dnQ ?_
    all_goals
     repeat (fail)
     exact J.ret Try.func5 rfl (.cons (.tmp rfl) (.cons (.tmp rfl) .nil)) ⟨none,by simp;omega,fun y h=>by cases h⟩ (by exact .refl) [] .nil rfl rfl
   | nil =>
    subst hGd;have hy:y∈Ta.points l:=hpt.mem (by rw [← Jg.hd_tl x r,hGl];simp);obtain ⟨zy,LB,OB,gy,cy⟩:=ok1 y hy;obtain rfl:y=w:=by
     rw [← Jg.hd_tl x r,hGl] at hw;simpa using hw
    cases t7:(x.kind == 2)
    ·have n7:¬ x.kind=2:=by simpa using t7
     have hno:Jg.grpB l (Jg.opP p l) st (Jg.hd x r)=false:=by rw [hGl];simp only [Jg.grpB,decide_eq_false n7,Bool.false_and]
     have hst:=hpt.stop hno;rw [hK] at hst;have h1:=Jg.pt_pos hf hx;subst hst
     repeat (refine gn ?_)
     refine J.draw (by kernel_rfl) rfl ?_;refine JW.base none ?_;refine tk 0 ?_;refine tk 1 ?_;refine tk 2 ?_;refine tk 3 ?_;refine dnQ ?_
     all_goals
      repeat (fail)
      exact J.ret Try.func5 rfl (.cons (.tmp rfl) (.cons (.tmp rfl) .nil)) ⟨none,by simp;omega,fun y h=>by cases h⟩ (by exact .refl) [] .nil rfl rfl
    have n7:x.kind=2:=by simpa using t7
    cases t8:(y.kind == 2)
    ·have n8:¬ y.kind=2:=by simpa using t8
     have hno:Jg.grpB l (Jg.opP p l) st (Jg.hd x r)=false:=by rw [hGl];simp only [Jg.grpB,decide_eq_false n8,Bool.and_false,Bool.false_and]
     have hst:=hpt.stop hno;rw [hK] at hst;have h1:=Jg.pt_pos hf hx;subst hst
     repeat (refine gn ?_)
     refine J.draw (by kernel_rfl) rfl ?_;refine JW.base none ?_;refine tk 0 ?_;refine tk 1 ?_;refine tk 2 ?_;refine tk 3 ?_;refine dnQ ?_
     all_goals
      repeat (fail)
      exact J.ret Try.func5 rfl (.cons (.tmp rfl) (.cons (.tmp rfl) .nil)) ⟨none,by simp;omega,fun y h=>by cases h⟩ (by exact .refl) [] .nil rfl rfl
    have n8:y.kind=2:=by simpa using t8
    have hr1:1≤r.length:=by
     have h:=hlen;simp only [List.length_cons,List.length_nil] at h;omega
    have h8:st.chans.length≤8:=by obtain ⟨_,_,k,hz⟩:=hpt;exact hz.1
    have MT:=t_two b N st S (Jg.mkAt l x) (Jg.opP p l x.at_.toNat) (Jg.mkAt l y) (Jg.opP p l y.at_.toNat) (by omega) gx gy h8
    cases hB:Jg.twoB st (Jg.mkAt l x) (Jg.opP p l x.at_.toNat) (Jg.mkAt l y) (Jg.opP p l y.at_.toNat)
    ·rw [hB] at MT;have hno:Jg.grpB l (Jg.opP p l) st (Jg.hd x r)=false:=by rw [hGl];simp only [Jg.grpB,decide_eq_true n7,decide_eq_true n8,Bool.true_and];exact hB
     have hst:=hpt.stop hno;rw [hK] at hst;have h1:=Jg.pt_pos hf hx;subst hst
     repeat (refine gn ?_)
     refine J.draw (by kernel_rfl) rfl ?_;refine JW.baseT [2] none ?_;refine tk 0 ?_;refine tk 1 ?_;refine tk 2 ?_;refine tk 3 ?_;refine JD.take 4 rfl rfl (by kernel_rfl) rfl (qb rfl) (Qt.indexR rfl rfl zx LA) rfl ?_;refine tk 5 ?_;refine tk 6 ?_;refine tk 7 ?_;refine tk 8 ?_;refine JD.take 9 rfl rfl (by kernel_rfl) rfl (qb rfl) (Qt.indexR rfl rfl zx OA) rfl ?_;refine tk 10 ?_;refine tk 11 ?_;refine tk 12 ?_;refine tk 13 ?_;refine JD.take 14 rfl rfl (by kernel_rfl) rfl (qb rfl) (Qt.indexR rfl rfl zy LB) rfl ?_;refine tk 15 ?_;refine tk 16 ?_;refine tk 17 ?_;refine tk 18 ?_;refine JD.take 19 rfl rfl (by kernel_rfl) rfl (qb rfl) (Qt.indexR rfl rfl zy OB) rfl ?_;refine tk 20 ?_;refine jl 21 rfl rfl rfl rfl (Ld.callT MT (qb rfl) rfl (.cons .refl (.cons .refl (.cons .refl (.cons .refl (.cons .refl .nil)))))) (.tres rfl) (fun _=>?_);refine jk 22 rfl rfl rfl rfl (Qt.assign rfl) ?_;refine dnQ ?_
     all_goals
      repeat (refine gn ?_)
      refine J.draw (by kernel_rfl) rfl ?_;refine JW.base none ?_;refine tk 0 ?_;refine tk 1 ?_;refine tk 2 ?_;refine tk 3 ?_;refine dnQ ?_
      all_goals
       repeat (fail)
       exact J.ret Try.func5 rfl (.cons (.tmp rfl) (.cons (.tmp rfl) .nil)) ⟨none,by simp;omega,fun y h=>by cases h⟩ (by exact .refl) [] .nil rfl rfl
    ·rw [hB] at MT;have hyes:Jg.grpB l (Jg.opP p l) st (Jg.hd x r)=true:=by rw [hGl];simp only [Jg.grpB,decide_eq_true n7,decide_eq_true n8,Bool.true_and];exact hB
     have hnx:=hpt.next hyes;have eS:Jg.grpS l (Jg.opP p l) st (Jg.hd x r)=Jg.twoS st (Jg.mkAt l x) (Jg.opP p l x.at_.toNat) (Jg.mkAt l y) (Jg.opP p l y.at_.toNat):=by rw [hGl];simp only [Jg.grpS]
     rw [eS] at hnx
     repeat (refine gn ?_)
     refine J.draw (by kernel_rfl) rfl ?_;refine JW.baseT [2] none ?_;refine tk 0 ?_;refine tk 1 ?_;refine tk 2 ?_;refine tk 3 ?_;refine JD.take 4 rfl rfl (by kernel_rfl) rfl (qb rfl) (Qt.indexR rfl rfl zx LA) rfl ?_;refine tk 5 ?_;refine tk 6 ?_;refine tk 7 ?_;refine tk 8 ?_;refine JD.take 9 rfl rfl (by kernel_rfl) rfl (qb rfl) (Qt.indexR rfl rfl zx OA) rfl ?_;refine tk 10 ?_;refine tk 11 ?_;refine tk 12 ?_;refine tk 13 ?_;refine JD.take 14 rfl rfl (by kernel_rfl) rfl (qb rfl) (Qt.indexR rfl rfl zy LB) rfl ?_;refine tk 15 ?_;refine tk 16 ?_;refine tk 17 ?_;refine tk 18 ?_;refine JD.take 19 rfl rfl (by kernel_rfl) rfl (qb rfl) (Qt.indexR rfl rfl zy OB) rfl ?_;refine tk 20 ?_;refine jl 21 rfl rfl rfl rfl (Ld.callT MT (qb rfl) rfl (.cons .refl (.cons .refl (.cons .refl (.cons .refl (.cons .refl .nil)))))) (.tres rfl) (fun _=>?_);refine jk 22 rfl rfl rfl rfl (Qt.assign rfl) ?_;refine dnQ ?_
     all_goals
      rename_i z;obtain ⟨⟨N1,st1,S1⟩,hN1,hT1⟩:=z;have hT2:=hT1 rfl;simp only at hN1 hT2
      repeat (first | (refine K.slice ?_;refine jq rfl rfl rfl ((Qt.sliceR rfl rfl rfl (by (omega)) (by (simp;omega)) (by (omega))).eq (congrArg (fun z=>D.c (A.r 3 z)) ct)) ?_) | refine gn ?_)
      refine J.dropN 0 ?_;refine J.dropN 0 ?_;exact (ih ⟨(Jg.tl x r,st1,N1,S1),by rw [hT2];exact hnx,by simp only [List.length_cons,List.length_nil] at hlen hN ⊢;omega⟩ (by simp only [List.length_cons,List.length_nil] at hlen ⊢;omega)).weak ⟨rfl,rfl,rfl,rfl,trivial⟩
theorem t_Check (p:List (List Pn.Op)) (l:List Sx.Mk) (hs:l.length≤400) (hp:p.length≤400) (hcs:∀ m∈l,Jg.inP p m=true→(Jg.opAt p m).cases.length≤1000) :
  Pure Try.prog 9 [.c (opsA p),.c (.r 13 (l.map eM))] (.c (bI ((Jg.rp p l).2 == 0))):=by
 have CR:=t_Replay p l hs hp hcs;refine Con.intro Try.func9 rfl rfl rfl (fun ok e=>?_);generalize (Jg.rp p l).1=T at CR;generalize (Jg.rp p l).2=sp at CR ⊢
 repeat (first | (refine K.call ?_;refine JO.call CR rfl (qb rfl) rfl (.cons .refl (.cons .refl .nil)) (Ll:=[]) (Lr:=[]) rfl ?_;rintro ⟨_ | ⟨b,N,S⟩,hx⟩) | refine gn ?_)
 all_goals
  repeat (refine gn ?_)
  exact rtQ Try.func9
end Fl
end Go.Proofs.Ytdibmkjoaghafaa
