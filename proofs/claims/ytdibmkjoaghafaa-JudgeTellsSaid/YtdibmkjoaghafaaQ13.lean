/-
  What the laws need, part Q13.
  Conditions: none.
-/
import Derived.Test.YtdibmkjoaghafaaQ12
set_option linter.unusedVariables false
set_option linter.unusedSimpArgs false
set_option linter.unnecessarySimpa false
set_option maxHeartbeats 2000000
namespace Go.Proofs.Ytdibmkjoaghafaa
namespace Jg
theorem ins_perm {α:Type} {key:α→Int} (x:α):∀ l:List α,(Ss.ins key l x).Perm (x :: l)
 | []=>.refl _
 | y :: ys=>by
  unfold Ss.ins
  split
  ·exact .refl _
  ·exact ((ins_perm x ys).cons y).trans (.swap x y ys)
theorem srt_perm {α:Type} {key:α→Int} (l:List α):(Ss.srt key l).Perm l:=by
 refine Ss.rev_rec (p:=fun l=>(Ss.srt key l).Perm l) (.refl _) (fun l x ih=>?_) l;rw [Ss.srt_snoc];exact (ins_perm x _).trans ((ih.cons x).trans (by rw [← List.singleton_append];exact List.perm_append_comm))
def PtOk (l:List Sx.Mk) (y:Ta.Pt):Prop:=∃ (k:Nat) (m:Sx.Mk),l[k]?=some m∧y.at_=(k:Int)∧((y.kind=1∧y.step=m.arrive∧m.arrive≠0)∨(y.kind=2∧y.step=m.point∧m.point≠0))
theorem ptOf_mem {k:Nat} {m:Sx.Mk} {y:Ta.Pt} (h:y∈Ta.ptOf k m):y.at_=(k:Int)∧((y.kind=1∧y.step=m.arrive∧m.arrive≠0)∨(y.kind=2∧y.step=m.point∧m.point≠0)):=by
 unfold Ta.ptOf at h;rcases List.mem_append.1 h with h | h
 ·split at h
  ·rename_i c;rw [List.mem_singleton.1 h];exact ⟨rfl,.inl ⟨rfl,rfl,by simpa using c⟩⟩
  ·simp at h
 ·split at h
  ·rename_i c;rw [List.mem_singleton.1 h];exact ⟨rfl,.inr ⟨rfl,rfl,by simpa using c⟩⟩
  ·simp at h
theorem ptsTo_mem {l:List Sx.Mk} {y:Ta.Pt}:∀ k,y∈Ta.ptsTo l k→PtOk l y
 | 0,h=>by simp [Ta.ptsTo] at h
 | k + 1,h=>by
  rw [Ta.ptsTo] at h;rcases List.mem_append.1 h with h | h
  ·exact ptsTo_mem k h
  ·unfold Ta.ptAt at h
   split at h
   ·rename_i m e;obtain ⟨h1,h2⟩:=ptOf_mem h;exact ⟨k,m,e,h1,h2⟩
   ·simp at h
theorem points_mem {l:List Sx.Mk} {y:Ta.Pt} (h:y∈Ta.points l):PtOk l y:=ptsTo_mem _ ((srt_perm _).mem_iff.1 h)
theorem PtOk.mk {l:List Sx.Mk} {y:Ta.Pt} (h:PtOk l y):mkAt l y∈l∧l[y.at_.toNat]?=some (mkAt l y):=by
 obtain ⟨k,m,h1,h2,_⟩:=h;have:mkAt l y=m:=by unfold mkAt;rw [h2,Int.toNat_natCast,List.getD_eq_getElem?_getD,h1];rfl
 rw [this];exact ⟨List.mem_of_getElem? h1,by rw [h2,Int.toNat_natCast];exact h1⟩
def madePt (p:List (List Pn.Op)) (l:List Sx.Mk) (c:Int) (y:Ta.Pt):Bool:=mkPt p l y && decide (y.step < c)
theorem count_at {p:List (List Pn.Op)} {l:List Sx.Mk} {c:Int} {k:Nat} {m:Sx.Mk} (h:l[k]?=some m):(Ta.ptOf k m).countP (madePt p l c)=if madeB p c m=true then 1 else 0:=by
 have e1:mkAt l (Ta.pt1 k m)=m:=by unfold mkAt Ta.pt1;rw [Int.toNat_natCast,List.getD_eq_getElem?_getD,h];rfl
 have e2:mkAt l (Ta.pt2 k m)=m:=by unfold mkAt Ta.pt2;rw [Int.toNat_natCast,List.getD_eq_getElem?_getD,h];rfl
 have f1:madePt p l c (Ta.pt1 k m)=false:=by unfold madePt mkPt;simp [Ta.pt1]
 have f2:madePt p l c (Ta.pt2 k m)=(isMake p m && decide (m.point < c)):=by
  unfold madePt mkPt;rw [e2];show (decide ((2:Int)=2) && isMake p m && decide (m.point < c))=_;simp
 unfold Ta.ptOf;rw [List.countP_append];have g1:(if (m.arrive != 0)=true then [Ta.pt1 k m] else []).countP (madePt p l c)=0:=by
  split
  ·rw [List.countP_singleton,f1];rfl
  ·rfl
 rw [g1,Nat.zero_add];unfold madeB
 split
 ·rename_i hp;rw [List.countP_singleton,f2,hp,Bool.and_true]
 ·rename_i hp;have:(m.point != 0)=false:=by simpa using hp
  simp [this]
theorem count_to {p:List (List Pn.Op)} {l:List Sx.Mk} {c:Int}:∀ k,k≤l.length→(Ta.ptsTo l k).countP (madePt p l c)=(l.take k).countP (madeB p c)
 | 0,_=>by simp [Ta.ptsTo]
 | k + 1,h=>by
  have hm:l[k]?=some l[k]:=List.getElem?_eq_getElem (by omega);rw [Ta.ptsTo_snoc hm,List.countP_append,count_to k (by omega),count_at hm,List.take_add_one,hm,List.countP_append];simp [List.countP_singleton]
theorem count_points (p:List (List Pn.Op)) (l:List Sx.Mk) (c:Int):(Ta.points l).countP (madePt p l c)=l.countP (madeB p c):=by
 unfold Ta.points;rw [(srt_perm _).countP_eq,count_to _ (Nat.le_refl _),List.take_length]
theorem points_srt (l:List Sx.Mk):(Ta.points l).Pairwise fun x y=>x.step≤y.step:=Ss.srt_srt _
theorem tw_mem {α:Type} {q:α→Bool}:∀ {r:List α} {y:α},y∈r.takeWhile q→q y=true
 | [],y,h=>by simp at h
 | z :: r,y,h=>by
  rw [List.takeWhile_cons] at h
  split at h
  ·rename_i hz;rcases List.mem_cons.1 h with rfl | h
   ·exact hz
   ·exact tw_mem h
  ·simp at h
theorem hd_same {x:Ta.Pt} {r:List Ta.Pt}:∀ y∈hd x r,y.step=x.step:=fun y hy=>by
 unfold hd at hy;rcases List.mem_cons.1 hy with rfl | hy
 ·rfl
 ·have:=tw_mem hy;unfold same at this;simpa using this
theorem tl_more {x:Ta.Pt} {r:List Ta.Pt} (h:(x :: r).Pairwise fun x y=>x.step≤y.step):∀ y∈tl x r,x.step < y.step:=by
 have hs:∀ r:List Ta.Pt,(∀ y∈r,x.step≤y.step)→r.Pairwise (fun x y=>x.step≤y.step)→∀ y∈r.dropWhile (same x),x.step < y.step:=by
  intro r
  induction r with
  | nil=>intro _ _ y hy;simp at hy
  | cons z r ih =>
   intro h1 h2 y hy;rw [List.dropWhile_cons] at hy
   split at hy
   ·exact ih (fun y hy=>h1 y (List.mem_cons_of_mem _ hy)) (List.pairwise_cons.1 h2).2 y hy
   ·rename_i hz;have hz':z.step≠x.step:=by unfold same at hz;simpa using hz
    have h3:=h1 z List.mem_cons_self;rcases List.mem_cons.1 hy with rfl | hy
    ·omega
    ·have:=(List.pairwise_cons.1 h2).1 y hy;omega
 obtain ⟨h1,h2⟩:=List.pairwise_cons.1 h;exact hs r h1 h2
theorem fits_op {p:List (List Pn.Op)} {l:List Sx.Mk} (h:fits p l=true) {m:Sx.Mk} (hm:m∈l):Pn.rightOp (opAt p m)=true∧steps m=true∧inP p m=true:=by
 unfold fits at h;simp only [decide_eq_true_eq] at h;obtain ⟨h1,h2,h3,h4⟩:=h;obtain ⟨i1,i2⟩:=h3 m hm;refine ⟨?_,i2,i1⟩;unfold inP at i1;simp only [decide_eq_true_eq] at i1;unfold Pn.right at h1;simp only [decide_eq_true_eq] at h1;have hg:m.g.toNat < p.length:=by omega
 have hl:=h1.2.2 p[m.g.toNat] (List.getElem_mem hg);unfold Pn.rightOps at hl;simp only [decide_eq_true_eq] at hl;have e:p.getD m.g.toNat []=p[m.g.toNat]:=by rw [List.getD_eq_getElem?_getD,List.getElem?_eq_getElem hg];rfl
 rw [e] at i1;have ho:m.op.toNat < p[m.g.toNat].length:=by omega
 unfold opAt;rw [e,List.getD_eq_getElem?_getD,List.getElem?_eq_getElem ho];exact hl.2 _ (List.getElem_mem ho)
structure Inv (p:List (List Pn.Op)) (l:List Sx.Mk) (D:List Ta.Pt) (st:Md.St) (md:List (Int × Int)) (R:List Ta.Pt):Prop where
 all:Ta.points l=D ++ R
 low:∀ y∈D,∀ z∈R,y.step < z.step
 len:st.chans.length=min (D.countP (mkPt p l)) 8
 mds:∀ z∈R.head?,∀ c:Int,c≤z.step→look md c=(madeN p l c:Int)
theorem Inv.sorted {p:List (List Pn.Op)} {l:List Sx.Mk} {D R:List Ta.Pt} {st:Md.St} {md:List (Int × Int)} (h:Inv p l D st md R):R.Pairwise fun x y=>x.step≤y.step:=by
 have:=points_srt l;rw [h.all] at this;exact (List.pairwise_append.1 this).2.1
theorem Inv.made {p:List (List Pn.Op)} {l:List Sx.Mk} {D R:List Ta.Pt} {c:Int} (ha:Ta.points l=D ++ R) (hD:∀ y∈D,y.step < c) (hR:∀ y∈R,c≤y.step):madeN p l c=min (D.countP (mkPt p l)) 8:=by
 unfold madeN;rw [← count_points,ha,List.countP_append];have h1:D.countP (madePt p l c)=D.countP (mkPt p l):=List.countP_congr fun y hy=>by
  unfold madePt;simp [hD y hy]
 have h2:R.countP (madePt p l c)=0:=List.countP_eq_zero.2 fun y hy=>by
  unfold madePt;simp;intro _;exact hR y hy
 rw [h1,h2];rfl
theorem Inv.op {p:List (List Pn.Op)} {l:List Sx.Mk} {D:List Ta.Pt} {st:Md.St} {md:List (Int × Int)} {x:Ta.Pt} {r:List Ta.Pt} (h:Inv p l D st md (x :: r)) (hf:fits p l=true):∀ y∈hd x r,opR p l md y.at_.toNat=opP p l y.at_.toNat:=fun y hy=>by
 have hyr:y∈x :: r:=by rw [← hd_tl x r];exact List.mem_append_left _ hy
 have hp:=points_mem (by rw [h.all];exact List.mem_append_right _ hyr:y∈Ta.points l);obtain ⟨m1,m2⟩:=hp.mk;obtain ⟨o1,o2,_⟩:=fits_op hf m1;have e:l.getD y.at_.toNat mk0=mkAt l y:=rfl;unfold opR opP seen;rw [e,cutD_eq o1]
 congr 1
 refine h.mds x (by simp) _ ?_;have hs:=hd_same y hy;obtain ⟨k,m,k1,k2,k3⟩:=hp;have em:mkAt l y=m:=by unfold mkAt;rw [k2,Int.toNat_natCast,List.getD_eq_getElem?_getD,k1];rfl
 rw [em] at o2 ⊢;unfold steps at o2;simp only [decide_eq_true_eq] at o2;rcases k3 with ⟨_,k4,k5⟩ | ⟨_,k4,k5⟩ <;> omega
theorem Inv.next {p:List (List Pn.Op)} {l:List Sx.Mk} {D:List Ta.Pt} {st:Md.St} {md:List (Int × Int)} {x:Ta.Pt} {r:List Ta.Pt} (h:Inv p l D st md (x :: r)) (hg:grpB l (opP p l) st (hd x r)=true) :
  Inv p l (D ++ hd x r) (grpS l (opP p l) st (hd x r)) (md ++ [(x.step,((grpS l (opP p l) st (hd x r)).chans.length:Int))]) (tl x r):=by
 have hmem:∀ y∈hd x r,y∈Ta.points l:=fun y hy=>by
  rw [h.all];exact List.mem_append_right _ (by rw [← hd_tl x r];exact List.mem_append_left _ hy)
 have h8:st.chans.length≤8:=by rw [h.len];omega
 have hl:=grp_len (p:=p) h8 (fun k=>by unfold opP seen;exact cutO_kind _ _) (fun y hy=>by
  obtain ⟨_,_,_,_,k3⟩:=points_mem (hmem y hy);rcases k3 with ⟨k3,_⟩ | ⟨k3,_⟩
  ·exact .inl k3
  ·exact .inr k3) hg
 have hall:Ta.points l=(D ++ hd x r) ++ tl x r:=by rw [List.append_assoc,hd_tl];exact h.all
 have hlen:(grpS l (opP p l) st (hd x r)).chans.length=min ((D ++ hd x r).countP (mkPt p l)) 8:=by
  rw [hl,h.len,List.countP_append];omega
 have hmore:=tl_more h.sorted;refine ⟨hall,fun y hy z hz=>?_,hlen,fun z hz c hc=>?_⟩
 ·rcases List.mem_append.1 hy with hy | hy
  ·exact h.low y hy z (by rw [← hd_tl x r];exact List.mem_append_right _ hz)
  ·rw [hd_same y hy];exact hmore z hz
 ·rw [look_snoc]
  split
  ·rename_i hx;rw [hlen];rw [Inv.made (p:=p) hall (fun y hy=>?_) (fun y hy=>?_)]
   ·rcases List.mem_append.1 hy with hy | hy
    ·have:=h.low y hy x (by simp);omega
    ·rw [hd_same y hy];exact hx
   ·have hs:(tl x r).Pairwise fun x y=>x.step≤y.step:=by
     have:=h.sorted;rw [← hd_tl x r] at this;exact (List.pairwise_append.1 this).2.1
    cases ht:tl x r with
    | nil=>rw [ht] at hy;simp at hy
    | cons z' t =>
     rw [ht] at hy hz hs;simp at hz;subst hz;rcases List.mem_cons.1 hy with rfl | hy
     ·exact hc
     ·have:=(List.pairwise_cons.1 hs).1 y hy;omega
  ·rename_i hx;exact h.mds x (by simp) c (by omega)
theorem Inv.start (p:List (List Pn.Op)) (l:List Sx.Mk):Inv p l [] ⟨[],fun _=>none⟩ [] (Ta.points l):=by
 refine ⟨rfl,fun y hy=>by simp at hy,rfl,fun z hz c hc=>?_⟩;have:madeN p l c=min (([]:List Ta.Pt).countP (mkPt p l)) 8:=Inv.made (D:=[]) (R:=Ta.points l) rfl (fun y hy=>by simp at hy) fun y hy=>by
  have hs:=points_srt l
  cases ht:Ta.points l with
  | nil=>rw [ht] at hy;simp at hy
  | cons z' t =>
   rw [ht] at hy hz hs;simp at hz;subst hz;rcases List.mem_cons.1 hy with rfl | hy
   ·exact hc
   ·have:=(List.pairwise_cons.1 hs).1 y hy;omega
 rw [this];rfl
theorem pt_pos {p:List (List Pn.Op)} {l:List Sx.Mk} (hf:fits p l=true) {y:Ta.Pt} (h:y∈Ta.points l):1≤y.step:=by
 have hp:=points_mem h;obtain ⟨m1,_⟩:=hp.mk;obtain ⟨_,o2,_⟩:=fits_op hf m1;obtain ⟨k,m,k1,k2,k3⟩:=hp;have em:mkAt l y=m:=by unfold mkAt;rw [k2,Int.toNat_natCast,List.getD_eq_getElem?_getD,k1];rfl
 rw [em] at o2;unfold steps at o2;simp only [decide_eq_true_eq] at o2;rcases k3 with ⟨_,k4,k5⟩ | ⟨_,k4,k5⟩ <;> omega
end Jg
open Go.RowKit
namespace Jg
theorem steps_is {m:Sx.Mk} {b:Bool} (h:steps m=b):b=true↔(1≤m.call∧(m.arrive=0∨m.call≤m.arrive)∧(m.point=0∨m.call≤m.point∧m.arrive≤m.point) ∧
 (m.re=0∨m.call≤m.re∧m.arrive≤m.re∧m.point≤m.re)∧(m.res.code=6→m.point=0∧m.arrive=0)∧(m.res.code≠6→m.re=0∨m.point≠0)):=by
 rw [← h];unfold steps;simp only [decide_eq_true_eq]
theorem bad {b:Bool} {X:Prop} (h:b=true↔X) (hn:¬ X):b=false:=by
 cases b with
 | false=>rfl
 | true=>exact absurd (h.1 rfl) hn
theorem or3 (a b:Bool):a=false∨(a=true∧b=true)∨(a=true∧b=false):=by cases a <;> cases b <;> simp
theorem or4' (a b c:Bool):a=true∨(a=false∧b=true)∨(a=false∧b=false∧c=true)∨(a=false∧b=false∧c=false):=by cases a <;> cases b <;> cases c <;> simp
theorem or4 (a b c:Bool):a=false∨(a=true∧b=true)∨(a=true∧b=false∧c=true)∨(a=true∧b=false∧c=false):=by cases a <;> cases b <;> cases c <;> simp
end Jg
namespace Fl
set_option maxRecDepth 100000
set_option maxHeartbeats 4000000
theorem J.cut {P:Program} {c:Cx} {k k':List Item} {f f':Fm} {L L':List Res} {Q:Prop} (rest:Q→J P c k' f' L') (main:(Q→J P c k' f' L')→J P c k f L):J P c k f L:=main rest
theorem t_steps (m:Sx.Mk):Pure Try.prog 25 [.agg (eM m)] (.c (bI (Jg.steps m))):=by
 obtain ⟨b,hb⟩:∃ b,Jg.steps m=b:=⟨_,rfl⟩
 rw [hb];have hs:=Jg.steps_is hb;clear hb;refine Con.intro Try.func25 rfl rfl rfl (fun ok e=>?_)
 repeat (first | refine gmQ ?_ | intro _)
 rename_i b1;refine J.cond rfl (fun n1=>?_) (fun n1=>?_)
 ·obtain rfl:b=false:=Jg.bad hs (by intro q;simp at n1;omega)
  repeat (refine gn ?_)
  exact rtQ Try.func25
 have o1:1≤m.call:=by simp at n1;omega
 apply J.cut (Q:=(m.arrive=0∨m.call≤m.arrive)∧(m.point=0∨m.call≤m.point∧m.arrive≤m.point)) (f':=[(41,.c (.v (.bool (m.re == 0)))),(3,.c (.v (.bool (m.res.code == 6)))),(1,.c (.v (.pointer (some ⟨b1,0,none⟩))))]) (L':=[.box b1 52 (eM m)])
 case main =>
  intro TAIL;rcases Jg.or3 (m.arrive != 0) (decide (m.arrive < m.call)) with n3 | ⟨n3,n4⟩ | ⟨n3,n4⟩
  case inr.inl =>
   obtain rfl:b=false:=Jg.bad hs (by intro q;simp at n3 n4;omega)
   repeat (refine gn ?_)
   exact rtQ Try.func25
  all_goals
   have o2:m.arrive=0∨m.call≤m.arrive:=by simp at n3;first | omega | (simp at n4;omega)
   rcases Jg.or4 (m.point != 0) (decide (m.point < m.call)) (decide (m.point < m.arrive)) with n5 | ⟨n5,n6⟩ | ⟨n5,n6,n7⟩ | ⟨n5,n6,n7⟩
  all_goals
   repeat (refine gn ?_)
  any_goals (refine J.weak (TAIL ⟨o2,by simp at n5;first | omega | (simp at n6 n7;omega)⟩) ?_;exact ⟨rfl,rfl,rfl,trivial⟩)
  all_goals
   obtain rfl:b=false:=Jg.bad hs (by intro q;simp at n5 n6;first | omega | (simp at n7;omega));exact rtQ Try.func25
 case rest =>
  rintro ⟨o2,o3⟩
  refine J.cond rfl (fun n8=>?_) (fun n8=>?_)
  ·have z8:m.re=0:=by simpa using n8
   cases n0:(m.res.code == 6)
   case false =>
    obtain rfl:b=true:=hs.2 ⟨o1,o2,o3,.inl z8,fun h=>absurd h (by simpa using n0),fun _=>.inl z8⟩
    repeat (refine gn ?_)
    exact rtQ Try.func25
   rcases Jg.or3 (m.point == 0) (m.arrive == 0) with na | ⟨na,nb⟩ | ⟨na,nb⟩
   ·obtain rfl:b=false:=Jg.bad hs (by rintro ⟨q1,q2,q3,q4,q5,q6⟩;have q7:=q5 (by simpa using n0);simp at na;omega)
    repeat (refine gn ?_)
    exact rtQ Try.func25
   ·obtain rfl:b=true:=hs.2 ⟨o1,o2,o3,.inl z8,fun _=>⟨by simpa using na,by simpa using nb⟩,fun h=>absurd (by simpa using n0) h⟩
    repeat (refine gn ?_)
    exact rtQ Try.func25
   ·obtain rfl:b=false:=Jg.bad hs (by rintro ⟨q1,q2,q3,q4,q5,q6⟩;have q7:=q5 (by simpa using n0);simp at nb;omega)
    repeat (refine gn ?_)
    exact rtQ Try.func25
  ·have z8:¬ m.re=0:=by simpa using n8
   rcases Jg.or4' (decide (m.re < m.call)) (decide (m.re < m.arrive)) (decide (m.re < m.point)) with n9 | ⟨n9,nd⟩ | ⟨n9,nd,ne⟩ | ⟨n9,nd,ne⟩
   case inr.inr.inr =>
    cases n0:(m.res.code == 6)
    case false =>
     cases nc:(m.point != 0)
     ·obtain rfl:b=false:=Jg.bad hs (by rintro ⟨q1,q2,q3,q4,q5,q6⟩;have q7:=q6 (by simpa using n0);simp at nc;omega)
      repeat (refine gn ?_)
      exact rtQ Try.func25
     ·obtain rfl:b=true:=hs.2 ⟨o1,o2,o3,.inr (by simp at n9 nd ne;omega),fun h=>absurd h (by simpa using n0),fun _=>.inr (by simpa using nc)⟩
      repeat (refine gn ?_)
      exact rtQ Try.func25
    rcases Jg.or3 (m.point == 0) (m.arrive == 0) with na | ⟨na,nb⟩ | ⟨na,nb⟩
    ·obtain rfl:b=false:=Jg.bad hs (by rintro ⟨q1,q2,q3,q4,q5,q6⟩;have q7:=q5 (by simpa using n0);simp at na;omega)
     repeat (refine gn ?_)
     exact rtQ Try.func25
    ·obtain rfl:b=true:=hs.2 ⟨o1,o2,o3,.inr (by simp at n9 nd ne;omega),fun _=>⟨by simpa using na,by simpa using nb⟩,fun h=>absurd (by simpa using n0) h⟩
     repeat (refine gn ?_)
     exact rtQ Try.func25
    ·obtain rfl:b=false:=Jg.bad hs (by rintro ⟨q1,q2,q3,q4,q5,q6⟩;have q7:=q5 (by simpa using n0);simp at nb;omega)
     repeat (refine gn ?_)
     exact rtQ Try.func25
   all_goals
    repeat (refine gn ?_)
    obtain rfl:b=false:=Jg.bad hs (by intro q;simp at n9;first | omega | (simp at nd;first | omega | (simp at ne;omega)));exact rtQ Try.func25
end Fl
open Go.RowKit
namespace Pn
def okCs (c:Cs):Bool:=within true c.ch 8 && within c.send c.v 255
theorem okCs_right (c:Cs):okCs c=rightCs c:=by
 obtain ⟨s,ch,v⟩:=c;unfold okCs rightCs within;rw [Bool.eq_iff_iff]
 cases s <;> simp <;> omega
theorem right_kind {o:Op} (h:o.kind < 1∨9 < o.kind):rightOp o=false:=by
 unfold rightOp;rw [decide_eq_false_iff_not];rintro ⟨h1,h2,_⟩;omega
theorem right_ch {o:Op} (h:within (hasCh o.kind) o.ch 8=false):rightOp o=false:=by
 unfold rightOp;rw [decide_eq_false_iff_not];rintro ⟨h1,h2,h3,h4,h5,h6,h7,h8,h9,h10,h11,h12,h13,h14⟩;unfold within at h
 split at h
 ·simp at h;omega
 ·rename_i hc;simp at h;exact h (h10 (by simpa using hc))
theorem right_v {o:Op} (h:within (hasV o.kind) o.v 255=false):rightOp o=false:=by
 unfold rightOp;rw [decide_eq_false_iff_not];rintro ⟨h1,h2,h3,h4,h5,h6,h7,h8,h9,h10,h11,h12,h13,h14⟩;unfold within at h
 split at h
 ·simp at h;omega
 ·rename_i hc;simp at h;exact h (h11 (by simpa using hc))
theorem right_n {o:Op} (h:within (o.kind == 1) o.n 4=false):rightOp o=false:=by
 unfold rightOp;rw [decide_eq_false_iff_not];rintro ⟨h1,h2,h3,h4,h5,h6,h7,h8,h9,h10,h11,h12,h13,h14⟩;unfold within at h
 split at h
 ·simp at h;omega
 ·rename_i hc;simp at h;exact h (h12 (by simpa using hc))
theorem within_ch {o:Op} (h:within (hasCh o.kind) o.ch 8=true):0≤o.ch∧o.ch≤8∧(hasCh o.kind=false→o.ch=0):=by
 unfold within at h
 split at h
 ·rename_i hc;simp at h;exact ⟨h.1,h.2,fun e=>by rw [e] at hc;cases hc⟩
 ·simp at h;rw [h];exact ⟨by omega,by omega,fun _=>rfl⟩
theorem within_v {o:Op} (h:within (hasV o.kind) o.v 255=true):0≤o.v∧o.v≤255∧(hasV o.kind=false→o.v=0):=by
 unfold within at h
 split at h
 ·rename_i hc;simp at h;exact ⟨h.1,h.2,fun e=>by rw [e] at hc;cases hc⟩
 ·simp at h;rw [h];exact ⟨by omega,by omega,fun _=>rfl⟩
theorem within_n {o:Op} (h:within (o.kind == 1) o.n 4=true):0≤o.n∧o.n≤4∧(o.kind≠1→o.n=0):=by
 unfold within at h
 split at h
 ·rename_i hc;simp at h;exact ⟨h.1,h.2,fun e=>by simp at hc;exact absurd hc e⟩
 ·simp at h;rw [h];exact ⟨by omega,by omega,fun _=>rfl⟩
theorem right_plain {o:Op} (h1:1≤o.kind) (h2:o.kind≤9) (h3:within (hasCh o.kind) o.ch 8=true) (h4:within (hasV o.kind) o.v 255=true) (h5:within (o.kind == 1) o.n 4=true) (h6:o.kind≠9):rightOp o=(decide (o.cases.length=0) && !o.els):=by
 obtain ⟨a1,a2,a3⟩:=within_ch h3;obtain ⟨b1,b2,b3⟩:=within_v h4;obtain ⟨c1,c2,c3⟩:=within_n h5;rw [Bool.eq_iff_iff];unfold rightOp;simp only [decide_eq_true_eq,Bool.and_eq_true,Bool.not_eq_true',List.length_eq_zero_iff]
 constructor
 ·rintro ⟨_,_,_,_,_,_,_,_,_,_,_,_,h,_⟩;exact h h6
 ·rintro ⟨h7,h8⟩
  refine ⟨h1,h2,a1,a2,c1,c2,b1,b2,by rw [h7];simp,a3,b3,c3,fun _=>⟨h7,h8⟩,by rw [h7];simp⟩
theorem right_many {o:Op} (h:6 < o.cases.length):rightOp o=false:=by
 unfold rightOp;rw [decide_eq_false_iff_not];rintro ⟨h1,h2,h3,h4,h5,h6,h7,h8,h9,h10⟩;omega
theorem right_sel {o:Op} (h3:within (hasCh o.kind) o.ch 8=true) (h4:within (hasV o.kind) o.v 255=true) (h5:within (o.kind == 1) o.n 4=true) (h6:o.kind=9) (h7:o.cases.length≤6) (h8:∀ (j:Nat) (c:Cs),o.cases[j]?=some c→okCs c=true):rightOp o=true:=by
 obtain ⟨a1,a2,a3⟩:=within_ch h3;obtain ⟨b1,b2,b3⟩:=within_v h4;obtain ⟨c1,c2,c3⟩:=within_n h5;unfold rightOp;rw [decide_eq_true_iff];refine ⟨by omega,by omega,a1,a2,c1,c2,b1,b2,h7,a3,b3,c3,fun h=>absurd h6 h,fun c hc=>?_⟩;obtain ⟨j,hj,rfl⟩:=List.getElem_of_mem hc;rw [← okCs_right];exact h8 j _ (List.getElem?_eq_getElem hj)
theorem right_case {o:Op} {j:Nat} {c:Cs} (h:o.cases[j]?=some c) (hc:okCs c=false):rightOp o=false:=by
 unfold rightOp;rw [decide_eq_false_iff_not];rintro ⟨h1,h2,h3,h4,h5,h6,h7,h8,h9,h10,h11,h12,h13,h14⟩;have:=h14 c (List.mem_of_getElem? h);rw [← okCs_right,hc] at this;cases this
end Pn
set_option maxHeartbeats 3200000 in
theorem plan_rightOp (w:World) (o:Pn.Op) (va:Value) (SA:List Nat) (ha:GV caseE 3 w va o.cases SA) :
  Calls Try.prog 53 #[.agg #[.int .i64 o.kind,.int .i64 o.ch,.int .i64 o.n,.int .i64 o.v,va,.bool o.els]] w fun e w'=>e=.returned (.bool (Pn.rightOp o))∧Keeps [] w w':=by
 have hla:=ha.le;unfold maxLen at hla;obtain ⟨ao,cap,rfl⟩:=ha.shape;have HA:=Lib.hid ha;obtain ⟨q,hq0⟩:∃ q,Pn.rightOp o=q:=⟨_,rfl⟩
 rw [hq0];have HQ:=Lib.hid hq0;have KA:Hid (Keeps [] w (w.alloc (.cells #[.int .i64 o.kind,.int .i64 o.ch,.int .i64 o.n,.int .i64 o.v,.slice ao o.cases.length cap,.bool o.els] 28))):=Lib.hid ((Keeps.refl [] w).alloc _);clear ha hq0
 by_cases hk:o.kind < 1∨9 < o.kind
 ·have HN:Hid (false=q):=Lib.hid (by rw [← HQ.out,Pn.right_kind hk]);rcases hk with hk | hk
  ·have hk9:o.kind≤9:=by omega
   go_enter Try.func53,Try.ntmps53
   go_wp2_with fail
   go_ret
   exact ⟨ret_bool HN.out,KA.out⟩
  ·have hk1:1≤o.kind:=by omega
   go_enter Try.func53,Try.ntmps53
   go_wp2_with fail
   go_ret
   exact ⟨ret_bool HN.out,KA.out⟩
 have hk1:1≤o.kind:=by omega
 have hk9:o.kind≤9:=by omega
 clear hk
 cases hw1:Pn.within (Pn.hasCh o.kind) o.ch 8 with
 | false =>
  have HN:Hid (false=q):=Lib.hid (by rw [← HQ.out,Pn.right_ch hw1])
  go_enter Try.func53,Try.ntmps53
  go_wp2_with fail
  go_quiet ((first | (go_at_call 71;exact quiet_own (plan_hasCh _ _)) | (go_at_call 72;exact quiet_own (plan_hasV _ _)) | (go_at_call 70;exact quiet_own (plan_within _ _ _ _))))
  go_wp2_with fail
  go_ret
  exact ⟨ret_bool HN.out,KA.out.drewN _⟩
 | true =>
  cases hw2:Pn.within (Pn.hasV o.kind) o.v 255 with
  | false =>
   have HN:Hid (false=q):=Lib.hid (by rw [← HQ.out,Pn.right_v hw2])
   go_enter Try.func53,Try.ntmps53
   go_wp2_with fail
   go_quiet ((first | (go_at_call 71;exact quiet_own (plan_hasCh _ _)) | (go_at_call 72;exact quiet_own (plan_hasV _ _)) | (go_at_call 70;exact quiet_own (plan_within _ _ _ _))))
   go_wp2_with fail
   go_ret
   exact ⟨ret_bool HN.out,KA.out.drewN _⟩
  | true =>
   cases hw3:Pn.within (o.kind == 1) o.n 4 with
   | false =>
    have HN:Hid (false=q):=Lib.hid (by rw [← HQ.out,Pn.right_n hw3])
    go_enter Try.func53,Try.ntmps53
    go_wp2_with fail
    go_quiet ((first | (go_at_call 71;exact quiet_own (plan_hasCh _ _)) | (go_at_call 72;exact quiet_own (plan_hasV _ _)) | (go_at_call 70;exact quiet_own (plan_within _ _ _ _))))
    go_wp2_with fail
    refine (plan_within _ _ _ _).mono ?_
    rintro e w3 ⟨rfl,rfl⟩
    rw [hw3]
    go_wp2_with fail
    go_ret
    exact ⟨ret_bool HN.out,KA.out.drewN _⟩
   | true =>
    by_cases h9:o.kind=9
    ·have h9':(o.kind != 9)=false:=by simp [h9]
     by_cases h6:6 < o.cases.length
     ·have HN:Hid (false=q):=Lib.hid (by rw [← HQ.out,Pn.right_many h6]);clear h9
      go_enter Try.func53,Try.ntmps53
      go_wp2_with fail
      go_quiet ((first | (go_at_call 71;exact quiet_own (plan_hasCh _ _)) | (go_at_call 72;exact quiet_own (plan_hasV _ _)) | (go_at_call 70;exact quiet_own (plan_within _ _ _ _))))
      go_wp2_with fail
      refine (plan_within _ _ _ _).mono ?_
      rintro e w3 ⟨rfl,rfl⟩
      rw [hw3]
      go_wp2_with fail
      go_ret
      exact ⟨ret_bool HN.out,KA.out.drewN _⟩
     ·have h6':o.cases.length≤6:=by omega
      have HS:Hid ((∀ (j:Nat) (c:Pn.Cs),o.cases[j]?=some c→Pn.okCs c=true)→true=q):=Lib.hid (fun h=>by rw [← HQ.out,Pn.right_sel hw1 hw2 hw3 h9 h6' h]);clear h9 h6
      go_enter Try.func53,Try.ntmps53
      go_wp2_with fail
      go_quiet ((first | (go_at_call 71;exact quiet_own (plan_hasCh _ _)) | (go_at_call 72;exact quiet_own (plan_hasV _ _)) | (go_at_call 70;exact quiet_own (plan_within _ _ _ _))))
      go_wp2_with fail
      refine (plan_within _ _ _ _).mono ?_
      rintro e w3 ⟨rfl,rfl⟩
      rw [hw3]
      go_wp2_with fail
      clear hw1 hw2 hw3 h9'
      go_loopw [59] (fun u wr=>∃ k:Nat,k≤o.cases.length∧u=.int .i64 k∧Hid (Keeps [] w wr∧∀ (j:Nat) (c:Pn.Cs),j < k→o.cases[j]?=some c→Pn.okCs c=true)) (fun u _=>o.cases.length - (intOf u).toNat)
      case atStart=>exact ⟨0,Nat.zero_le _,rfl,Lib.hid ⟨KA.out.drewN _,fun j c hj=>by omega⟩⟩
      case round =>
       obtain ⟨k,hk,rfl,HI⟩:=hrel;obtain ⟨wo,rfl⟩:∃ wo:World,wo=wr:=⟨_,rfl⟩
       by_cases hlt:k < o.cases.length
       ·obtain ⟨x,hx⟩:∃ x,o.cases[k]?=some x:=⟨_,List.getElem?_eq_getElem hlt⟩
        obtain ⟨g1,off1,rfl,_,hg1,a0,a1,a2⟩:=(HA.out.then caseE_kept HI.out.1).case hx;have HX:=Lib.hid hx;have KR:Hid (Keeps [] w (wo.alloc (.cells #[.bool x.send,.int .i64 x.ch,.int .i64 x.v] 87))):=Lib.hid (HI.out.1.alloc _);clear hx
        cases hv1:Pn.within true x.ch 8 with
        | false =>
         have HN:Hid (false=q):=Lib.hid (by rw [← HQ.out,Pn.right_case HX.out (by unfold Pn.okCs;rw [hv1];rfl)])
         go_wp2_with fail
         refine (plan_within _ _ _ _).mono ?_
         rintro e w4 ⟨rfl,rfl⟩
         rw [hv1]
         go_wp2_with fail
         go_ret
         exact ⟨ret_bool HN.out,KR.out⟩
        | true =>
         cases hv2:Pn.within x.send x.v 255 with
         | false =>
          have HN:Hid (false=q):=Lib.hid (by rw [← HQ.out,Pn.right_case HX.out (by unfold Pn.okCs;rw [hv1,hv2];rfl)])
          go_wp2_with fail
          refine (plan_within _ _ _ _).mono ?_
          rintro e w4 ⟨rfl,rfl⟩
          rw [hv1]
          go_wp2_with fail
          refine (plan_within _ _ _ _).mono ?_
          rintro e w4 ⟨rfl,rfl⟩
          rw [hv2]
          go_wp2_with fail
          go_ret
          exact ⟨ret_bool HN.out,KR.out⟩
         | true =>
          have HO:Hid (Pn.okCs x=true):=Lib.hid (by unfold Pn.okCs;rw [hv1,hv2];rfl)
          go_wp2_with fail
          refine (plan_within _ _ _ _).mono ?_
          rintro e w4 ⟨rfl,rfl⟩
          rw [hv1]
          go_wp2_with fail
          refine (plan_within _ _ _ _).mono ?_
          rintro e w4 ⟨rfl,rfl⟩
          rw [hv2]
          go_wp2_with fail
          go_roundw
          case rel=>exact ⟨k + 1,by omega,by go_num,Lib.hid ⟨KR.out,fun j c hj hc=>by
           by_cases e:j=k
           ·subst e;rw [HX.out] at hc;cases hc;exact HO.out
           ·exact HI.out.2 j c (by omega) hc⟩⟩
          case measure=>simp [intOf];omega
       ·obtain rfl:k=o.cases.length:=by omega
        have HN:Hid (true=q):=Lib.hid (HS.out fun j c hc=>HI.out.2 j c (List.getElem?_eq_some_iff.1 hc).1 hc)
        go_wp2_with fail
        go_ret
        exact ⟨ret_bool HN.out,HI.out.1⟩
    ·have h9':(o.kind != 9)=true:=by simp [h9]
     have HP:=Lib.hid (Pn.right_plain hk1 hk9 hw1 hw2 hw3 h9);clear h9
     cases hl:decide (o.cases.length=0) with
     | false =>
      have HN:Hid (false=q):=Lib.hid (by rw [← HQ.out,HP.out,hl];rfl);have hl':((o.cases.length:Int) == 0)=false:=by simpa using hl
      clear hl
      go_enter Try.func53,Try.ntmps53
      go_wp2_with fail
      go_quiet ((first | (go_at_call 71;exact quiet_own (plan_hasCh _ _)) | (go_at_call 72;exact quiet_own (plan_hasV _ _)) | (go_at_call 70;exact quiet_own (plan_within _ _ _ _))))
      go_wp2_with fail
      refine (plan_within _ _ _ _).mono ?_
      rintro e w3 ⟨rfl,rfl⟩
      rw [hw3]
      go_wp2_with fail
      all_goals
       go_ret
       exact ⟨ret_bool HN.out,KA.out.drewN _⟩
     | true =>
      have HN:Hid ((!o.els)=q):=Lib.hid (by rw [← HQ.out,HP.out,hl];rfl);have hl':((o.cases.length:Int) == 0)=true:=by simpa using hl
      clear hl
      go_enter Try.func53,Try.ntmps53
      go_wp2_with fail
      go_quiet ((first | (go_at_call 71;exact quiet_own (plan_hasCh _ _)) | (go_at_call 72;exact quiet_own (plan_hasV _ _)) | (go_at_call 70;exact quiet_own (plan_within _ _ _ _))))
      go_wp2_with fail
      refine (plan_within _ _ _ _).mono ?_
      rintro e w3 ⟨rfl,rfl⟩
      rw [hw3]
      go_wp2_with fail
      all_goals
       go_ret
       exact ⟨ret_bool HN.out,KA.out.drewN _⟩
open Go.RowKit
namespace Pn
end Pn
set_option maxRecDepth 100000 in
set_option maxHeartbeats 3200000 in
theorem ref10_rightOp_no (w:World) (o:Pn.Op) (va:Value) (SA:List Nat) (ha:GV caseE 3 w va o.cases SA) (hb:¬ (1≤o.kind∧o.kind≤9∧0≤o.ch∧o.ch≤8∧0≤o.n∧o.n≤4∧0≤o.v∧o.v≤255∧o.cases.length≤6)) :
  Calls Try.prog 55 #[.agg #[.int .i64 o.kind,.int .i64 o.ch,.int .i64 o.n,.int .i64 o.v,va,.bool o.els]] w fun e w'=>e=.returned (.bool (Pn.rightOp o))∧Keeps [] w w':=by
 have hla:=ha.le;unfold maxLen at hla;obtain ⟨ao,cap,rfl⟩:=ha.shape;have HA:=Lib.hid ha;obtain ⟨q,hq0⟩:∃ q,Pn.rightOp o=q:=⟨_,rfl⟩
 rw [hq0];have HQ:=Lib.hid hq0;have KA:Hid (Keeps [] w (w.alloc (.cells #[.int .i64 o.kind,.int .i64 o.ch,.int .i64 o.n,.int .i64 o.v,.slice ao o.cases.length cap,.bool o.els] 28))):=Lib.hid ((Keeps.refl [] w).alloc _);clear ha hq0;have HN:Hid (false=q):=Lib.hid (by
  rw [← HQ.out,eq_comm];unfold Pn.rightOp;rw [decide_eq_false_iff_not];rintro ⟨h1,h2,h3,h4,h5,h6,h7,h8,h9,_⟩;exact hb ⟨h1,h2,h3,h4,h5,h6,h7,h8,h9⟩)
 have HB:=Lib.hid hb;clear hb
 go_enter Try.func55,Try.ntmps55
 go_upto_if 48 with fail
 all_goals
  go_wp2_with fail
  all_goals
   first
    | (exfalso;have h:=HB.out;omega)
    | (go_ret;exact ⟨ret_bool HN.out,(Keeps.refl [] w).alloc _⟩)
open Go.RowKit
namespace Pn
end Pn
set_option maxRecDepth 100000 in
set_option maxHeartbeats 3200000 in
theorem ref10_rightOp_1 (w:World) (o:Pn.Op) (va:Value) (SA:List Nat) (ha:GV caseE 3 w va o.cases SA) (hb:1≤o.kind∧o.kind≤9∧0≤o.ch∧o.ch≤8∧0≤o.n∧o.n≤4∧0≤o.v∧o.v≤255∧o.cases.length≤6) (hk:o.kind=1) :
  Calls Try.prog 55 #[.agg #[.int .i64 o.kind,.int .i64 o.ch,.int .i64 o.n,.int .i64 o.v,va,.bool o.els]] w fun e w'=>e=.returned (.bool (Pn.rightOp o))∧Keeps [] w w':=by
 have hla:=ha.le;unfold maxLen at hla;obtain ⟨ao,cap,rfl⟩:=ha.shape;have HA:=Lib.hid ha;obtain ⟨q,hq0⟩:∃ q,Pn.rightOp o=q:=⟨_,rfl⟩
 rw [hq0];have HQ:=Lib.hid hq0;have KA:Hid (Keeps [] w (w.alloc (.cells #[.int .i64 o.kind,.int .i64 o.ch,.int .i64 o.n,.int .i64 o.v,.slice ao o.cases.length cap,.bool o.els] 28))):=Lib.hid ((Keeps.refl [] w).alloc _);clear ha hq0;obtain ⟨b1,b2,b3,b4,b5,b6,b7,b8,b9⟩:=hb;obtain ⟨k,ch,n,v,cs,els⟩:=o;simp only at *;have HS:Hid ((Pn.hasCh k=false→ch=0)→(Pn.hasV k=false→v=0)→(k≠1→n=0)→(k≠9→cs=[]∧els=false)→(∀ (j:Nat) (c:Pn.Cs),cs[j]?=some c→Pn.rightCs c=true)→true=q):=Lib.hid (fun d1 d2 d3 d4 h=>by
  rw [← HQ.out,eq_comm];unfold Pn.rightOp;rw [decide_eq_true_iff];refine ⟨b1,b2,b3,b4,b5,b6,b7,b8,b9,d1,d2,d3,d4,fun c hc=>?_⟩;obtain ⟨j,hj,rfl⟩:=List.getElem_of_mem hc;exact h j _ (List.getElem?_eq_getElem hj))
 have HF:Hid (¬ ((Pn.hasCh k=false→ch=0)∧(Pn.hasV k=false→v=0)∧(k≠1→n=0)∧(k≠9→cs=[]∧els=false))→false=q):=Lib.hid (fun hn=>by
  rw [← HQ.out,eq_comm];unfold Pn.rightOp;rw [decide_eq_false_iff_not];rintro ⟨h1,h2,h3,h4,h5,h6,h7,h8,h9,h10,h11,h12,h13,_⟩;exact hn ⟨h10,h11,h12,h13⟩)
 subst hk;have HCV:Hid (Pn.hasCh 1=false∧Pn.hasV 1=false):=Lib.hid (by constructor <;> simp [Pn.hasCh,Pn.hasV] <;> omega)
 by_cases hcl:ch=0∧v=0∧els=false∧cs.length=0
 ·obtain ⟨e0,e1,e2,e3⟩:=hcl;subst e0 e1 e2;have e9:cs.length≤0:=by omega
  have HS2:=Lib.hid (HS.out (fun _=>rfl) (fun _=>rfl) (fun h=>absurd rfl h) (fun _=>⟨List.eq_nil_of_length_eq_zero (by omega),rfl⟩));clear HS HF
  try clear e3
  try clear e2
  go_enter Try.func55,Try.ntmps55
  go_wp2_with fail
  refine (ref10_hasCh _ _).mono ?_
  rintro e w3 ⟨rfl,rfl⟩
  rw [HCV.out.1]
  go_wp2_with (go_at_call 74;refine (ref10_hasV _ _).mono ?_;rintro e w4 ⟨rfl,rfl⟩;rw [HCV.out.2])
  go_loopw [97] (fun u wr=>∃ j:Nat,j≤cs.length∧u=.int .i64 j∧Hid (Keeps [] w wr∧∀ (i:Nat) (c:Pn.Cs),i < j→cs[i]?=some c→Pn.rightCs c=true)) (fun u _=>cs.length - (intOf u).toNat)
  case atStart=>exact ⟨0,Nat.zero_le _,rfl,Lib.hid ⟨KA.out,fun i c hi=>by omega⟩⟩
  case round =>
   obtain ⟨j,hj,rfl,HI⟩:=hrel;obtain ⟨wo,rfl⟩:∃ wo:World,wo=wr:=⟨_,rfl⟩
   obtain rfl:j=cs.length:=by omega
   have HN:Hid (true=q):=Lib.hid (HS2.out fun i c hc=>HI.out.2 i c (List.getElem?_eq_some_iff.1 hc).1 hc)
   go_wp2_with fail
   go_ret
   exact ⟨ret_bool HN.out,HI.out.1⟩
 ·have HN:Hid (false=q):=Lib.hid (HF.out (by rintro ⟨d1,d2,d3,d4⟩;have q1:=HCV.out.1;have q2:=HCV.out.2;exact hcl ⟨d1 q1,d2 q2,(d4 (by omega)).2,by simp [(d4 (by omega)).1]⟩));have HC:Hid (ch=0→v=0→els=false→cs.length=0→False):=Lib.hid (fun e0 e1 e2 e3=>hcl ⟨e0,e1,e2,e3⟩);clear hcl
  go_enter Try.func55,Try.ntmps55
  go_wp2_with fail
  refine (ref10_hasCh _ _).mono ?_
  rintro e w3 ⟨rfl,rfl⟩
  rw [HCV.out.1]
  go_upto_if 93 with (go_at_call 74;refine (ref10_hasV _ _).mono ?_;rintro e w4 ⟨rfl,rfl⟩;rw [HCV.out.2])
  all_goals
   go_wp2_with fail
   all_goals
    first
     | (exfalso;refine HC.out ?_ ?_ ?_ ?_ <;> (first | assumption | omega | (simpa using ‹¬els=true›));done)
     | (go_ret;exact ⟨ret_bool HN.out,(Keeps.refl [] w).alloc _⟩)
open Go.RowKit
namespace Pn
end Pn
set_option maxRecDepth 100000 in
set_option maxHeartbeats 3200000 in
theorem ref10_rightOp_V (w:World) (o:Pn.Op) (va:Value) (SA:List Nat) (ha:GV caseE 3 w va o.cases SA) (hb:1≤o.kind∧o.kind≤9∧0≤o.ch∧o.ch≤8∧0≤o.n∧o.n≤4∧0≤o.v∧o.v≤255∧o.cases.length≤6) (hv:o.kind=2∨o.kind=4) (hk:¬ o.kind=1) :
  Calls Try.prog 55 #[.agg #[.int .i64 o.kind,.int .i64 o.ch,.int .i64 o.n,.int .i64 o.v,va,.bool o.els]] w fun e w'=>e=.returned (.bool (Pn.rightOp o))∧Keeps [] w w':=by
 have hla:=ha.le;unfold maxLen at hla;obtain ⟨ao,cap,rfl⟩:=ha.shape;have HA:=Lib.hid ha;obtain ⟨q,hq0⟩:∃ q,Pn.rightOp o=q:=⟨_,rfl⟩
 rw [hq0];have HQ:=Lib.hid hq0;have KA:Hid (Keeps [] w (w.alloc (.cells #[.int .i64 o.kind,.int .i64 o.ch,.int .i64 o.n,.int .i64 o.v,.slice ao o.cases.length cap,.bool o.els] 28))):=Lib.hid ((Keeps.refl [] w).alloc _);clear ha hq0;obtain ⟨b1,b2,b3,b4,b5,b6,b7,b8,b9⟩:=hb;obtain ⟨k,ch,n,v,cs,els⟩:=o;simp only at *;have HS:Hid ((Pn.hasCh k=false→ch=0)→(Pn.hasV k=false→v=0)→(k≠1→n=0)→(k≠9→cs=[]∧els=false)→(∀ (j:Nat) (c:Pn.Cs),cs[j]?=some c→Pn.rightCs c=true)→true=q):=Lib.hid (fun d1 d2 d3 d4 h=>by
  rw [← HQ.out,eq_comm];unfold Pn.rightOp;rw [decide_eq_true_iff];refine ⟨b1,b2,b3,b4,b5,b6,b7,b8,b9,d1,d2,d3,d4,fun c hc=>?_⟩;obtain ⟨j,hj,rfl⟩:=List.getElem_of_mem hc;exact h j _ (List.getElem?_eq_getElem hj))
 have HF:Hid (¬ ((Pn.hasCh k=false→ch=0)∧(Pn.hasV k=false→v=0)∧(k≠1→n=0)∧(k≠9→cs=[]∧els=false))→false=q):=Lib.hid (fun hn=>by
  rw [← HQ.out,eq_comm];unfold Pn.rightOp;rw [decide_eq_false_iff_not];rintro ⟨h1,h2,h3,h4,h5,h6,h7,h8,h9,h10,h11,h12,h13,_⟩;exact hn ⟨h10,h11,h12,h13⟩)
 have q1:(k != 1)=true:=by simp;omega
 have q9:(k != 9)=true:=by simp;omega
 have HCV:Hid (Pn.hasCh k=true∧Pn.hasV k=true):=Lib.hid (by constructor <;> simp [Pn.hasCh,Pn.hasV] <;> omega)
 by_cases hcl:n=0∧els=false∧cs.length=0
 ·obtain ⟨e0,e1,e2⟩:=hcl;subst e0 e1;have e9:cs.length≤0:=by omega
  have HS2:=Lib.hid (HS.out (fun h=>by rw [HCV.out.1] at h;cases h) (fun h=>by rw [HCV.out.2] at h;cases h) (fun _=>rfl) (fun _=>⟨List.eq_nil_of_length_eq_zero (by omega),rfl⟩));clear HS HF
  try clear e3
  try clear e2
  go_enter Try.func55,Try.ntmps55
  go_wp2_with fail
  refine (ref10_hasCh _ _).mono ?_
  rintro e w3 ⟨rfl,rfl⟩
  rw [HCV.out.1]
  go_wp2_with (go_at_call 74;refine (ref10_hasV _ _).mono ?_;rintro e w4 ⟨rfl,rfl⟩;rw [HCV.out.2])
  go_loopw [97] (fun u wr=>∃ j:Nat,j≤cs.length∧u=.int .i64 j∧Hid (Keeps [] w wr∧∀ (i:Nat) (c:Pn.Cs),i < j→cs[i]?=some c→Pn.rightCs c=true)) (fun u _=>cs.length - (intOf u).toNat)
  case atStart=>exact ⟨0,Nat.zero_le _,rfl,Lib.hid ⟨KA.out,fun i c hi=>by omega⟩⟩
  case round =>
   obtain ⟨j,hj,rfl,HI⟩:=hrel;obtain ⟨wo,rfl⟩:∃ wo:World,wo=wr:=⟨_,rfl⟩
   obtain rfl:j=cs.length:=by omega
   have HN:Hid (true=q):=Lib.hid (HS2.out fun i c hc=>HI.out.2 i c (List.getElem?_eq_some_iff.1 hc).1 hc)
   go_wp2_with fail
   go_ret
   exact ⟨ret_bool HN.out,HI.out.1⟩
 ·have HN:Hid (false=q):=Lib.hid (HF.out (by rintro ⟨d1,d2,d3,d4⟩;have q1:=HCV.out.1;have q2:=HCV.out.2;exact hcl ⟨d3 (by omega),(d4 (by omega)).2,by simp [(d4 (by omega)).1]⟩));have HC:Hid (n=0→els=false→cs.length=0→False):=Lib.hid (fun e0 e1 e2=>hcl ⟨e0,e1,e2⟩);clear hcl
  go_enter Try.func55,Try.ntmps55
  go_wp2_with fail
  refine (ref10_hasCh _ _).mono ?_
  rintro e w3 ⟨rfl,rfl⟩
  rw [HCV.out.1]
  go_upto_if 93 with (go_at_call 74;refine (ref10_hasV _ _).mono ?_;rintro e w4 ⟨rfl,rfl⟩;rw [HCV.out.2])
  all_goals
   go_wp2_with fail
   all_goals
    first
     | (exfalso;refine HC.out ?_ ?_ ?_ <;> (first | assumption | omega | (simpa using ‹¬els=true›));done)
     | (go_ret;exact ⟨ret_bool HN.out,(Keeps.refl [] w).alloc _⟩)
open Go.RowKit
namespace Pn
theorem ref_case9 {o:Op} {j:Nat} {c:Cs} (h:o.cases[j]?=some c) (hc:rightCs c=false):rightOp o=false:=right_case h (by rw [okCs_right];exact hc)
end Pn
set_option maxRecDepth 100000 in
set_option maxHeartbeats 3200000 in
theorem ref10_rightOp_9 (w:World) (o:Pn.Op) (va:Value) (SA:List Nat) (ha:GV caseE 3 w va o.cases SA) (hb:1≤o.kind∧o.kind≤9∧0≤o.ch∧o.ch≤8∧0≤o.n∧o.n≤4∧0≤o.v∧o.v≤255∧o.cases.length≤6) (hk:o.kind=9) :
  Calls Try.prog 55 #[.agg #[.int .i64 o.kind,.int .i64 o.ch,.int .i64 o.n,.int .i64 o.v,va,.bool o.els]] w fun e w'=>e=.returned (.bool (Pn.rightOp o))∧Keeps [] w w':=by
 have hla:=ha.le;unfold maxLen at hla;obtain ⟨ao,cap,rfl⟩:=ha.shape;have HA:=Lib.hid ha;obtain ⟨q,hq0⟩:∃ q,Pn.rightOp o=q:=⟨_,rfl⟩
 rw [hq0];have HQ:=Lib.hid hq0;have KA:Hid (Keeps [] w (w.alloc (.cells #[.int .i64 o.kind,.int .i64 o.ch,.int .i64 o.n,.int .i64 o.v,.slice ao o.cases.length cap,.bool o.els] 28))):=Lib.hid ((Keeps.refl [] w).alloc _);clear ha hq0;obtain ⟨b1,b2,b3,b4,b5,b6,b7,b8,b9⟩:=hb;obtain ⟨k,ch,n,v,cs,els⟩:=o;simp only at *;have HS:Hid ((Pn.hasCh k=false→ch=0)→(Pn.hasV k=false→v=0)→(k≠1→n=0)→(k≠9→cs=[]∧els=false)→(∀ (j:Nat) (c:Pn.Cs),cs[j]?=some c→Pn.rightCs c=true)→true=q):=Lib.hid (fun d1 d2 d3 d4 h=>by
  rw [← HQ.out,eq_comm];unfold Pn.rightOp;rw [decide_eq_true_iff];refine ⟨b1,b2,b3,b4,b5,b6,b7,b8,b9,d1,d2,d3,d4,fun c hc=>?_⟩;obtain ⟨j,hj,rfl⟩:=List.getElem_of_mem hc;exact h j _ (List.getElem?_eq_getElem hj))
 have HF:Hid (¬ ((Pn.hasCh k=false→ch=0)∧(Pn.hasV k=false→v=0)∧(k≠1→n=0)∧(k≠9→cs=[]∧els=false))→false=q):=Lib.hid (fun hn=>by
  rw [← HQ.out,eq_comm];unfold Pn.rightOp;rw [decide_eq_false_iff_not];rintro ⟨h1,h2,h3,h4,h5,h6,h7,h8,h9,h10,h11,h12,h13,_⟩;exact hn ⟨h10,h11,h12,h13⟩)
 subst hk;have HCV:Hid (Pn.hasCh 9=false∧Pn.hasV 9=false):=Lib.hid (by constructor <;> simp [Pn.hasCh,Pn.hasV] <;> omega)
 by_cases hcl:ch=0∧v=0∧n=0
 ·obtain ⟨e0,e1,e2⟩:=hcl;subst e0 e1 e2;have HS2:=Lib.hid (HS.out (fun _=>rfl) (fun _=>rfl) (fun _=>rfl) (fun h=>absurd rfl h));clear HS HF
  try clear e3
  try clear e2
  go_enter Try.func55,Try.ntmps55
  go_wp2_with fail
  refine (ref10_hasCh _ _).mono ?_
  rintro e w3 ⟨rfl,rfl⟩
  rw [HCV.out.1]
  go_wp2_with (go_at_call 74;refine (ref10_hasV _ _).mono ?_;rintro e w4 ⟨rfl,rfl⟩;rw [HCV.out.2])
  go_loopw [97] (fun u wr=>∃ j:Nat,j≤cs.length∧u=.int .i64 j∧Hid (Keeps [] w wr∧∀ (i:Nat) (c:Pn.Cs),i < j→cs[i]?=some c→Pn.rightCs c=true)) (fun u _=>cs.length - (intOf u).toNat)
  case atStart=>exact ⟨0,Nat.zero_le _,rfl,Lib.hid ⟨KA.out,fun i c hi=>by omega⟩⟩
  case round =>
   obtain ⟨j,hj,rfl,HI⟩:=hrel;obtain ⟨wo,rfl⟩:∃ wo:World,wo=wr:=⟨_,rfl⟩
   by_cases hlt:j < cs.length
   ·obtain ⟨x,hx⟩:∃ x,cs[j]?=some x:=⟨_,List.getElem?_eq_getElem hlt⟩
    obtain ⟨g1,off1,rfl,_,hg1,a0,a1,a2⟩:=(HA.out.then caseE_kept HI.out.1).case hx;have HX:=Lib.hid hx;clear hx;obtain ⟨xs,xc,xv⟩:=x;simp only at a0 a1 a2;have KR:Hid (Keeps [] w (wo.alloc (.cells #[.bool xs,.int .i64 xc,.int .i64 xv] 87))):=Lib.hid (HI.out.1.alloc _)
    by_cases hr:0≤xc∧xc≤8∧0≤xv∧xv≤255∧(xs=false→xv=0)
    ·have HO:Hid (Pn.rightCs ⟨xs,xc,xv⟩=true):=Lib.hid (by unfold Pn.rightCs;rw [decide_eq_true_iff];exact hr);obtain ⟨e1,e2,e3,e4,e5⟩:=hr
     cases xs with
     | true =>
      clear e5
      go_wp2_with fail
      go_roundw
      case rel=>exact ⟨j + 1,by omega,by go_num,Lib.hid ⟨KR.out,fun i c hi hc=>by
       by_cases e:i=j
       ·subst e;rw [HX.out] at hc;cases hc;exact HO.out
       ·exact HI.out.2 i c (by omega) hc⟩⟩
      case measure=>simp [intOf];omega
     | false =>
      have e6:=e5 rfl;subst e6;clear e5
      go_wp2_with fail
      go_roundw
      case rel=>exact ⟨j + 1,by omega,by go_num,Lib.hid ⟨KR.out,fun i c hi hc=>by
       by_cases e:i=j
       ·subst e;rw [HX.out] at hc;cases hc;exact HO.out
       ·exact HI.out.2 i c (by omega) hc⟩⟩
      case measure=>simp [intOf];omega
    ·have HN:Hid (false=q):=Lib.hid (by rw [← HQ.out,Pn.ref_case9 HX.out (by unfold Pn.rightCs;rw [decide_eq_false_iff_not];exact hr)]);have HR:=Lib.hid hr;clear hr
     cases xs with
     | true =>
      have HR2:Hid (0≤xc→xc≤8→0≤xv→xv≤255→False):=Lib.hid (fun a b c d=>HR.out ⟨a,b,c,d,fun h=>by cases h⟩);clear HR
      go_upto_if 128 with fail
      all_goals
       go_wp2_with fail
       all_goals
        first
         | (exfalso;refine HR2.out ?_ ?_ ?_ ?_ <;> omega)
         | (go_ret;exact ⟨ret_bool HN.out,HI.out.1.alloc _⟩)
     | false =>
      have HR2:Hid (0≤xc→xc≤8→0≤xv→xv≤255→xv≠0):=Lib.hid (fun a b c d e=>HR.out ⟨a,b,c,d,fun _=>e⟩);clear HR
      go_upto_if 128 with fail
      all_goals
       go_wp2_with fail
       all_goals
        first
         | (exfalso;refine HR2.out ?_ ?_ ?_ ?_ ?_ <;> (first | omega | (have h:=(show ((((0≤xc∧xc≤8)∧0≤xv)∧xv≤255)∧(xv != 0)=false) by assumption).2;simpa using h)))
         | (go_ret;exact ⟨ret_bool HN.out,HI.out.1.alloc _⟩)
   ·obtain rfl:j=cs.length:=by omega
    have HN:Hid (true=q):=Lib.hid (HS2.out fun i c hc=>HI.out.2 i c (List.getElem?_eq_some_iff.1 hc).1 hc)
    go_wp2_with fail
    go_ret
    exact ⟨ret_bool HN.out,HI.out.1⟩
 ·have HN:Hid (false=q):=Lib.hid (HF.out (by rintro ⟨d1,d2,d3,d4⟩;have q1:=HCV.out.1;have q2:=HCV.out.2;exact hcl ⟨d1 q1,d2 q2,d3 (by omega)⟩));have HC:Hid (ch=0→v=0→n=0→False):=Lib.hid (fun e0 e1 e2=>hcl ⟨e0,e1,e2⟩);clear hcl
  go_enter Try.func55,Try.ntmps55
  go_wp2_with fail
  refine (ref10_hasCh _ _).mono ?_
  rintro e w3 ⟨rfl,rfl⟩
  rw [HCV.out.1]
  go_upto_if 93 with (go_at_call 74;refine (ref10_hasV _ _).mono ?_;rintro e w4 ⟨rfl,rfl⟩;rw [HCV.out.2])
  all_goals
   go_wp2_with fail
   all_goals
    first
     | (exfalso;refine HC.out ?_ ?_ ?_ <;> (first | assumption | omega | (simpa using ‹¬els=true›));done)
     | (go_ret;exact ⟨ret_bool HN.out,(Keeps.refl [] w).alloc _⟩)
open Go.RowKit
namespace Pn
end Pn
set_option maxRecDepth 100000 in
set_option maxHeartbeats 3200000 in
theorem ref10_rightOp_C (w:World) (o:Pn.Op) (va:Value) (SA:List Nat) (ha:GV caseE 3 w va o.cases SA) (hb:1≤o.kind∧o.kind≤9∧0≤o.ch∧o.ch≤8∧0≤o.n∧o.n≤4∧0≤o.v∧o.v≤255∧o.cases.length≤6) (hk:¬ o.kind=1) (hv:¬ (o.kind=2∨o.kind=4)) (hk9:¬ o.kind=9) :
  Calls Try.prog 55 #[.agg #[.int .i64 o.kind,.int .i64 o.ch,.int .i64 o.n,.int .i64 o.v,va,.bool o.els]] w fun e w'=>e=.returned (.bool (Pn.rightOp o))∧Keeps [] w w':=by
 have hla:=ha.le;unfold maxLen at hla;obtain ⟨ao,cap,rfl⟩:=ha.shape;have HA:=Lib.hid ha;obtain ⟨q,hq0⟩:∃ q,Pn.rightOp o=q:=⟨_,rfl⟩
 rw [hq0];have HQ:=Lib.hid hq0;have KA:Hid (Keeps [] w (w.alloc (.cells #[.int .i64 o.kind,.int .i64 o.ch,.int .i64 o.n,.int .i64 o.v,.slice ao o.cases.length cap,.bool o.els] 28))):=Lib.hid ((Keeps.refl [] w).alloc _);clear ha hq0;obtain ⟨b1,b2,b3,b4,b5,b6,b7,b8,b9⟩:=hb;obtain ⟨k,ch,n,v,cs,els⟩:=o;simp only at *;have HS:Hid ((Pn.hasCh k=false→ch=0)→(Pn.hasV k=false→v=0)→(k≠1→n=0)→(k≠9→cs=[]∧els=false)→(∀ (j:Nat) (c:Pn.Cs),cs[j]?=some c→Pn.rightCs c=true)→true=q):=Lib.hid (fun d1 d2 d3 d4 h=>by
  rw [← HQ.out,eq_comm];unfold Pn.rightOp;rw [decide_eq_true_iff];refine ⟨b1,b2,b3,b4,b5,b6,b7,b8,b9,d1,d2,d3,d4,fun c hc=>?_⟩;obtain ⟨j,hj,rfl⟩:=List.getElem_of_mem hc;exact h j _ (List.getElem?_eq_getElem hj))
 have HF:Hid (¬ ((Pn.hasCh k=false→ch=0)∧(Pn.hasV k=false→v=0)∧(k≠1→n=0)∧(k≠9→cs=[]∧els=false))→false=q):=Lib.hid (fun hn=>by
  rw [← HQ.out,eq_comm];unfold Pn.rightOp;rw [decide_eq_false_iff_not];rintro ⟨h1,h2,h3,h4,h5,h6,h7,h8,h9,h10,h11,h12,h13,_⟩;exact hn ⟨h10,h11,h12,h13⟩)
 have q1:(k != 1)=true:=by simp;omega
 have q9:(k != 9)=true:=by simp;omega
 have HCV:Hid (Pn.hasCh k=true∧Pn.hasV k=false):=Lib.hid (by constructor <;> simp [Pn.hasCh,Pn.hasV] <;> omega)
 by_cases hcl:v=0∧n=0∧els=false∧cs.length=0
 ·obtain ⟨e0,e1,e2,e3⟩:=hcl;subst e0 e1 e2;have e9:cs.length≤0:=by omega
  have HS2:=Lib.hid (HS.out (fun h=>by rw [HCV.out.1] at h;cases h) (fun _=>rfl) (fun _=>rfl) (fun _=>⟨List.eq_nil_of_length_eq_zero (by omega),rfl⟩));clear HS HF
  try clear e3
  try clear e2
  go_enter Try.func55,Try.ntmps55
  go_wp2_with fail
  refine (ref10_hasCh _ _).mono ?_
  rintro e w3 ⟨rfl,rfl⟩
  rw [HCV.out.1]
  go_wp2_with (go_at_call 74;refine (ref10_hasV _ _).mono ?_;rintro e w4 ⟨rfl,rfl⟩;rw [HCV.out.2])
  go_loopw [97] (fun u wr=>∃ j:Nat,j≤cs.length∧u=.int .i64 j∧Hid (Keeps [] w wr∧∀ (i:Nat) (c:Pn.Cs),i < j→cs[i]?=some c→Pn.rightCs c=true)) (fun u _=>cs.length - (intOf u).toNat)
  case atStart=>exact ⟨0,Nat.zero_le _,rfl,Lib.hid ⟨KA.out,fun i c hi=>by omega⟩⟩
  case round =>
   obtain ⟨j,hj,rfl,HI⟩:=hrel;obtain ⟨wo,rfl⟩:∃ wo:World,wo=wr:=⟨_,rfl⟩
   obtain rfl:j=cs.length:=by omega
   have HN:Hid (true=q):=Lib.hid (HS2.out fun i c hc=>HI.out.2 i c (List.getElem?_eq_some_iff.1 hc).1 hc)
   go_wp2_with fail
   go_ret
   exact ⟨ret_bool HN.out,HI.out.1⟩
 ·have HN:Hid (false=q):=Lib.hid (HF.out (by rintro ⟨d1,d2,d3,d4⟩;have q1:=HCV.out.1;have q2:=HCV.out.2;exact hcl ⟨d2 q2,d3 (by omega),(d4 (by omega)).2,by simp [(d4 (by omega)).1]⟩));have HC:Hid (v=0→n=0→els=false→cs.length=0→False):=Lib.hid (fun e0 e1 e2 e3=>hcl ⟨e0,e1,e2,e3⟩);clear hcl
  go_enter Try.func55,Try.ntmps55
  go_wp2_with fail
  refine (ref10_hasCh _ _).mono ?_
  rintro e w3 ⟨rfl,rfl⟩
  rw [HCV.out.1]
  go_upto_if 93 with (go_at_call 74;refine (ref10_hasV _ _).mono ?_;rintro e w4 ⟨rfl,rfl⟩;rw [HCV.out.2])
  all_goals
   go_wp2_with fail
   all_goals
    first
     | (exfalso;refine HC.out ?_ ?_ ?_ ?_ <;> (first | assumption | omega | (simpa using ‹¬els=true›));done)
     | (go_ret;exact ⟨ret_bool HN.out,(Keeps.refl [] w).alloc _⟩)
open Go.RowKit
set_option maxRecDepth 100000 in
set_option maxHeartbeats 3200000 in
theorem ref10_rightOp (w:World) (o:Pn.Op) (va:Value) (SA:List Nat) (ha:GV caseE 3 w va o.cases SA) :
  Calls Try.prog 55 #[.agg #[.int .i64 o.kind,.int .i64 o.ch,.int .i64 o.n,.int .i64 o.v,va,.bool o.els]] w fun e w'=>e=.returned (.bool (Pn.rightOp o))∧Keeps [] w w':=by
 by_cases hb:1≤o.kind∧o.kind≤9∧0≤o.ch∧o.ch≤8∧0≤o.n∧o.n≤4∧0≤o.v∧o.v≤255∧o.cases.length≤6
 ·by_cases hk:o.kind=1
  ·exact ref10_rightOp_1 w o va SA ha hb hk
  by_cases hv:o.kind=2∨o.kind=4
  ·exact ref10_rightOp_V w o va SA ha hb hv hk
  by_cases hk9:o.kind=9
  ·exact ref10_rightOp_9 w o va SA ha hb hk9
  ·exact ref10_rightOp_C w o va SA ha hb hk hv hk9
 ·exact ref10_rightOp_no w o va SA ha hb
end Go.Proofs.Ytdibmkjoaghafaa
