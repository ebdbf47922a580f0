/-
  What the laws need, part Q25.
  Conditions: none.
-/
import Derived.Test.YtdibmkjoaghafaaQ24
set_option linter.unusedVariables false
set_option linter.unusedSimpArgs false
set_option linter.unnecessarySimpa false
set_option maxHeartbeats 2000000
namespace Go.Proofs.Ytdibmkjoaghafaa
open Go.RowKit
namespace Jg
def nx (a x:Int):Option Int:=if x=0 then some a else if x < a then none else some x
def sts (m:Sx.Mk):List Int:=[m.arrive,m.point,m.re]
def lastTo (m:Sx.Mk):Nat→Option Int
 | 0=>some m.call
 | k + 1=>(lastTo m k).bind fun a=>nx a ((sts m).getD k 0)
theorem steps_of (m:Sx.Mk):steps m=decide ((lastTo m 3).isSome=true∧1≤m.call∧(m.res.code=6→m.point=0∧m.arrive=0)∧(m.res.code≠6→m.re=0∨m.point≠0)):=by
 have key:steps m=true↔((lastTo m 3).isSome=true∧1≤m.call∧(m.res.code=6→m.point=0∧m.arrive=0)∧(m.res.code≠6→m.re=0∨m.point≠0)):=by
  unfold steps;simp only [decide_eq_true_eq];simp only [lastTo,sts,nx,List.getD_cons_zero,List.getD_cons_succ,Option.bind_some]
  by_cases a0:m.arrive=0 <;> by_cases p0:m.point=0 <;> by_cases r0:m.re=0 <;> by_cases a1:m.arrive < m.call <;> by_cases p1:m.point < m.call <;> by_cases p2:m.point < m.arrive <;> by_cases r1:m.re < m.call <;> by_cases r2:m.re < m.arrive <;> by_cases r3:m.re < m.point
  all_goals simp only [a0,p0,r0,a1,p1,p2,r1,r2,r3,if_pos,if_neg,not_false_eq_true,Option.bind_some,Option.bind_none,Option.isSome_some,Option.isSome_none]
  all_goals simp
  all_goals omega
 cases h:steps m with
 | true=>exact (decide_eq_true (key.1 h)).symm
 | false=>exact (decide_eq_false fun q=>by rw [key.2 q] at h;cases h).symm
end Jg
namespace Fl
set_option maxRecDepth 100000
set_option maxHeartbeats 4000000
theorem t_refSteps (m:Sx.Mk):Pure Try.prog 28 [.agg (eM m)] (.c (bI (Jg.steps m))):=by
 rw [Jg.steps_of];refine Con.intro Try.func28 rfl rfl rfl (fun ok e=>?_)
 repeat (first | (refine K.lit ?_;refine JO.ld (Ld.litR (mm:=(Jg.sts m).map fun n=>[nI n]) (qb rfl) rfl rfl rfl rfl rfl rfl (.of (by exact rfl))) rfl (fun _=>?_)) | refine gmQ ?_ | intro _)
 rename_i b1 _;refine J.loop (ι:={ q:Nat × Int // q.1≤3∧Jg.lastTo m q.1=some q.2 }) (fun q=>[(16,.c (nI q.1.1)),(15,.c (nI 3)),(14,.c (.r 1 ((Jg.sts m).map fun n=>[nI n]))),(3,.c (nI q.1.2)),(1,.c (.v (.pointer (some ⟨b1,0,none⟩))))]) (fun q=>[.box b1 52 (eM m)]) (fun q=>3 - q.1.1) ⟨(0,m.call),by omega,rfl⟩ (fun X h=>h.weak ⟨rfl,rfl,rfl,rfl,rfl,trivial⟩) (fun q ih=>?_);obtain ⟨⟨k,a⟩,hk',hla⟩:=q;simp only at hk' ih hla ⊢
 by_cases hk:k < 3
 ·have t1:decide ((k:Int) < 3)=true:=decide_eq_true (by omega);obtain ⟨x,hx⟩:∃ x,(Jg.sts m)[k]?=some x:=⟨_,List.getElem?_eq_getElem hk⟩
  have AX:=s_at (enc:=fun n:Int=>[nI n]) hx;have hn:Jg.lastTo m (k + 1)=Jg.nx a x:=by rw [Jg.lastTo,hla,List.getD_eq_getElem?_getD,hx];rfl
  unfold Jg.nx at hn
  cases t2:(x == 0)
  ·have hx0:¬ x=0:=by simpa using t2
   rw [if_neg hx0] at hn
   cases t3:decide (x < a)
   ·rw [if_neg (by simpa using t3)] at hn
    repeat (refine gn ?_)
    exact (ih ⟨(k + 1,x),by simp only;omega,hn⟩ (by simp only;omega)).weak ⟨rfl,rfl,rfl,rfl,rfl,trivial⟩
   ·rw [if_pos (by simpa using t3)] at hn;have hf:decide ((Jg.lastTo m 3).isSome=true∧1≤m.call∧(m.res.code=6→m.point=0∧m.arrive=0)∧(m.res.code≠6→m.re=0∨m.point≠0))=false:=decide_eq_false fun q=>by
     have key:∀ j,Jg.lastTo m (k + 1 + j)=none:=fun j=>by
      induction j with
      | zero=>exact hn
      | succ j ih=>rw [show k + 1 + (j + 1)=(k + 1 + j) + 1 by omega,Jg.lastTo,ih];rfl
     have:=key (2 - k);rw [show k + 1 + (2 - k)=3 by omega] at this;rw [this] at q
     cases q.1
    rw [hf]
    repeat (refine gn ?_)
    exact rtQ Try.func28
  ·rw [if_pos (by simpa using t2)] at hn
   repeat (refine gn ?_)
   exact (ih ⟨(k + 1,a),by simp only;omega,hn⟩ (by simp only;omega)).weak ⟨rfl,rfl,rfl,rfl,rfl,trivial⟩
 ·obtain rfl:k=3:=by omega
  have t1:decide (((3:Nat):Int) < 3)=false:=rfl;clear ih;rw [hla];simp only [Option.isSome_some,true_and]
  cases t2:decide (m.call < 1)
  ·have c1:1≤m.call:=by have:=of_decide_eq_false t2;omega
   cases t3:(m.res.code == 6)
   ·have c2:¬ m.res.code=6:=by simpa using t3
    have ev:decide (1≤m.call∧(m.res.code=6→m.point=0∧m.arrive=0)∧(m.res.code≠6→m.re=0∨m.point≠0))=((m.re == 0) || (m.point != 0)):=by simp [c1,c2,Bool.decide_or];rfl
    rw [ev]
    cases t4:(m.re == 0)
    all_goals
     repeat (refine gn ?_)
     exact rtQ Try.func28
   ·have c2:m.res.code=6:=by simpa using t3
    have ev:decide (1≤m.call∧(m.res.code=6→m.point=0∧m.arrive=0)∧(m.res.code≠6→m.re=0∨m.point≠0))=((m.point == 0) && (m.arrive == 0)):=by simp [c1,c2,Bool.decide_and];rfl
    rw [ev]
    cases t4:(m.point == 0)
    all_goals
     repeat (refine gn ?_)
     exact rtQ Try.func28
  ·have c1:¬ 1≤m.call:=by have:=of_decide_eq_true t2;omega
   have ev:decide (1≤m.call∧(m.res.code=6→m.point=0∧m.arrive=0)∧(m.res.code≠6→m.re=0∨m.point≠0))=false:=decide_eq_false fun q=>c1 q.1
   rw [ev]
   repeat (refine gn ?_)
   exact rtQ Try.func28
theorem in_noF {p:List (List Pn.Op)} {m:Sx.Mk} (h:¬ (0≤m.g∧m.g < (p.length:Int)∧0≤m.op∧m.op < ((p.getD m.g.toNat []).length:Int))):Jg.inP p m=false:=by
 unfold Jg.inP;exact decide_eq_false h
theorem in_yesF {p:List (List Pn.Op)} {m:Sx.Mk} (h:0≤m.g∧m.g < (p.length:Int)∧0≤m.op∧m.op < ((p.getD m.g.toNat []).length:Int)):Jg.inP p m=true:=by
 unfold Jg.inP;exact decide_eq_true h
theorem t_refFits (p:List (List Pn.Op)) (l:List Sx.Mk) (hs:l.length≤400) (hp:p.length≤400) (hq:∀ ops∈p,ops.length≤1000):Pure Try.prog 8 [.c (opsA p),.c (.r 13 (l.map eM))] (.c (bI (Jg.fits p l))):=by
 refine Con.intro Try.func8 rfl rfl rfl (fun ok e=>?_);have CR:=c_right10 p
 cases hr:Pn.right p
 ·rw [hr] at CR;rw [Jg.fits_no (.inl hr)]
  repeat (first | refine jPQ (CR) ?_ | refine gn ?_)
  exact rtQ Try.func8
 rw [hr] at CR
 by_cases hl:l.length≤128
 case neg =>
  have t1:decide ((l.length:Int) > 128)=true:=decide_eq_true (by omega);rw [Jg.fits_no (.inr (by omega))]
  repeat (first | refine jCQ t1 ?_ | refine jPQ (CR) ?_ | refine gn ?_)
  exact rtQ Try.func8
 have t1:decide ((l.length:Int) > 128)=false:=decide_eq_false (by omega)
 repeat (first | refine jCQ t1 ?_ | refine jPQ (CR) ?_ | refine gn ?_)
 refine J.loop (ι:={ k:Nat // k≤l.length∧∀ m∈l.take k,Jg.good1 p l m=true }) (fun q=>[(21,.c (nI q.1)),(20,.c (nI l.length)),(19,.c (.r 13 (l.map eM))),(1,.c (.r 13 (l.map eM))),(0,.c (opsA p))]) (fun q=>[]) (fun q=>l.length - q.1) ⟨0,Nat.zero_le _,by simp⟩ (fun X h=>h.weak ⟨rfl,rfl,rfl,rfl,rfl,trivial⟩) (fun q ih=>?_);obtain ⟨k,hk',hgd⟩:=q;simp only at hk' ih ⊢
 by_cases hk:k < l.length
 ·have t2:decide ((k:Int) < (l.length:Int))=true:=decide_eq_true (by omega);obtain ⟨m,hm⟩:∃ m,l[k]?=some m:=⟨_,List.getElem?_eq_getElem hk⟩
  have AX:=s_at (enc:=eM) hm;have ST:=t_refSteps m;have GU:∀ X:Bool,Jg.good1 p l m=X→(X=false→Jg.fits p l=false):=fun X h1 h2=>Jg.fits_ungood hm (by rw [h1,h2])
  have gdef:Jg.good1 p l m=(Jg.inP p m && Jg.steps m && decide (Jg.cnt l m.g m.op=1) && (decide (m.op≤0) || (decide (Jg.cnt l m.g (m.op - 1)=1) && Jg.before (Jg.lastOf l m.g (m.op - 1)) m))):=rfl
  by_cases x0:m.g < 0
  ·have g0:decide (m.g < 0)=true:=decide_eq_true x0;rw [GU _ rfl (by rw [gdef,in_noF (by omega)];rfl)]
   repeat (first | (refine K.indexAddr ?_;refine jx rfl rfl rfl rfl (by omega) (AX) ?_) | refine jCQ t2 ?_ | refine gmQ ?_ | intro _)
   refine J.draw (by kernel_rfl) rfl ?_;refine JW.base none ?_;refine tk 0 ?_;refine tk 1 ?_;refine JD.take 2 rfl rfl (by kernel_rfl) rfl (qb rfl) (Qt.cmp rfl rfl (congrArg some g0)) rfl ?_;refine tk 3 ?_
   (refine JD.skip 4 rfl rfl (by kernel_rfl) rfl (qb rfl) ?_)
   (refine JD.skip 5 rfl rfl (by kernel_rfl) rfl (qb rfl) ?_)
   (refine JD.skip 6 rfl rfl (by kernel_rfl) rfl (qb rfl) ?_)
   (refine JD.skip 7 rfl rfl (by kernel_rfl) rfl (qb rfl) ?_)
   (refine JD.skip 8 rfl rfl (by kernel_rfl) rfl (qb rfl) ?_)
   refine tk 9 ?_;refine tk 10 ?_
   (refine JD.skip 11 rfl rfl (by kernel_rfl) rfl (qb rfl) ?_)
   (refine JD.skip 12 rfl rfl (by kernel_rfl) rfl (qb rfl) ?_)
   (refine JD.skip 13 rfl rfl (by kernel_rfl) rfl (qb rfl) ?_)
   refine tk 14 ?_;refine tk 15 ?_
   (refine JD.skip 16 rfl rfl (by kernel_rfl) rfl (qb rfl) ?_)
   (refine JD.skip 17 rfl rfl (by kernel_rfl) rfl (qb rfl) ?_)
   (refine JD.skip 18 rfl rfl (by kernel_rfl) rfl (qb rfl) ?_)
   (refine JD.skip 19 rfl rfl (by kernel_rfl) rfl (qb rfl) ?_)
   (refine JD.skip 20 rfl rfl (by kernel_rfl) rfl (qb rfl) ?_)
   (refine JD.skip 21 rfl rfl (by kernel_rfl) rfl (qb rfl) ?_)
   (refine JD.skip 22 rfl rfl (by kernel_rfl) rfl (qb rfl) ?_)
   (refine JD.skip 23 rfl rfl (by kernel_rfl) rfl (qb rfl) ?_)
   (refine JD.skip 24 rfl rfl (by kernel_rfl) rfl (qb rfl) ?_)
   refine tk 25 ?_;refine tk 26 ?_
   (refine JD.skip 27 rfl rfl (by kernel_rfl) rfl (qb rfl) ?_)
   (refine JD.skip 28 rfl rfl (by kernel_rfl) rfl (qb rfl) ?_)
   (refine JD.skip 29 rfl rfl (by kernel_rfl) rfl (qb rfl) ?_)
   refine tk 30 ?_;refine dnQ ?_
   repeat (refine gn ?_)
   exact rtQ Try.func8
  have g0:decide (m.g < 0)=false:=decide_eq_false x0
  by_cases x1:m.g ≥ (p.length:Int)
  ·have g1:decide (m.g ≥ (p.length:Int))=true:=decide_eq_true x1;rw [GU _ rfl (by rw [gdef,in_noF (by omega)];rfl)]
   repeat (first | (refine K.indexAddr ?_;refine jx rfl rfl rfl rfl (by omega) (AX) ?_) | refine jCQ t2 ?_ | refine gmQ ?_ | intro _)
   refine J.draw (by kernel_rfl) rfl ?_;refine JW.base none ?_;refine tk 0 ?_;refine tk 1 ?_;refine JD.take 2 rfl rfl (by kernel_rfl) rfl (qb rfl) (Qt.cmp rfl rfl (congrArg some g0)) rfl ?_;refine tk 3 ?_;refine tk 4 ?_;refine tk 5 ?_;refine tk 6 ?_;refine tk 7 ?_
   (refine JD.take 8 rfl rfl (by kernel_rfl) rfl (qb rfl) (Qt.cmp rfl rfl (congrArg some g1)) rfl ?_)
   refine tk 9 ?_;refine tk 10 ?_
   (refine JD.skip 11 rfl rfl (by kernel_rfl) rfl (qb rfl) ?_)
   (refine JD.skip 12 rfl rfl (by kernel_rfl) rfl (qb rfl) ?_)
   (refine JD.skip 13 rfl rfl (by kernel_rfl) rfl (qb rfl) ?_)
   refine tk 14 ?_;refine tk 15 ?_
   (refine JD.skip 16 rfl rfl (by kernel_rfl) rfl (qb rfl) ?_)
   (refine JD.skip 17 rfl rfl (by kernel_rfl) rfl (qb rfl) ?_)
   (refine JD.skip 18 rfl rfl (by kernel_rfl) rfl (qb rfl) ?_)
   (refine JD.skip 19 rfl rfl (by kernel_rfl) rfl (qb rfl) ?_)
   (refine JD.skip 20 rfl rfl (by kernel_rfl) rfl (qb rfl) ?_)
   (refine JD.skip 21 rfl rfl (by kernel_rfl) rfl (qb rfl) ?_)
   (refine JD.skip 22 rfl rfl (by kernel_rfl) rfl (qb rfl) ?_)
   (refine JD.skip 23 rfl rfl (by kernel_rfl) rfl (qb rfl) ?_)
   (refine JD.skip 24 rfl rfl (by kernel_rfl) rfl (qb rfl) ?_)
   refine tk 25 ?_;refine tk 26 ?_
   (refine JD.skip 27 rfl rfl (by kernel_rfl) rfl (qb rfl) ?_)
   (refine JD.skip 28 rfl rfl (by kernel_rfl) rfl (qb rfl) ?_)
   (refine JD.skip 29 rfl rfl (by kernel_rfl) rfl (qb rfl) ?_)
   refine tk 30 ?_;refine dnQ ?_
   repeat (refine gn ?_)
   exact rtQ Try.func8
  have g1:decide (m.g ≥ (p.length:Int))=false:=decide_eq_false x1
  by_cases x2:m.op < 0
  ·have g2:decide (m.op < 0)=true:=decide_eq_true x2;rw [GU _ rfl (by rw [gdef,in_noF (by omega)];rfl)]
   repeat (first | (refine K.indexAddr ?_;refine jx rfl rfl rfl rfl (by omega) (AX) ?_) | refine jCQ t2 ?_ | refine gmQ ?_ | intro _)
   refine J.draw (by kernel_rfl) rfl ?_;refine JW.base none ?_;refine tk 0 ?_;refine tk 1 ?_;refine JD.take 2 rfl rfl (by kernel_rfl) rfl (qb rfl) (Qt.cmp rfl rfl (congrArg some g0)) rfl ?_;refine tk 3 ?_;refine tk 4 ?_;refine tk 5 ?_;refine tk 6 ?_;refine tk 7 ?_
   (refine JD.take 8 rfl rfl (by kernel_rfl) rfl (qb rfl) (Qt.cmp rfl rfl (congrArg some g1)) rfl ?_)
   refine tk 9 ?_;refine tk 10 ?_;refine tk 11 ?_;refine tk 12 ?_
   (refine JD.take 13 rfl rfl (by kernel_rfl) rfl (qb rfl) (Qt.cmp rfl rfl (congrArg some g2)) rfl ?_)
   refine tk 14 ?_;refine tk 15 ?_
   (refine JD.skip 16 rfl rfl (by kernel_rfl) rfl (qb rfl) ?_)
   (refine JD.skip 17 rfl rfl (by kernel_rfl) rfl (qb rfl) ?_)
   (refine JD.skip 18 rfl rfl (by kernel_rfl) rfl (qb rfl) ?_)
   (refine JD.skip 19 rfl rfl (by kernel_rfl) rfl (qb rfl) ?_)
   (refine JD.skip 20 rfl rfl (by kernel_rfl) rfl (qb rfl) ?_)
   (refine JD.skip 21 rfl rfl (by kernel_rfl) rfl (qb rfl) ?_)
   (refine JD.skip 22 rfl rfl (by kernel_rfl) rfl (qb rfl) ?_)
   (refine JD.skip 23 rfl rfl (by kernel_rfl) rfl (qb rfl) ?_)
   (refine JD.skip 24 rfl rfl (by kernel_rfl) rfl (qb rfl) ?_)
   refine tk 25 ?_;refine tk 26 ?_
   (refine JD.skip 27 rfl rfl (by kernel_rfl) rfl (qb rfl) ?_)
   (refine JD.skip 28 rfl rfl (by kernel_rfl) rfl (qb rfl) ?_)
   (refine JD.skip 29 rfl rfl (by kernel_rfl) rfl (qb rfl) ?_)
   refine tk 30 ?_;refine dnQ ?_
   repeat (refine gn ?_)
   exact rtQ Try.func8
  have g2:decide (m.op < 0)=false:=decide_eq_false x2;obtain ⟨ops,ho⟩:∃ ops,p[m.g.toNat]?=some ops:=⟨_,List.getElem?_eq_getElem (by omega)⟩
  have z0:0≤m.g:=by omega
  have ed:p.getD m.g.toNat []=ops:=by rw [List.getD_eq_getElem?_getD,ho];rfl
  have AP:(p.map fun ops=>[A.r 6 (ops.map eOp)])[m.g.toNat]?=some [A.r 6 (ops.map eOp)]:=by rw [List.getElem?_map,ho];rfl
  by_cases x3:m.op ≥ (ops.length:Int)
  ·have g3:decide (m.op ≥ (ops.length:Int))=true:=decide_eq_true x3;rw [GU _ rfl (by rw [gdef,in_noF (by rw [ed];omega)];rfl)]
   repeat (first | (refine K.indexAddr ?_;refine jx rfl rfl rfl rfl (by omega) (AX) ?_) | refine jCQ t2 ?_ | refine gmQ ?_ | intro _)
   refine J.draw (by kernel_rfl) rfl ?_;refine JW.base none ?_;refine tk 0 ?_;refine tk 1 ?_;refine JD.take 2 rfl rfl (by kernel_rfl) rfl (qb rfl) (Qt.cmp rfl rfl (congrArg some g0)) rfl ?_;refine tk 3 ?_;refine tk 4 ?_;refine tk 5 ?_;refine tk 6 ?_;refine tk 7 ?_
   (refine JD.take 8 rfl rfl (by kernel_rfl) rfl (qb rfl) (Qt.cmp rfl rfl (congrArg some g1)) rfl ?_)
   refine tk 9 ?_;refine tk 10 ?_;refine tk 11 ?_;refine tk 12 ?_
   (refine JD.take 13 rfl rfl (by kernel_rfl) rfl (qb rfl) (Qt.cmp rfl rfl (congrArg some g2)) rfl ?_)
   refine tk 14 ?_;refine tk 15 ?_;refine tk 16 ?_;refine tk 17 ?_;refine tk 18 ?_;refine tk 19 ?_;refine tk 20 ?_
   (refine JD.take 21 rfl rfl (by kernel_rfl) rfl (qb rfl) (Qt.indexR rfl rfl z0 AP) rfl ?_)
   refine tk 22 ?_;refine tk 23 ?_
   (refine JD.take 24 rfl rfl (by kernel_rfl) rfl (qb rfl) (Qt.cmp rfl rfl (congrArg some g3)) rfl ?_)
   refine tk 25 ?_;refine tk 26 ?_
   (refine JD.skip 27 rfl rfl (by kernel_rfl) rfl (qb rfl) ?_)
   (refine JD.skip 28 rfl rfl (by kernel_rfl) rfl (qb rfl) ?_)
   (refine JD.skip 29 rfl rfl (by kernel_rfl) rfl (qb rfl) ?_)
   refine tk 30 ?_;refine dnQ ?_
   repeat (refine gn ?_)
   exact rtQ Try.func8
  have g3:decide (m.op ≥ (ops.length:Int))=false:=decide_eq_false x3;have hin:Jg.inP p m=true:=in_yesF (by rw [ed];omega);rw [hin,Bool.true_and] at gdef
  cases hst:Jg.steps m
  ·rw [hst] at ST gdef;rw [GU _ rfl (by rw [gdef];rfl)]
   repeat (first | (refine K.indexAddr ?_;refine jx rfl rfl rfl rfl (by omega) (AX) ?_) | refine jCQ t2 ?_ | refine gmQ ?_ | intro _)
   refine J.draw (by kernel_rfl) rfl ?_;refine JW.base none ?_;refine tk 0 ?_;refine tk 1 ?_;refine JD.take 2 rfl rfl (by kernel_rfl) rfl (qb rfl) (Qt.cmp rfl rfl (congrArg some g0)) rfl ?_;refine tk 3 ?_;refine tk 4 ?_;refine tk 5 ?_;refine tk 6 ?_;refine tk 7 ?_
   (refine JD.take 8 rfl rfl (by kernel_rfl) rfl (qb rfl) (Qt.cmp rfl rfl (congrArg some g1)) rfl ?_)
   refine tk 9 ?_;refine tk 10 ?_;refine tk 11 ?_;refine tk 12 ?_
   (refine JD.take 13 rfl rfl (by kernel_rfl) rfl (qb rfl) (Qt.cmp rfl rfl (congrArg some g2)) rfl ?_)
   refine tk 14 ?_;refine tk 15 ?_;refine tk 16 ?_;refine tk 17 ?_;refine tk 18 ?_;refine tk 19 ?_;refine tk 20 ?_
   (refine JD.take 21 rfl rfl (by kernel_rfl) rfl (qb rfl) (Qt.indexR rfl rfl z0 AP) rfl ?_)
   refine tk 22 ?_;refine tk 23 ?_
   (refine JD.take 24 rfl rfl (by kernel_rfl) rfl (qb rfl) (Qt.cmp rfl rfl (congrArg some g3)) rfl ?_)
   refine tk 25 ?_;refine tk 26 ?_;refine tk 27 ?_;refine jl 28 rfl rfl rfl rfl (Ld.pure (ST) (qb rfl) rfl (by repeat (first | exact LeDs.nil | refine LeDs.cons (LeD.agg (by repeat (first | exact .nil | refine .cons .refl ?_))) ?_))) .none (fun _=>?_);refine tk 29 ?_;refine jk 30 rfl rfl rfl rfl (Qt.pick rfl rfl) ?_;refine dnQ ?_
   repeat (refine gn ?_)
   exact rtQ Try.func8
  rw [hst] at ST;rw [hst,Bool.true_and] at gdef;have C1:=t_find l m.g m.op hs;have hc1:=Jg.cnt_le l m.g m.op
  cases y1:(((Jg.cnt l m.g m.op:Nat):Int) != 1)
  case true =>
   have y1':¬ Jg.cnt l m.g m.op=1:=fun e=>by rw [e] at y1;cases y1
   rw [GU _ rfl (by rw [gdef,decide_eq_false y1'];rfl)]
   repeat (first | (refine K.indexAddr ?_;refine jx rfl rfl rfl rfl (by omega) (AX) ?_) | refine jCQ t2 ?_ | refine gmQ ?_ | intro _)
   refine J.draw (by kernel_rfl) rfl ?_;refine JW.base none ?_;refine tk 0 ?_;refine tk 1 ?_;refine JD.take 2 rfl rfl (by kernel_rfl) rfl (qb rfl) (Qt.cmp rfl rfl (congrArg some g0)) rfl ?_;refine tk 3 ?_;refine tk 4 ?_;refine tk 5 ?_;refine tk 6 ?_;refine tk 7 ?_
   (refine JD.take 8 rfl rfl (by kernel_rfl) rfl (qb rfl) (Qt.cmp rfl rfl (congrArg some g1)) rfl ?_)
   refine tk 9 ?_;refine tk 10 ?_;refine tk 11 ?_;refine tk 12 ?_
   (refine JD.take 13 rfl rfl (by kernel_rfl) rfl (qb rfl) (Qt.cmp rfl rfl (congrArg some g2)) rfl ?_)
   refine tk 14 ?_;refine tk 15 ?_;refine tk 16 ?_;refine tk 17 ?_;refine tk 18 ?_;refine tk 19 ?_;refine tk 20 ?_
   (refine JD.take 21 rfl rfl (by kernel_rfl) rfl (qb rfl) (Qt.indexR rfl rfl z0 AP) rfl ?_)
   refine tk 22 ?_;refine tk 23 ?_
   (refine JD.take 24 rfl rfl (by kernel_rfl) rfl (qb rfl) (Qt.cmp rfl rfl (congrArg some g3)) rfl ?_)
   refine tk 25 ?_;refine tk 26 ?_;refine tk 27 ?_;refine jl 28 rfl rfl rfl rfl (Ld.pure (ST) (qb rfl) rfl (by repeat (first | exact LeDs.nil | refine LeDs.cons (LeD.agg (by repeat (first | exact .nil | refine .cons .refl ?_))) ?_))) .none (fun _=>?_);refine tk 29 ?_;refine jk 30 rfl rfl rfl rfl (Qt.pick rfl rfl) ?_;refine dnQ ?_
   repeat (first | refine jCQ y1 ?_ | refine jPQ (C1) ?_ | refine gmQ ?_ | intro _)
   exact rtQ Try.func8
  have y1':Jg.cnt l m.g m.op=1:=by simp at y1;omega
  rw [decide_eq_true y1',Bool.true_and] at gdef;have next:Jg.good1 p l m=true→∀ x∈l.take (k + 1),Jg.good1 p l x=true:=fun h x hx=>by
   rw [List.take_add_one,hm] at hx;rcases List.mem_append.1 hx with hx | hx
   ·exact hgd x hx
   ·have:x=m:=by simpa using hx
    rw [this];exact h
  cases y2:decide (m.op > 0)
  ·have y2':m.op≤0:=by have:=of_decide_eq_false y2;omega
   have hg1:Jg.good1 p l m=true:=by rw [gdef,decide_eq_true y2'];rfl
   repeat (first | (refine K.indexAddr ?_;refine jx rfl rfl rfl rfl (by omega) (AX) ?_) | refine jCQ t2 ?_ | refine gmQ ?_ | intro _)
   refine J.draw (by kernel_rfl) rfl ?_;refine JW.base none ?_;refine tk 0 ?_;refine tk 1 ?_;refine JD.take 2 rfl rfl (by kernel_rfl) rfl (qb rfl) (Qt.cmp rfl rfl (congrArg some g0)) rfl ?_;refine tk 3 ?_;refine tk 4 ?_;refine tk 5 ?_;refine tk 6 ?_;refine tk 7 ?_
   (refine JD.take 8 rfl rfl (by kernel_rfl) rfl (qb rfl) (Qt.cmp rfl rfl (congrArg some g1)) rfl ?_)
   refine tk 9 ?_;refine tk 10 ?_;refine tk 11 ?_;refine tk 12 ?_
   (refine JD.take 13 rfl rfl (by kernel_rfl) rfl (qb rfl) (Qt.cmp rfl rfl (congrArg some g2)) rfl ?_)
   refine tk 14 ?_;refine tk 15 ?_;refine tk 16 ?_;refine tk 17 ?_;refine tk 18 ?_;refine tk 19 ?_;refine tk 20 ?_
   (refine JD.take 21 rfl rfl (by kernel_rfl) rfl (qb rfl) (Qt.indexR rfl rfl z0 AP) rfl ?_)
   refine tk 22 ?_;refine tk 23 ?_
   (refine JD.take 24 rfl rfl (by kernel_rfl) rfl (qb rfl) (Qt.cmp rfl rfl (congrArg some g3)) rfl ?_)
   refine tk 25 ?_;refine tk 26 ?_;refine tk 27 ?_;refine jl 28 rfl rfl rfl rfl (Ld.pure (ST) (qb rfl) rfl (by repeat (first | exact LeDs.nil | refine LeDs.cons (LeD.agg (by repeat (first | exact .nil | refine .cons .refl ?_))) ?_))) .none (fun _=>?_);refine tk 29 ?_;refine jk 30 rfl rfl rfl rfl (Qt.pick rfl rfl) ?_;refine dnQ ?_
   repeat (first | (refine K.binOp ?_;first | refine jCQ y1 ?_ | refine jCQ y2 ?_ | refine jq rfl rfl rfl (Qt.ari rfl rfl rfl (w64 (by omega) (by omega))) ?_) | refine jPQ (C1) ?_ | refine gmQ ?_ | intro _)
   refine J.dropN 0 ?_;refine J.dropN 0 ?_;exact (ih ⟨k + 1,by omega,next hg1⟩ (by simp only;omega)).weak ⟨rfl,rfl,rfl,rfl,rfl,trivial⟩
  have y2':¬ m.op≤0:=by have:=of_decide_eq_true y2;omega
  rw [decide_eq_false y2',Bool.false_or] at gdef;have hq':=hq ops (List.mem_of_getElem? ho);have w1:IntKind.i64.wrap (m.op - 1)=m.op - 1:=w64 (by omega) (by omega);have C2:=t_find l m.g (m.op - 1) hs;have hc2:=Jg.cnt_le l m.g (m.op - 1);have bdef:Jg.before (Jg.lastOf l m.g (m.op - 1)) m=(! ((Jg.lastOf l m.g (m.op - 1)).re == 0) && ! decide ((Jg.lastOf l m.g (m.op - 1)).re ≥ m.call)):=by
   unfold Jg.before;generalize Jg.lastOf l m.g (m.op - 1)=z
   by_cases e1:z.re=0
   ·simp [e1]
   ·by_cases e2:z.re < m.call
    ·have e3:¬ m.call≤z.re:=by omega
     simp [e1,e2,e3]
    ·have e3:m.call≤z.re:=by omega
     simp [e1,e2,e3]
  rw [bdef] at gdef
  cases y3:(((Jg.cnt l m.g (m.op - 1):Nat):Int) != 1)
  case true =>
   have y3':¬ Jg.cnt l m.g (m.op - 1)=1:=fun e=>by rw [e] at y3;cases y3
   rw [GU _ rfl (by rw [gdef,decide_eq_false y3'];rfl)]
   repeat (first | (refine K.indexAddr ?_;refine jx rfl rfl rfl rfl (by omega) (AX) ?_) | refine jCQ t2 ?_ | refine gmQ ?_ | intro _)
   refine J.draw (by kernel_rfl) rfl ?_;refine JW.base none ?_;refine tk 0 ?_;refine tk 1 ?_;refine JD.take 2 rfl rfl (by kernel_rfl) rfl (qb rfl) (Qt.cmp rfl rfl (congrArg some g0)) rfl ?_;refine tk 3 ?_;refine tk 4 ?_;refine tk 5 ?_;refine tk 6 ?_;refine tk 7 ?_
   (refine JD.take 8 rfl rfl (by kernel_rfl) rfl (qb rfl) (Qt.cmp rfl rfl (congrArg some g1)) rfl ?_)
   refine tk 9 ?_;refine tk 10 ?_;refine tk 11 ?_;refine tk 12 ?_
   (refine JD.take 13 rfl rfl (by kernel_rfl) rfl (qb rfl) (Qt.cmp rfl rfl (congrArg some g2)) rfl ?_)
   refine tk 14 ?_;refine tk 15 ?_;refine tk 16 ?_;refine tk 17 ?_;refine tk 18 ?_;refine tk 19 ?_;refine tk 20 ?_
   (refine JD.take 21 rfl rfl (by kernel_rfl) rfl (qb rfl) (Qt.indexR rfl rfl z0 AP) rfl ?_)
   refine tk 22 ?_;refine tk 23 ?_
   (refine JD.take 24 rfl rfl (by kernel_rfl) rfl (qb rfl) (Qt.cmp rfl rfl (congrArg some g3)) rfl ?_)
   refine tk 25 ?_;refine tk 26 ?_;refine tk 27 ?_;refine jl 28 rfl rfl rfl rfl (Ld.pure (ST) (qb rfl) rfl (by repeat (first | exact LeDs.nil | refine LeDs.cons (LeD.agg (by repeat (first | exact .nil | refine .cons .refl ?_))) ?_))) .none (fun _=>?_);refine tk 29 ?_;refine jk 30 rfl rfl rfl rfl (Qt.pick rfl rfl) ?_;refine dnQ ?_
   repeat (first | (refine K.binOp ?_;first | refine jCQ y1 ?_ | refine jCQ y2 ?_ | refine jCQ y3 ?_ | refine jq rfl rfl rfl (Qt.ari rfl rfl rfl w1) ?_) | refine jPQ (C1) ?_ | refine jPQ (C2) ?_ | refine gmQ ?_ | intro _)
   exact rtQ Try.func8
  have y3':Jg.cnt l m.g (m.op - 1)=1:=by simp at y3;omega
  rw [decide_eq_true y3',Bool.true_and] at gdef;generalize Jg.lastOf l m.g (m.op - 1)=z at gdef C2
  cases y4:(z.re == 0)
  case true =>
   rw [GU _ rfl (by rw [gdef,y4];rfl)]
   repeat (first | (refine K.indexAddr ?_;refine jx rfl rfl rfl rfl (by omega) (AX) ?_) | refine jCQ t2 ?_ | refine gmQ ?_ | intro _)
   refine J.draw (by kernel_rfl) rfl ?_;refine JW.base none ?_;refine tk 0 ?_;refine tk 1 ?_;refine JD.take 2 rfl rfl (by kernel_rfl) rfl (qb rfl) (Qt.cmp rfl rfl (congrArg some g0)) rfl ?_;refine tk 3 ?_;refine tk 4 ?_;refine tk 5 ?_;refine tk 6 ?_;refine tk 7 ?_
   (refine JD.take 8 rfl rfl (by kernel_rfl) rfl (qb rfl) (Qt.cmp rfl rfl (congrArg some g1)) rfl ?_)
   refine tk 9 ?_;refine tk 10 ?_;refine tk 11 ?_;refine tk 12 ?_
   (refine JD.take 13 rfl rfl (by kernel_rfl) rfl (qb rfl) (Qt.cmp rfl rfl (congrArg some g2)) rfl ?_)
   refine tk 14 ?_;refine tk 15 ?_;refine tk 16 ?_;refine tk 17 ?_;refine tk 18 ?_;refine tk 19 ?_;refine tk 20 ?_
   (refine JD.take 21 rfl rfl (by kernel_rfl) rfl (qb rfl) (Qt.indexR rfl rfl z0 AP) rfl ?_)
   refine tk 22 ?_;refine tk 23 ?_
   (refine JD.take 24 rfl rfl (by kernel_rfl) rfl (qb rfl) (Qt.cmp rfl rfl (congrArg some g3)) rfl ?_)
   refine tk 25 ?_;refine tk 26 ?_;refine tk 27 ?_;refine jl 28 rfl rfl rfl rfl (Ld.pure (ST) (qb rfl) rfl (by repeat (first | exact LeDs.nil | refine LeDs.cons (LeD.agg (by repeat (first | exact .nil | refine .cons .refl ?_))) ?_))) .none (fun _=>?_);refine tk 29 ?_;refine jk 30 rfl rfl rfl rfl (Qt.pick rfl rfl) ?_;refine dnQ ?_
   repeat (first | (refine K.binOp ?_;first | refine jCQ y1 ?_ | refine jCQ y2 ?_ | refine jCQ y3 ?_ | refine jCQ y4 ?_ | refine jq rfl rfl rfl (Qt.ari rfl rfl rfl w1) ?_) | refine jPQ (C1) ?_ | refine jPQ (C2) ?_ | refine gmQ ?_ | intro _)
   exact rtQ Try.func8
  cases y5:decide (z.re ≥ m.call)
  case true =>
   rw [GU _ rfl (by rw [gdef,y5,Bool.not_true,Bool.and_false])]
   repeat (first | (refine K.indexAddr ?_;refine jx rfl rfl rfl rfl (by omega) (AX) ?_) | refine jCQ t2 ?_ | refine gmQ ?_ | intro _)
   refine J.draw (by kernel_rfl) rfl ?_;refine JW.base none ?_;refine tk 0 ?_;refine tk 1 ?_;refine JD.take 2 rfl rfl (by kernel_rfl) rfl (qb rfl) (Qt.cmp rfl rfl (congrArg some g0)) rfl ?_;refine tk 3 ?_;refine tk 4 ?_;refine tk 5 ?_;refine tk 6 ?_;refine tk 7 ?_
   (refine JD.take 8 rfl rfl (by kernel_rfl) rfl (qb rfl) (Qt.cmp rfl rfl (congrArg some g1)) rfl ?_)
   refine tk 9 ?_;refine tk 10 ?_;refine tk 11 ?_;refine tk 12 ?_
   (refine JD.take 13 rfl rfl (by kernel_rfl) rfl (qb rfl) (Qt.cmp rfl rfl (congrArg some g2)) rfl ?_)
   refine tk 14 ?_;refine tk 15 ?_;refine tk 16 ?_;refine tk 17 ?_;refine tk 18 ?_;refine tk 19 ?_;refine tk 20 ?_
   (refine JD.take 21 rfl rfl (by kernel_rfl) rfl (qb rfl) (Qt.indexR rfl rfl z0 AP) rfl ?_)
   refine tk 22 ?_;refine tk 23 ?_
   (refine JD.take 24 rfl rfl (by kernel_rfl) rfl (qb rfl) (Qt.cmp rfl rfl (congrArg some g3)) rfl ?_)
   refine tk 25 ?_;refine tk 26 ?_;refine tk 27 ?_;refine jl 28 rfl rfl rfl rfl (Ld.pure (ST) (qb rfl) rfl (by repeat (first | exact LeDs.nil | refine LeDs.cons (LeD.agg (by repeat (first | exact .nil | refine .cons .refl ?_))) ?_))) .none (fun _=>?_);refine tk 29 ?_;refine jk 30 rfl rfl rfl rfl (Qt.pick rfl rfl) ?_;refine dnQ ?_
   repeat (first | (refine K.binOp ?_;first | refine jCQ y1 ?_ | refine jCQ y2 ?_ | refine jCQ y3 ?_ | refine jCQ y4 ?_ | refine jCQ y5 ?_ | refine jq rfl rfl rfl (Qt.ari rfl rfl rfl w1) ?_) | refine jPQ (C1) ?_ | refine jPQ (C2) ?_ | refine gmQ ?_ | intro _)
   exact rtQ Try.func8
  have hg1:Jg.good1 p l m=true:=by rw [gdef,y4,y5];rfl
  repeat (first | (refine K.indexAddr ?_;refine jx rfl rfl rfl rfl (by omega) (AX) ?_) | refine jCQ t2 ?_ | refine gmQ ?_ | intro _)
  refine J.draw (by kernel_rfl) rfl ?_;refine JW.base none ?_;refine tk 0 ?_;refine tk 1 ?_;refine JD.take 2 rfl rfl (by kernel_rfl) rfl (qb rfl) (Qt.cmp rfl rfl (congrArg some g0)) rfl ?_;refine tk 3 ?_;refine tk 4 ?_;refine tk 5 ?_;refine tk 6 ?_;refine tk 7 ?_
  (refine JD.take 8 rfl rfl (by kernel_rfl) rfl (qb rfl) (Qt.cmp rfl rfl (congrArg some g1)) rfl ?_)
  refine tk 9 ?_;refine tk 10 ?_;refine tk 11 ?_;refine tk 12 ?_
  (refine JD.take 13 rfl rfl (by kernel_rfl) rfl (qb rfl) (Qt.cmp rfl rfl (congrArg some g2)) rfl ?_)
  refine tk 14 ?_;refine tk 15 ?_;refine tk 16 ?_;refine tk 17 ?_;refine tk 18 ?_;refine tk 19 ?_;refine tk 20 ?_
  (refine JD.take 21 rfl rfl (by kernel_rfl) rfl (qb rfl) (Qt.indexR rfl rfl z0 AP) rfl ?_)
  refine tk 22 ?_;refine tk 23 ?_
  (refine JD.take 24 rfl rfl (by kernel_rfl) rfl (qb rfl) (Qt.cmp rfl rfl (congrArg some g3)) rfl ?_)
  refine tk 25 ?_;refine tk 26 ?_;refine tk 27 ?_;refine jl 28 rfl rfl rfl rfl (Ld.pure (ST) (qb rfl) rfl (by repeat (first | exact LeDs.nil | refine LeDs.cons (LeD.agg (by repeat (first | exact .nil | refine .cons .refl ?_))) ?_))) .none (fun _=>?_);refine tk 29 ?_;refine jk 30 rfl rfl rfl rfl (Qt.pick rfl rfl) ?_;refine dnQ ?_
  repeat (first | (refine K.binOp ?_;first | refine jCQ y1 ?_ | refine jCQ y2 ?_ | refine jCQ y3 ?_ | refine jCQ y4 ?_ | refine jCQ y5 ?_ | refine jq rfl rfl rfl (Qt.ari rfl rfl rfl w1) ?_ | refine jq rfl rfl rfl (Qt.ari rfl rfl rfl (w64 (by omega) (by omega))) ?_) | refine jPQ (C1) ?_ | refine jPQ (C2) ?_ | refine gmQ ?_ | intro _)
  refine J.dropN 0 ?_;refine J.dropN 0 ?_;refine J.dropN 0 ?_;exact (ih ⟨k + 1,by omega,next hg1⟩ (by simp only;omega)).weak ⟨rfl,rfl,rfl,rfl,rfl,trivial⟩
 ·obtain rfl:k=l.length:=by omega
  have t2:decide ((l.length:Int) < (l.length:Int))=false:=decide_eq_false (by omega);rw [Jg.fits_goods hr hl (by rw [List.take_length] at hgd;exact hgd)]
  repeat (first | refine jCQ t2 ?_ | refine gn ?_)
  exact rtQ Try.func8
end Fl
open Go.RowKit
namespace Fl
def okOp (b i:Nat) (o:Oper):Bool :=
 (o.dst == some (b + i)) && (match o.op with | .select ..=>false | _=>true) && (o.after.toList.all fun e=>!Region.binds .any e || decide (e.on < i)) &&
 (o.op.operands.toList.all fun | .tmp t=>decide (t < b) || o.after.toList.any (fun e=>Region.binds .any e && (b + e.on == t)) | _=>true) &&
 (match o.guard with | some (g,_)=>o.after.toList.any (fun e=>Region.binds .any e && (e.on == g)) | none=>true)
def okFrom (b:Nat):Nat→List Oper→Bool
 | _,[]=>true
 | i,o :: l=>okOp b i o && okFrom b (i + 1) l
theorem okFrom.at {b:Nat}:∀ {l:List Oper} {i:Nat},okFrom b i l=true→∀ {j:Nat} {o:Oper},l[j]?=some o→okOp b (i + j) o=true
 | [],_,_,_,_,h=>by simp at h
 | x :: l,i,h,j,o,hj=>by
  unfold okFrom at h;rw [Bool.and_eq_true] at h
  cases j with
  | zero=>simp at hj;subst hj;exact h.1
  | succ j =>
   have:=okFrom.at h.2 (j:=j) (o:=o) (by simpa using hj);rw [show i + (j + 1)=i + 1 + j by omega];exact this
section
variable {ops:Array Oper} {b i:Nat} {listed:Array Bool}
theorem okOp.dst {o:Oper} (h:okOp b i o=true):o.dst=some (b + i):=by
 unfold okOp at h;simp only [Bool.and_eq_true] at h;simpa using h.1.1.1.1
theorem okOp.looks (H:okFrom b 0 ops.toList=true) {o:Oper} (hi:ops[i]?=some o) {t:Nat} (ht:t∈o.looksAt ops) :
  t < b∨∃ e∈o.after,Region.binds .any e=true∧e.on < i∧b + e.on=t:=by
 have h:=okFrom.at H (j:=i) (o:=o) (by simpa using hi);rw [Nat.zero_add] at h;unfold okOp at h;simp only [Bool.and_eq_true] at h;obtain ⟨⟨⟨⟨_,_⟩,h3⟩,h4⟩,h5⟩:=h;have lt:∀ e∈o.after.toList,Region.binds .any e=true→e.on < i:=fun e he hb=>by
  have:=List.all_eq_true.1 h3 e he;simpa [hb] using this
 unfold Oper.looksAt at ht;rw [List.mem_append] at ht;rcases ht with ht | ht
 ·obtain ⟨x,hx,hxt⟩:=List.mem_filterMap.1 ht;have hq:=List.all_eq_true.1 h4 x hx
  cases x with
  | tmp u =>
   simp only [Option.some.injEq] at hxt;subst hxt;simp only [Bool.or_eq_true,decide_eq_true_iff] at hq;rcases hq with hq | hq
   ·exact .inl hq
   ·obtain ⟨e,he,hb⟩:=List.any_eq_true.1 hq;simp only [Bool.and_eq_true,beq_iff_eq] at hb;exact .inr ⟨e,by simpa using he,hb.1,lt e he hb.1,hb.2⟩
  | _=>simp at hxt
 ·cases hg:o.guard with
  | none=>rw [hg] at ht;simp at ht
  | some p =>
   obtain ⟨g,w⟩:=p;rw [hg] at ht h5;simp only at ht h5;obtain ⟨e,he,hb⟩:=List.any_eq_true.1 h5;simp only [Bool.and_eq_true,beq_iff_eq] at hb
   cases hog:ops[g]? with
   | none=>rw [hog] at ht;simp at ht
   | some og =>
    have:=okOp.dst (okFrom.at H (j:=g) (o:=og) (by simpa using hog));rw [hog] at ht;simp [this] at ht;exact .inr ⟨e,by simpa using he,hb.1,lt e he hb.1,by omega⟩
theorem okTake_of (H:okFrom b 0 ops.toList=true) (hl:∀ j,j < ops.size→listed[j]?=some (decide (j < i))) (hi:i < ops.size):okTake .any ops none listed i=true:=by
 have gd:∀ j (x:Bool),j < ops.size→listed.getD j x=decide (j < i):=fun j x hj=>by rw [Array.getD_eq_getD_getElem?,hl j hj];rfl
 have at_:∀ j,j < ops.size→∃ o,ops[j]?=some o:=fun j hj=>⟨_,Array.getElem?_eq_getElem hj⟩
 have ok:∀ j o,ops[j]?=some o→okOp b j o=true:=fun j o ho=>by
  have:=okFrom.at H (j:=j) (o:=o) (by simpa using ho)
  rwa [Nat.zero_add] at this
 unfold okTake;simp only [Bool.and_eq_true];refine ⟨⟨⟨?_,?_⟩,?_⟩,rfl⟩
 ·unfold Region.noSelect;rw [Array.all_eq_true_iff_forall_mem];intro o ho;obtain ⟨j,hj⟩:=Array.getElem?_of_mem ho;have:=ok j o hj;unfold okOp at this;simp only [Bool.and_eq_true] at this;exact this.1.1.1.2
 ·obtain ⟨oi,hoi⟩:=at_ i hi;unfold Region.free;rw [hoi];simp only;rw [List.all_eq_true];intro j hj;have hj:=List.mem_range.1 hj;obtain ⟨oj,hoj⟩:=at_ j hj;rw [hoj,gd j true hj]
  by_cases h1:j≤i
  ·rcases Nat.lt_or_eq_of_le h1 with h | h
   ·simp [h]
   ·simp [h]
  ·simp only [Bool.or_eq_true]
   by_cases h2:∃ e∈oj.after,Region.binds .any e=true∧e.on=i
   ·obtain ⟨e,he,hb,ho⟩:=h2;refine .inr (.inl (Array.any_eq_true'.2 ⟨e,he,by simp [hb,ho]⟩))
   ·refine .inr (.inr ?_);have d1:=okOp.dst (ok i oi hoi);have d2:=okOp.dst (ok j oj hoj);unfold Oper.apart;simp only [d1,d2,Bool.and_eq_true,Bool.not_eq_true',bne_iff_ne,ne_eq,Option.some.injEq];refine ⟨⟨?_,by omega⟩,?_⟩
    ·rw [← Bool.not_eq_true,List.contains_iff_mem];intro hm;rcases okOp.looks H hoj hm with h | ⟨e,he,hb,_,ho⟩
     ·omega
     ·exact h2 ⟨e,he,hb,by omega⟩
    ·rw [← Bool.not_eq_true,List.contains_iff_mem];intro hm;rcases okOp.looks H hoi hm with h | ⟨e,he,hb,hlt,ho⟩ <;> omega
 ·rw [List.contains_iff_mem];refine List.mem_filter.2 ⟨List.mem_range.2 hi,?_⟩;obtain ⟨oi,hoi⟩:=at_ i hi;rw [hoi,gd i true hi];have:=ok i oi hoi;unfold okOp at this;simp only [Bool.and_eq_true] at this;have h3:=this.1.1.2;simp only [Nat.lt_irrefl,decide_false,Bool.not_false,Bool.true_and,Option.map_some,Option.getD_some];rw [Array.all_eq_true_iff_forall_mem];intro e he;have:=List.all_eq_true.1 h3 e (by simpa using he);simp only [Bool.or_eq_true,decide_eq_true_iff] at this ⊢;rcases this with h | h
  ·exact .inl h
  ·refine .inr ?_;rw [gd e.on false (by omega)];exact decide_eq_true h
end
section
variable (P:Program) (c:Cx)
structure JLk (b:Nat) (ops:Array Oper) (i:Nat) (l:List Oper) (k:List Item) (f:Fm) (L:List Res):Prop where
 go:okFrom b 0 ops.toList=true→∀ listed:Array Bool,listed.size=ops.size→(∀ j,j < ops.size→listed[j]?=some (decide (j < i)))→ops.toList.drop i=l→JD P c ops none [] l.length listed k f L f L
end
section
variable {P:Program} {c:Cx} {k:List Item} {f:Fm} {L:List Res} {ops:Array Oper} {l:List Oper} {o:Oper} {b i t:Nat}
theorem J.look {id:Nat} (b:Nat) (hm:P.follows .mixedOrders=true) (hb:okFrom b 0 l=true) (h:JLk P c b l.toArray 0 l k f L) (hd:ndf c l=true:=by rfl):J P c (.code (.region id l.toArray true) :: k) f L :=
 J.draw hm rfl (JW.base none (h.go (by simpa using hb) _ (by simp) (fun j hj=>by simp at hj;simp [hj]) rfl)) hd
theorem lst_set {listed:Array Bool} (hs:listed.size=ops.size) (hl:∀ j,j < ops.size→listed[j]?=some (decide (j < i))):∀ j,j < ops.size→(listed.setIfInBounds i true)[j]?=some (decide (j < i + 1)):=fun j hj=>by
 rw [Array.getElem?_setIfInBounds]
 by_cases h:i=j
 ·subst h;simp [hs,hj]
 ·rw [if_neg h,hl j hj]
  congr 1
  exact decide_eq_decide.2 (by omega)
theorem drop_cons (h:ops.toList.drop i=o :: l):ops[i]?=some o∧ops.toList.drop (i + 1)=l∧i < ops.size:=by
 have h1:ops.toList[i]?=some o:=by rw [← List.head?_drop,h];rfl
 refine ⟨by simpa using h1,?_,?_⟩
 ·rw [← List.tail_drop,h];rfl
 ·have:=(List.getElem?_eq_some_iff.1 h1).1;simpa using this
theorem JLk.q {d:D} {U:List Nat} (hd:o.dst=some t) (hw:Wants ops o f=true) (ht:t < c.N) (q:Qt P c U o f L d) (h:JLk P c b ops (i + 1) l k ((t,d) :: f) L):JLk P c b ops i (o :: l) k f L:=⟨fun H listed hs hl hdr=>by
 obtain ⟨h1,h2,h3⟩:=drop_cons hdr;exact JD.take i h1 hd (okTake_of H hl h3) hw ht q (by simp) (h.go H _ (by simpa using hs) (lst_set hs hl) h2)⟩
theorem JLk.no (hd:o.dst=some t) (hw:Wants0 ops o f=true) (ht:t < c.N) (h:JLk P c b ops (i + 1) l k ((t,.tup []) :: f) L):JLk P c b ops i (o :: l) k f L:=⟨fun H listed hs hl hdr=>by
 obtain ⟨h1,h2,h3⟩:=drop_cons hdr;exact JD.skip i h1 hd (okTake_of H hl h3) hw ht (h.go H _ (by simpa using hs) (lst_set hs hl) h2)⟩
theorem JLk.nil (h:J P c k f L):JLk P c b ops i [] k f L:=⟨fun H listed hs hl hdr=>by
 refine JD.done ?_ h;unfold Region.ready;rw [List.filter_eq_nil_iff];intro j hj;have hj:=List.mem_range.1 hj;have:ops.toList.length≤i:=List.drop_eq_nil_iff.1 hdr;have hi:j < i:=by simp at this;omega
 rw [Array.getD_eq_getD_getElem?,hl j hj];simp [hi]⟩
end
end Fl
open Go.RowKit
namespace Fl
set_option maxRecDepth 100000
set_option maxHeartbeats 4000000
section
variable {P:Program} {c:Cx} {f:Fm} {L:List Res} {T:TypeId} {ps:String} {af:Array Edge} {gd:Option (Nat × Bool)} {t:Nat}
theorem Ld.nilQ {x y:Operand} {X Y sz:Nat} {l:List (List A)} (ht:t < c.N) (h:evD f x=some (.c (.r sz l))) (hy:evD f y=some (.c (.v (.slice none 0 0)))) (hX:∀ w ao n cap,(binOp .eql X (.slice ao n cap) (.slice none 0 0)).run P w=.ok (.bool ao.isNone) w) :
  Ld P c ⟨some t,.binOp .eql X x y Y,T,ps,af,gd⟩ f L [] (fun q:{ b:Bool // b=true→l=[] }=>(t,.c (bI q.1)) :: f) (fun _=>L):=⟨fun a w s K Q hK=>by
 have r:=s.ev h;have ry:=s.val hy;unfold RD RA at r;obtain ⟨ao,cap,hx,h1,h2,h3⟩:=r;have hop:(execOp a.eval ⟨some t,.binOp .eql X x y Y,T,ps,af,gd⟩).run P w=.ok (.value (.bool ao.isNone)) w:=by
  simp [execOp,hx,ry,Sem.run_bind,hX,eqGuard]
 unfold Oper.wp;rw [hop];exact hK ⟨ao.isNone,fun e=>by
  rcases h3 with h3 | ⟨g,off,e1,_⟩
  ·exact h3
  ·rw [e1] at e;cases e⟩ _ _ (Keeps.refl _ _) (s.more ht (Keeps.refl _ _) (by unfold RD RA;exact ⟨rfl,rfl⟩)) (fun y hy=>.inl hy)⟩
end
theorem t_cloneCs (cs:List Pn.Cs) (h:cs.length≤1000):Con Try.prog 32 [.c (.r 3 (cs.map eCs))] [] (fun v:Value=>(.c (.v v),[.row v 87 3 (cs.map eCs)])):=by
 refine Con.intro Try.func32 rfl rfl rfl (fun ok e=>?_)
 repeat (refine gn ?_)
 refine JO.ld (Ld.nilQ (qb rfl) rfl rfl (fun w ao n cap=>by cases ao <;> rfl)) rfl ?_
 rintro ⟨b,hb⟩
 cases b
 ·repeat (first | (refine K.bi ?_;refine JO.ld (Ld.appOw (qb rfl) rfl rfl .read (by (simp;omega))) rfl (fun _=>?_)) | refine gmQ ?_ | intro _)
  rename_i v
  (exact J.retA Try.func32 rfl (.cons (.tmp rfl) .nil) v (by exact .refl) rfl)
 ·have e1:=hb rfl;obtain rfl:cs=[]:=List.map_eq_nil_iff.1 e1
  repeat (refine gn ?_)
  refine J.nilR 87 3 ?_
  (exact J.retA Try.func32 rfl (.cons (.tmp rfl) .nil) (.slice none 0 0) (by exact .refl) rfl)
end Fl
namespace Jg
theorem inP_get {p:List (List Pn.Op)} {m:Sx.Mk} (h:inP p m=true):∃ ops o,p[m.g.toNat]?=some ops∧ops[m.op.toNat]?=some o∧0≤m.g∧0≤m.op∧opAt p m=o:=by
 unfold inP at h;simp only [decide_eq_true_eq] at h;obtain ⟨h0,h1,h2,h3⟩:=h;have e1:p[m.g.toNat]?=some (p.getD m.g.toNat []):=by
  rw [List.getD_eq_getElem?_getD,List.getElem?_eq_getElem (by omega)];rfl
 have e2:(p.getD m.g.toNat [])[m.op.toNat]?=some ((p.getD m.g.toNat []).getD m.op.toNat noO):=by
  rw [List.getD_eq_getElem?_getD (l:=p.getD m.g.toNat []),List.getElem?_eq_getElem (by omega)];rfl
 exact ⟨_,_,e1,e2,h0,h2,rfl⟩
def cutTo (n:Int) (cs:List Pn.Cs) (k:Nat):List Pn.Cs:=(cs.take k).map (cutC n) ++ cs.drop k
theorem cutTo_len (n:Int) (cs:List Pn.Cs) (k:Nat):(cutTo n cs k).length=cs.length:=by
 unfold cutTo;simp;omega
theorem cutTo_at {n:Int} {cs:List Pn.Cs} {k:Nat} {c:Pn.Cs} (h:cs[k]?=some c):(cutTo n cs k)[k]?=some c:=by
 have hk:=(List.getElem?_eq_some_iff.1 h).1;unfold cutTo;rw [List.getElem?_append_right (by simp;omega),List.getElem?_drop];simp only [List.length_map,List.length_take];rw [show k + (k - min k cs.length)=k by omega];exact h
theorem cutTo_set {n:Int} {cs:List Pn.Cs} {k:Nat} {c:Pn.Cs} (h:cs[k]?=some c):cutTo n cs (k + 1)=(cutTo n cs k).set k (cutC n c):=by
 have hk:=(List.getElem?_eq_some_iff.1 h).1;unfold cutTo;refine List.ext_getElem? fun i=>?_
 rw [List.getElem?_set]
 by_cases e:k=i
 ·subst e;rw [if_pos rfl,if_pos (by simp;omega),List.getElem?_append_left (by simp;omega),List.getElem?_map,List.getElem?_take,if_pos (by omega),h];rfl
 ·rw [if_neg e]
  by_cases hi:i < k
  ·rw [List.getElem?_append_left (by simp;omega),List.getElem?_append_left (by simp;omega),List.getElem?_map,List.getElem?_map,List.getElem?_take,List.getElem?_take,if_pos (by omega),if_pos hi]
  ·rw [List.getElem?_append_right (by simp;omega),List.getElem?_append_right (by simp;omega),List.getElem?_drop,List.getElem?_drop]
   congr 1
   simp only [List.length_map,List.length_take];omega
theorem cutTo_all (n:Int) (cs:List Pn.Cs):cutTo n cs cs.length=cs.map (cutC n):=by unfold cutTo;simp
theorem cutTo_0 (n:Int) (cs:List Pn.Cs):cutTo n cs 0=cs:=by unfold cutTo;simp
end Jg
namespace Fl
set_option maxRecDepth 100000
set_option maxHeartbeats 4000000
theorem set_at {α:Type} {l:List α} {k:Nat} {x:α} (h:l[((k:Nat):Int).toNat]?=some x):l.set k x=l:=by
 rw [Int.toNat_natCast] at h;refine List.ext_getElem? fun i=>?_
 rw [List.getElem?_set]
 by_cases e:k=i
 ·subst e;rw [if_pos rfl,if_pos (List.getElem?_eq_some_iff.1 h).1,h]
 ·rw [if_neg e]
abbrev zO:List A:=[nI 0,nI 0,nI 0,nI 0,.v (.slice none 0 0),bI false]
theorem t_Seen (p:List (List Pn.Op)) (l:List Sx.Mk) (m:Sx.Mk) (hs:l.length≤400) (hin:∀ x∈l,Jg.inP p x=true) (hmi:Jg.inP p m=true) (hc:(Jg.opAt p m).cases.length≤1000) :
  Pure Try.prog 14 [.c (opsA p),.c (.r 13 (l.map eM)),.agg (eM m)] (.agg (eOp (Jg.seen p l m))):=by
 refine Con.intro Try.func14 rfl rfl rfl (fun ok e=>?_)
 repeat (first | refine gmQ ?_ | intro _)
 rename_i b5 b6;refine J.loop (ι:={ k:Nat // k≤l.length }) (fun q=>[(14,.c (nI q.1)),(13,.c (nI l.length)),(12,.c (.r 13 (l.map eM))),(7,.c (nI ((l.take q.1).countP (Jg.madeB p m.call)))),(6,.c (.v (.pointer (some ⟨b6,0,none⟩)))),(5,.c (.v (.pointer (some ⟨b5,0,none⟩)))),(0,.c (opsA p))])
  (fun q=>[.box b6 28 zO,.box b5 52 (eM m)]) (fun q=>l.length - q.1) ⟨0,Nat.zero_le _⟩ (fun X h=>h.weak ⟨rfl,rfl,rfl,rfl,rfl,rfl,rfl,trivial⟩) (fun q ih=>?_)
 obtain ⟨k,hk'⟩:=q;simp only at hk' ih ⊢
 by_cases hk:k < l.length
 ·have t1:decide ((k:Int) < (l.length:Int))=true:=decide_eq_true (by omega);obtain ⟨x,hx⟩:∃ x,l[k]?=some x:=⟨_,List.getElem?_eq_getElem hk⟩
  have AX:=s_at (enc:=eM) hx;obtain ⟨ops,o,h1,h2,z0,z1,h3⟩:=Jg.inP_get (hin x (List.mem_of_getElem? hx));have AP:(p.map fun ops=>[A.r 6 (ops.map eOp)])[x.g.toNat]?=some [A.r 6 (ops.map eOp)]:=by rw [List.getElem?_map,h1];rfl
  have AQ:(ops.map eOp)[x.op.toNat]?=some (eOp o):=by rw [List.getElem?_map,h2];rfl
  have fs:=Jg.count_snoc (q:=Jg.madeB p m.call) hx;have md:Jg.madeB p m.call x=((o.kind == 1) && (x.point != 0) && decide (x.point < m.call)):=by unfold Jg.madeB Jg.isMake;rw [h3]
  have fl:=(List.countP_le_length (p:=Jg.madeB p m.call) (l:=l.take k))
  have ft:=List.length_take_le k l;rw [md] at fs;have ih1:=ih ⟨k + 1,by omega⟩ (by simp only;omega);clear ih;simp only at ih1;rw [fs] at ih1;generalize (l.take k).countP (Jg.madeB p m.call)=n at fl ih1 ⊢
  cases t2:(o.kind == 1) <;> cases t3:(x.point != 0) <;> cases t4:decide (x.point < m.call)
  all_goals
   rw [t2,t3,t4] at ih1
   repeat (first | (refine K.store ?_;refine JO.ld (Ld.storeW rfl rfl rfl (by exact rfl) (by exact rfl)) rfl (fun _=>?_)) | refine gmQ ?_ | intro _)
   refine J.look 18 (by kernel_rfl) (by kernel_rfl) ?_;refine JLk.q rfl rfl (qb rfl) (Qt.move rfl) ?_;refine JLk.q rfl rfl (qb rfl) (Qt.fieldAddr rfl rfl) ?_
   (refine JLk.q rfl rfl (qb rfl) (Qt.load1b rfl (by exact rfl)) ?_)
   refine JLk.q rfl rfl (qb rfl) (Qt.indexR rfl rfl z0 AP) ?_
   (refine JLk.q rfl rfl (qb rfl) (Qt.load1 rfl .el rfl) ?_)
   refine JLk.q rfl rfl (qb rfl) (Qt.fieldAddr rfl rfl) ?_
   (refine JLk.q rfl rfl (qb rfl) (Qt.load1b rfl (by exact rfl)) ?_)
   refine JLk.q rfl rfl (qb rfl) (Qt.indexR rfl rfl z1 AQ) ?_;refine JLk.q rfl rfl (qb rfl) (Qt.fieldAddr rfl rfl) ?_
   (refine JLk.q rfl rfl (qb rfl) (Qt.load1 rfl .el rfl) ?_)
   refine JLk.q rfl rfl (qb rfl) (Qt.cmp rfl rfl (congrArg some t2)) ?_;refine JLk.q rfl rfl (qb rfl) (Qt.move rfl) ?_
   first
    | refine JLk.q rfl rfl (qb rfl) (Qt.fieldAddr rfl rfl) ?_
    | refine JLk.no rfl rfl (qb rfl) ?_
   first
    | refine JLk.q rfl rfl (qb rfl) (Qt.load1b rfl (by exact rfl)) ?_
    | refine JLk.no rfl rfl (qb rfl) ?_
   first
    | refine JLk.q rfl rfl (qb rfl) (Qt.cmp rfl rfl (congrArg some t3)) ?_
    | refine JLk.no rfl rfl (qb rfl) ?_
   refine JLk.q rfl rfl (qb rfl) (Qt.pick rfl rfl) ?_;refine JLk.q rfl rfl (qb rfl) (Qt.move rfl) ?_
   first
    | refine JLk.q rfl rfl (qb rfl) (Qt.fieldAddr rfl rfl) ?_
    | refine JLk.no rfl rfl (qb rfl) ?_
   first
    | refine JLk.q rfl rfl (qb rfl) (Qt.load1b rfl (by exact rfl)) ?_
    | refine JLk.no rfl rfl (qb rfl) ?_
   first
    | refine JLk.q rfl rfl (qb rfl) (Qt.fieldAddr rfl rfl) ?_
    | refine JLk.no rfl rfl (qb rfl) ?_
   first
    | refine JLk.q rfl rfl (qb rfl) (Qt.load1b rfl (by exact rfl)) ?_
    | refine JLk.no rfl rfl (qb rfl) ?_
   first
    | refine JLk.q rfl rfl (qb rfl) (Qt.cmp rfl rfl (congrArg some t4)) ?_
    | refine JLk.no rfl rfl (qb rfl) ?_
   refine JLk.q rfl rfl (qb rfl) (Qt.pick rfl rfl) ?_;refine JLk.nil ?_
   repeat (refine gn ?_)
   refine J.dropN 0 ?_;exact ih1.weak ⟨rfl,rfl,rfl,rfl,rfl,rfl,rfl,trivial⟩
 ·obtain rfl:k=l.length:=by omega
  have t1:decide ((l.length:Int) < (l.length:Int))=false:=decide_eq_false (by omega);clear ih;rw [List.take_length];obtain ⟨ops,o,h1,h2,z0,z1,h3⟩:=Jg.inP_get hmi;have AP:(p.map fun ops=>[A.r 6 (ops.map eOp)])[m.g.toNat]?=some [A.r 6 (ops.map eOp)]:=by rw [List.getElem?_map,h1];rfl
  have AQ:(ops.map eOp)[m.op.toNat]?=some (eOp o):=by rw [List.getElem?_map,h2];rfl
  have se:Jg.seen p l m=Jg.cutO o (Jg.madeN p l m.call:Int):=by unfold Jg.seen;rw [h3]
  have m1:(if (8:Int) < ((l.countP (Jg.madeB p m.call):Nat):Int) then (8:Int) else ((l.countP (Jg.madeB p m.call):Nat):Int))=((Jg.madeN p l m.call:Nat):Int):=by unfold Jg.madeN;split <;> omega
  rw [h3] at hc;rw [se];generalize Jg.madeN p l m.call=M at m1 ⊢
  repeat (first | (refine K.bi ?_;refine jq rfl rfl rfl (Qt.min rfl rfl m1) ?_) | refine gn ?_)
  refine J.draw (by kernel_rfl) rfl ?_;refine JW.base (some 10) ?_;refine tk 0 ?_;refine tk 1 ?_;refine tk 2 ?_;refine JD.take 3 rfl rfl (by kernel_rfl) rfl (qb rfl) (Qt.indexR rfl rfl z0 AP) rfl ?_;refine tk 4 ?_;refine tk 5 ?_;refine tk 6 ?_;refine JD.take 7 rfl rfl (by kernel_rfl) rfl (qb rfl) (Qt.indexR rfl rfl z1 AQ) rfl ?_;refine tk 8 ?_;refine jl 9 rfl rfl rfl rfl (Ld.alloc (qb rfl)) .none (fun _=>?_);refine jt 10 rfl rfl (Ld.storeW rfl rfl rfl (by exact rfl) (by exact rfl)) (fun _=>?_);refine wnQ ?_;rename_i b10 _
  by_cases hk:2≤o.kind∧o.kind≤5
  ·have ce:Jg.cutO o (M:Int)={ o with ch:=Jg.cut o.ch M }:=by unfold Jg.cutO;rw [if_pos hk]
   rw [ce];unfold Jg.cut;rcases (by omega:o.kind=2∨o.kind=3∨o.kind=4∨o.kind=5) with hq | hq | hq | hq
   all_goals
    have P:=fun c:Int=>congrArg (fun x:Int=>x == c) hq
    cases t2:decide (o.ch > (M:Int))
    ·rw [if_neg (by have:=of_decide_eq_false t2;omega)]
     repeat (first | (refine K.store ?_;refine JO.ld (Ld.storeW rfl rfl rfl (by exact rfl) (by exact rfl)) rfl (fun _=>?_)) | refine jCQ (P _) ?_ | refine gn ?_)
     exact rtQ Try.func14
    ·rw [if_pos (by have:=of_decide_eq_true t2;omega)]
     repeat (first | (refine K.store ?_;first | refine JO.ld (Ld.storeW rfl rfl rfl (by exact rfl) (by exact rfl)) rfl (fun _=>?_) | refine JO.ld (Ld.store1 rfl rfl (by exact rfl)) rfl (fun _=>?_)) | refine jCQ (P _) ?_ | refine gn ?_)
     exact rtQ Try.func14
  ·by_cases h9:o.kind=9
   ·have ce:Jg.cutO o (M:Int)={ o with cases:=o.cases.map (Jg.cutC M) }:=by unfold Jg.cutO;rw [if_neg hk,if_pos h9]
    rw [ce];have P:=fun c:Int=>congrArg (fun x:Int=>x == c) h9
    repeat (first | (refine K.store ?_;refine JO.ld (Ld.store1 rfl rfl (by exact rfl)) rfl (fun _=>?_)) | refine jCQ (P _) ?_ | (refine K.call ?_;refine JO.conRow (t_cloneCs o.cases hc) rfl (qb rfl) rfl ?_ ?_;(focus ((repeat (first | exact LeDs.nil | refine LeDs.cons LeD.refl ?_));done));intro _) | refine gn ?_)
    rename_i v _;have en:(o.cases.map eCs).length=o.cases.length:=List.length_map ..;rw [en];refine J.dropN 3 ?_;refine J.loop (ι:={ k:Nat // k≤o.cases.length }) (fun q=>[(76,.c (nI q.1)),(75,.c (nI o.cases.length)),(74,.c (.v v)),(10,.c (.v (.pointer (some ⟨b10,0,none⟩)))),(7,.c (nI M)),(6,.c (.v (.pointer (some ⟨b6,0,none⟩))))])
     (fun q=>[.row v 87 3 ((Jg.cutTo M o.cases q.1).map eCs),.box b10 28 ((eOp o).set 4 (.v v)),.box b6 28 zO]) (fun q=>o.cases.length - q.1) ⟨0,Nat.zero_le _⟩ (fun X h=>J.congL (by rw [Jg.cutTo_0]) (h.weak ⟨rfl,rfl,rfl,rfl,rfl,rfl,trivial⟩)) (fun q ih=>?_)
    obtain ⟨k,hk'⟩:=q;simp only at hk' ih ⊢
    by_cases hk:k < o.cases.length
    ·have t2:decide ((k:Int) < (o.cases.length:Int))=true:=decide_eq_true (by omega);obtain ⟨c,hcs⟩:∃ c,o.cases[k]?=some c:=⟨_,List.getElem?_eq_getElem hk⟩
     have CA:=s_at (enc:=eCs) (Jg.cutTo_at (n:=M) hcs);have i0:(0:Int)≤(k:Int):=by omega
     have i1:(k:Int) < (((Jg.cutTo M o.cases k).map eCs).length:Int):=by rw [List.length_map,Jg.cutTo_len];omega
     have ih1:=ih ⟨k + 1,by omega⟩ (by simp only;omega);clear ih;simp only at ih1;rw [Jg.cutTo_set hcs,List.map_set] at ih1;generalize (Jg.cutTo M o.cases k).map eCs=R at CA i1 ih1 ⊢;have ev:Jg.cutC M c={ c with ch:=Jg.cut c.ch M }:=rfl;unfold Jg.cut at ev
     cases t3:decide (c.ch > (M:Int))
     ·rw [if_neg (by have:=of_decide_eq_false t3;omega)] at ev;rw [ev,show R.set k (eCs { c with ch:=c.ch })=R from set_at CA] at ih1
      repeat (first | (refine K.load ?_;((refine jq rfl rfl rfl (Qt.load1o rfl (CA) (by exact rfl)) ?_))) | (refine K.indexAddr ?_;refine jq rfl rfl rfl (Qt.indexO rfl rfl i0 i1) ?_) | refine gn ?_)
      exact ih1.weak ⟨rfl,rfl,rfl,rfl,rfl,rfl,trivial⟩
     ·rw [if_pos (by have:=of_decide_eq_true t3;omega)] at ev;rw [ev] at ih1
      repeat (first | (refine K.load ?_;((refine jq rfl rfl rfl (Qt.load1o rfl (CA) (by exact rfl)) ?_))) | (refine K.store ?_;refine JO.ld (Ld.storeO1 rfl rfl (by exact rfl) (CA)) rfl (fun _=>?_)) | (refine K.indexAddr ?_;refine jq rfl rfl rfl (Qt.indexO rfl rfl i0 i1) ?_) | refine gn ?_)
      exact ih1.weak ⟨rfl,rfl,rfl,rfl,rfl,rfl,trivial⟩
    ·obtain rfl:k=o.cases.length:=by omega
     have t2:decide ((o.cases.length:Int) < (o.cases.length:Int))=false:=decide_eq_false (by omega);rw [Jg.cutTo_all]
     repeat (first | (refine K.store ?_;refine JO.ld (Ld.storeW rfl rfl rfl (by exact rfl) (by exact rfl)) rfl (fun _=>?_)) | refine gn ?_)
     refine J.frzC 74 6 4 rfl rfl rfl ?_;exact rtQ Try.func14
   ·have ce:Jg.cutO o (M:Int)=o:=by unfold Jg.cutO;rw [if_neg hk,if_neg h9]
    rw [ce];have n2:(o.kind == 2)=false:=by simp;omega
    have n3:(o.kind == 3)=false:=by simp;omega
    have n4:(o.kind == 4)=false:=by simp;omega
    have n5:(o.kind == 5)=false:=by simp;omega
    have n9:(o.kind == 9)=false:=by simp;omega
    repeat (first | (refine K.store ?_;refine JO.ld (Ld.storeW rfl rfl rfl (by exact rfl) (by exact rfl)) rfl (fun _=>?_)) | refine gn ?_)
    exact rtQ Try.func14
def eMd (x:Int × Int):List A:=[nI x.1,nI x.2]
theorem look_snocK {made:List (Int × Int)} {k:Nat} {x:Int × Int} (c:Int) (h:made[k]?=some x):Jg.look (made.take (k + 1)) c=if x.1 < c then x.2 else Jg.look (made.take k) c:=by
 unfold Jg.look;rw [Jg.foldl_snoc h]
end Fl
end Go.Proofs.Ytdibmkjoaghafaa
