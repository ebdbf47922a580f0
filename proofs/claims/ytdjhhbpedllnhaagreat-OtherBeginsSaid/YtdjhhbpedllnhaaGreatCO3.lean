/-
  What the laws need, part CO3.
  Conditions: none.
-/
import Derived.Test.YtdjhhbpedllnhaaGreatB28
import Derived.Test.YtdjhhbpedllnhaaGreatCO2
set_option linter.unusedVariables false
set_option linter.unusedSimpArgs false
set_option linter.unnecessarySimpa false
set_option maxHeartbeats 2000000
namespace Go.Proofs.YtdjhhbpedllnhaaGreat
open Go.RowKit
namespace Fl
open Sx Go.Proofs.Tryz
set_option maxRecDepth 100000
theorem YZ {l:List Int} {i:Nat} (h:i < l.length):(aF l)[((i:Nat):Int).toNat]?=some [nI (l.getD i 0)]:=rj (Int.natCast_nonneg i) (by omega)
theorem Zl (l:List Int) (i j:Nat):((aF l).set i [nI (l.getD j 0)]).set j [nI (l.getD i 0)]=aF (YR l i j):=by unfold YR;rw [yb,yb]
theorem ZF (b o N cap n:Nat) (l0:List Int) (a0:Nat) (hn:n≤l0.length) (hl:l0.length≤1000) (ha:a0≤1000) :
  an prog 255 [.c (.v (sl b o n cap)),.c (nI a0)] [.row (sl b o N cap) 3 1 (aF l0)] (fun _:Unit=>(.bp [],[.row (sl b o N cap) 3 1 (aF (Sx.sink l0 n a0))])):=by
 refine an.intro func255 rfl rfl rfl (fun ok e=>?_)
 repeat ((refine J.block ?_))
 refine J.loop (ι:={ q:List Int × Nat // q.1.length=l0.length∧q.2≤1000∧Sx.sink q.1 n q.2=Sx.sink l0 n a0 }) (fun q=>[(1,.c (nI q.1.2)),(0,.c (.v (sl b o n cap)))]) (fun q=>[.row (sl b o N cap) 3 1 (aF q.1.1)]) (fun q=>n - q.1.2) ⟨(l0,a0),rfl,ha,rfl⟩ (fun X h=>h.aW ⟨rfl,rfl,trivial⟩) (fun q ih=>?_);obtain ⟨⟨l,a⟩,ql,qa,qs⟩:=q;simp only at ql qa qs ih ⊢;rw [← ql] at hn hl;have w1:IntKind.i64.wrap (2 * (a:Int))=((2 * a:Nat):Int):=by rw [dJ (by omega) (by omega)];omega
 have w2:IntKind.i64.wrap (((2 * a:Nat):Int) + 1)=((2 * a + 1:Nat):Int):=by rw [dJ (by omega) (by omega)];omega
 by_cases h0:2 * a + 1 < n
 ·have w3:IntKind.i64.wrap (((2 * a + 1:Nat):Int) + 1)=((2 * a + 2:Nat):Int):=by rw [dJ (by omega) (by omega)];omega
  have t0:decide (((2 * a + 1:Nat):Int) ≥ (n:Int))=false:=decide_eq_false (by omega);have hb:=Zd (l:=l) h0;have hB:YW l n a=if decide (((2 * a + 2:Nat):Int) < (n:Int)) && decide (l.getD (2 * a + 2) 0 > l.getD (2 * a + 1) 0) then 2 * a + 2 else 2 * a + 1:=by
   unfold YW;simp only [Bool.and_eq_true,decide_eq_true_eq]
   congr 1
   apply propext;omega
  have Zm:Sx.sink l n a=if l.getD (YW l n a) 0≤l.getD a 0 then l else Sx.sink (YR l a (YW l n a)) n (YW l n a):=by rw [Sx.sink];rw [dif_pos h0]
  rw [Zm] at qs;generalize YW l n a=B at hb hB qs;have bz:(0:Int)≤(B:Int):=Int.natCast_nonneg B;have az:(0:Int)≤(a:Int):=Int.natCast_nonneg a;have bn:(B:Int) < (n:Int):=by omega
  have an:(a:Int) < (n:Int):=by omega
  have AB:=YZ (l:=l) (i:=B) (by omega);have AA:=YZ (l:=l) (i:=a) (by omega);have A1:=YZ (l:=l) (i:=2 * a + 1) (by omega)
  repeat (first | (refine K.binOp ?_;first | refine jq rfl rfl rfl ((Qt.cJ rfl rfl rfl w1)) ?_ | refine jq rfl rfl rfl ((Qt.cJ rfl rfl rfl w2)) ?_) | refine gn ?_)
  refine J.YQ (ι:=Unit) (fun _=>[(4,.c (nI B)),(1,.c (nI a)),(0,.c (.v (sl b o n cap)))]) (fun _=>[.row (sl b o N cap) 3 1 (aF l)]) (fun _=>?_) (fun KK rest=>?_)
  ·cases t3:decide (l.getD B 0≤l.getD a 0) with
   | true =>
    rw [if_pos (by simpa using t3)] at qs;rw [← qs]
    repeat ((refine J.seq ?_))
    refine J.draw (by kernel_rfl) rfl ?_;refine JW.base none ?_;refine tk 0 ?_;refine tk 1 ?_;refine JD.take 2 rfl rfl (by kernel_rfl) rfl (qb rfl) (Qt.YV (sl b o N cap) rfl rfl rfl bz bn) rfl ?_;refine JD.take 3 rfl rfl (by kernel_rfl) rfl (qb rfl) (Qt.aL rfl AB rfl) rfl ?_;refine tk 4 ?_;refine tk 5 ?_;refine JD.take 6 rfl rfl (by kernel_rfl) rfl (qb rfl) (Qt.YV (sl b o N cap) rfl rfl rfl az an) rfl ?_;refine JD.take 7 rfl rfl (by kernel_rfl) rfl (qb rfl) (Qt.aL rfl AA rfl) rfl ?_;refine JD.take 8 rfl rfl (by kernel_rfl) rfl (qb rfl) (Qt.cmp rfl rfl (congrArg some t3)) rfl ?_;refine bE ?_
    repeat ((refine J.gK rfl ?_))
    (exact J.bN func255 rfl .nil () (by exact .refl) rfl)
   | false =>
    rw [if_neg (by simpa using t3)] at qs;have AC:((aF l).set ((a:Nat):Int).toNat [nI (l.getD B 0)])[((B:Nat):Int).toNat]?=some [nI (l.getD B 0)]:=by
     rw [List.getElem?_set_ne (by simp only [Int.toNat_natCast];omega)];exact AB
    repeat ((refine J.seq ?_))
    refine J.draw (by kernel_rfl) rfl ?_;refine JW.base none ?_;refine tk 0 ?_;refine tk 1 ?_;refine JD.take 2 rfl rfl (by kernel_rfl) rfl (qb rfl) (Qt.YV (sl b o N cap) rfl rfl rfl bz bn) rfl ?_;refine JD.take 3 rfl rfl (by kernel_rfl) rfl (qb rfl) (Qt.aL rfl AB rfl) rfl ?_;refine tk 4 ?_;refine tk 5 ?_;refine JD.take 6 rfl rfl (by kernel_rfl) rfl (qb rfl) (Qt.YV (sl b o N cap) rfl rfl rfl az an) rfl ?_;refine JD.take 7 rfl rfl (by kernel_rfl) rfl (qb rfl) (Qt.aL rfl AA rfl) rfl ?_;refine JD.take 8 rfl rfl (by kernel_rfl) rfl (qb rfl) (Qt.cmp rfl rfl (congrArg some t3)) rfl ?_;refine bE ?_
    repeat (refine gn ?_)
    refine J.draw (by kernel_rfl) rfl ?_;refine JW.iZ [0] none ?_;refine tk 0 ?_;refine tk 1 ?_;refine tk 2 ?_;refine tk 3 ?_;refine tk 4 ?_;refine tk 5 ?_;refine JD.take 6 rfl rfl (by kernel_rfl) rfl (qb rfl) (Qt.YV (sl b o N cap) rfl rfl rfl bz bn) rfl ?_;refine tk 8 ?_;refine tk 9 ?_;refine JD.take 10 rfl rfl (by kernel_rfl) rfl (qb rfl) (Qt.YV (sl b o N cap) rfl rfl rfl az an) rfl ?_;refine JD.cU (i:=7) (j:=11) (by kernel_rfl) ?_ ?_;refine JS.q rfl rfl rfl (qb rfl) (Qt.aL rfl AB rfl) ?_;refine jk 11 rfl rfl rfl rfl (Qt.aL rfl AA rfl) ?_;refine JD.take 12 rfl rfl (by kernel_rfl) rfl (qb rfl) (Qt.YV (sl b o N cap) rfl rfl rfl az an) rfl ?_;refine JD.gU (i:=13) (by kernel_rfl) ?_;refine JS.st rfl rfl rfl (Ld.bL rfl rfl (by exact rfl) AA) (.pW rfl) (fun _=>?_);refine JD.take 14 rfl rfl (by kernel_rfl) rfl (qb rfl) (Qt.YV (sl b o N cap) rfl rfl rfl bz bn) rfl ?_;refine JD.gU (i:=15) (by kernel_rfl) ?_;refine JS.st rfl rfl rfl (Ld.bL rfl rfl (by exact rfl) AC) (.pW rfl) (fun _=>?_);refine bE ?_
    rotate_left
    refine JS.q rfl rfl rfl (qb rfl) (Qt.aL rfl AA rfl) ?_;refine jk 7 rfl rfl rfl rfl (Qt.aL rfl AB rfl) ?_;refine JD.take 12 rfl rfl (by kernel_rfl) rfl (qb rfl) (Qt.YV (sl b o N cap) rfl rfl rfl az an) rfl ?_;refine JD.gU (i:=13) (by kernel_rfl) ?_;refine JS.st rfl rfl rfl (Ld.bL rfl rfl (by exact rfl) AA) (.pW rfl) (fun _=>?_);refine JD.take 14 rfl rfl (by kernel_rfl) rfl (qb rfl) (Qt.YV (sl b o N cap) rfl rfl rfl bz bn) rfl ?_;refine JD.gU (i:=15) (by kernel_rfl) ?_;refine JS.st rfl rfl rfl (Ld.bL rfl rfl (by exact rfl) AC) (.pW rfl) (fun _=>?_);refine bE ?_
    rotate_left
    all_goals
     repeat (refine gn ?_)
     refine J.dN ?_ ((ih ⟨(YR l a B,B),by simp only [Y3];exact ql,by simp only;omega,qs⟩ (by simp only;omega)).aW ⟨rfl,rfl,trivial⟩);simp only;rw [← Zl];rfl
  ·have z1:(0:Int)≤((2 * a + 1:Nat):Int):=Int.natCast_nonneg _;have n1:((2 * a + 1:Nat):Int) < (n:Int):=by omega
   cases t1:decide (((2 * a + 2:Nat):Int) < (n:Int)) with
   | false =>
    rw [t1,Bool.false_and,if_neg (by simp)] at hB;subst hB;refine J.draw (by kernel_rfl) rfl ?_;refine JW.base none ?_;refine tk 0 ?_;refine JD.take 1 rfl rfl (by kernel_rfl) rfl (qb rfl) (Qt.cJ rfl rfl rfl w3) rfl ?_;refine tk 2 ?_;refine tk 3 ?_;refine JD.take 4 rfl rfl (by kernel_rfl) rfl (qb rfl) (Qt.cmp rfl rfl (congrArg some t1)) rfl ?_;refine tk 5 ?_
    (refine JD.skip 6 rfl rfl (by kernel_rfl) rfl (qb rfl) ?_)
    (refine JD.skip 7 rfl rfl (by kernel_rfl) rfl (qb rfl) ?_)
    (refine JD.skip 8 rfl rfl (by kernel_rfl) rfl (qb rfl) ?_)
    refine JD.skip 9 rfl rfl (by kernel_rfl) rfl (qb rfl) ?_
    (refine JD.skip 10 rfl rfl (by kernel_rfl) rfl (qb rfl) ?_)
    (refine JD.skip 11 rfl rfl (by kernel_rfl) rfl (qb rfl) ?_)
    (refine JD.skip 12 rfl rfl (by kernel_rfl) rfl (qb rfl) ?_)
    refine JD.skip 13 rfl rfl (by kernel_rfl) rfl (qb rfl) ?_
    (refine JD.skip 14 rfl rfl (by kernel_rfl) rfl (qb rfl) ?_)
    (refine JD.skip 15 rfl rfl (by kernel_rfl) rfl (qb rfl) ?_)
    refine tk 16 ?_;refine bE ?_
    repeat (refine gn ?_)
    exact (rest ()).aW ⟨rfl,rfl,rfl,trivial⟩
   | true =>
    have n2:((2 * a + 2:Nat):Int) < (n:Int):=by simpa using t1
    have z2:(0:Int)≤((2 * a + 2:Nat):Int):=Int.natCast_nonneg _;have A2:=YZ (l:=l) (i:=2 * a + 2) (by omega);rw [t1,Bool.true_and] at hB
    cases t2:decide (l.getD (2 * a + 2) 0 > l.getD (2 * a + 1) 0) with
    | true =>
     rw [t2,if_pos rfl] at hB;subst hB;refine J.draw (by kernel_rfl) rfl ?_;refine JW.base none ?_;refine tk 0 ?_;refine JD.take 1 rfl rfl (by kernel_rfl) rfl (qb rfl) (Qt.cJ rfl rfl rfl w3) rfl ?_;refine tk 2 ?_;refine tk 3 ?_;refine JD.take 4 rfl rfl (by kernel_rfl) rfl (qb rfl) (Qt.cmp rfl rfl (congrArg some t1)) rfl ?_;refine tk 5 ?_;refine tk 6 ?_;refine tk 7 ?_
     (refine JD.take 8 rfl rfl (by kernel_rfl) rfl (qb rfl) (Qt.cJ rfl rfl rfl w3) rfl ?_)
     (refine JD.take 9 rfl rfl (by kernel_rfl) rfl (qb rfl) (Qt.YV (sl b o N cap) rfl rfl rfl z2 n2) rfl ?_)
     (refine JD.take 10 rfl rfl (by kernel_rfl) rfl (qb rfl) (Qt.aL rfl A2 rfl) rfl ?_)
     refine tk 11 ?_;refine tk 12 ?_
     (refine JD.take 13 rfl rfl (by kernel_rfl) rfl (qb rfl) (Qt.YV (sl b o N cap) rfl rfl rfl z1 n1) rfl ?_)
     (refine JD.take 14 rfl rfl (by kernel_rfl) rfl (qb rfl) (Qt.aL rfl A1 rfl) rfl ?_)
     (refine JD.take 15 rfl rfl (by kernel_rfl) rfl (qb rfl) (Qt.cmp rfl rfl (congrArg some t2)) rfl ?_)
     refine tk 16 ?_;refine bE ?_
     repeat (first | (refine K.binOp ?_;refine jq rfl rfl rfl ((Qt.cJ rfl rfl rfl w3)) ?_) | refine gn ?_)
     exact (rest ()).aW ⟨rfl,rfl,rfl,trivial⟩
    | false =>
     rw [t2,if_neg (by simp)] at hB;subst hB;refine J.draw (by kernel_rfl) rfl ?_;refine JW.base none ?_;refine tk 0 ?_;refine JD.take 1 rfl rfl (by kernel_rfl) rfl (qb rfl) (Qt.cJ rfl rfl rfl w3) rfl ?_;refine tk 2 ?_;refine tk 3 ?_;refine JD.take 4 rfl rfl (by kernel_rfl) rfl (qb rfl) (Qt.cmp rfl rfl (congrArg some t1)) rfl ?_;refine tk 5 ?_;refine tk 6 ?_;refine tk 7 ?_
     (refine JD.take 8 rfl rfl (by kernel_rfl) rfl (qb rfl) (Qt.cJ rfl rfl rfl w3) rfl ?_)
     (refine JD.take 9 rfl rfl (by kernel_rfl) rfl (qb rfl) (Qt.YV (sl b o N cap) rfl rfl rfl z2 n2) rfl ?_)
     (refine JD.take 10 rfl rfl (by kernel_rfl) rfl (qb rfl) (Qt.aL rfl A2 rfl) rfl ?_)
     refine tk 11 ?_;refine tk 12 ?_
     (refine JD.take 13 rfl rfl (by kernel_rfl) rfl (qb rfl) (Qt.YV (sl b o N cap) rfl rfl rfl z1 n1) rfl ?_)
     (refine JD.take 14 rfl rfl (by kernel_rfl) rfl (qb rfl) (Qt.aL rfl A1 rfl) rfl ?_)
     (refine JD.take 15 rfl rfl (by kernel_rfl) rfl (qb rfl) (Qt.cmp rfl rfl (congrArg some t2)) rfl ?_)
     refine tk 16 ?_;refine bE ?_
     repeat (refine gn ?_)
     exact (rest ()).aW ⟨rfl,rfl,rfl,trivial⟩
 ·have t0:decide (((2 * a + 1:Nat):Int) ≥ (n:Int))=true:=decide_eq_true (by omega);have Zm:Sx.sink l n a=l:=by rw [Sx.sink,dif_neg h0]
  rw [Zm] at qs;rw [← qs]
  repeat (first | (refine K.binOp ?_;first | refine jq rfl rfl rfl ((Qt.cJ rfl rfl rfl w1)) ?_ | refine jq rfl rfl rfl ((Qt.cJ rfl rfl rfl w2)) ?_) | refine gn ?_)
  (exact J.bN func255 rfl .nil () (by exact .refl) rfl)
theorem aaf (l0:List Int) (hl:l0.length≤1000):Pure prog 242 [.c (ints l0)] (.c (ints (sort l0))):=by
 rw [← aae];unfold Zh;obtain ⟨r,hr⟩:∃ r,Y0 (l0.length / 2) l0=r:=⟨_,rfl⟩
 obtain ⟨N,hN⟩:∃ N,l0.length=N:=⟨_,rfl⟩
 have lr:r.length=N:=by rw [← hr,(Zk (l0.length / 2) l0 (fun i c hi bV hc sB=>by omega)).2.2,hN]
 rw [hr,lr];rw [hN] at hl hr;have q1:IntKind.i64.wrap ((N:Int).tdiv 2)=((N / 2:Nat):Int):=by rw [Int.tdiv_eq_ediv_of_nonneg (by omega),dJ (by omega) (by omega)];omega
 refine an.intro func242 rfl rfl rfl (fun ok e=>?_)
 repeat (first | (refine K.binOp ?_;refine jq rfl rfl rfl (Qt.quo rfl rfl (by decide) (q1)) ?_) | (refine K.bi ?_;refine JO.ld (Ld.copy (qb rfl) rfl rfl ((by simp [hN]))) rfl (fun _=>?_)) | (refine K.make ?_;refine JO.ld (Ld.make (N) (qb rfl) rfl rfl (by (omega)) (by omega)) rfl (fun _=>?_)) | refine gn ?_)
 rename_i v _;refine J.loop (ι:={ q:List Int × Nat // q.1.length=N∧q.2≤N∧Y0 q.2 q.1=r }) (fun q=>[(4,.c (nI ((q.1.2:Int) - 1))),(3,.c (.v (sl v 0 N N)))]) (fun q=>[.row (sl v 0 N N) 3 1 (aF q.1.1)]) (fun q=>q.1.2) ⟨(l0,N / 2),hN,by simp only;omega,hr⟩ (fun X h=>h.aW ⟨rfl,rfl,trivial⟩) (fun q ih=>?_);obtain ⟨⟨l,i⟩,ql,qi,qs⟩:=q;simp only at ql qi qs ih ⊢
 cases i with
 | succ j =>
  have t1:decide ((j:Int) ≥ 0)=true:=decide_eq_true (by omega);rw [show ((j + 1:Nat):Int) - 1=(j:Int) by omega]
  repeat (first | (refine K.call ?_;refine JO.ld (Ld.fj ((ZF v 0 N N N l j (by omega) (by omega) (by omega))) (qb rfl) rfl (by (exact aJ.cons .refl (.cons .refl .nil)))) rfl ?_;intro _) | refine gn ?_)
  exact (ih ⟨(Sx.sink l N j,j),by simp only [Zi];exact ql,by simp only;omega,by simp only;rw [← qs,Y0,ql]⟩ (by simp only;omega)).aW ⟨rfl,rfl,trivial⟩
 | zero =>
  obtain rfl:l=r:=qs;have t1:decide (((0:Nat):Int) - 1 ≥ 0)=false:=by decide
  repeat (refine gn ?_)
  refine J.loop (ι:={ q:List Int × Int // q.1.length=N∧-1≤q.2∧q.2 < N∧YY q.2.toNat q.1=YY (N - 1) l }) (fun q=>[(5,.c (nI q.1.2)),(3,.c (.v (sl v 0 N N)))]) (fun q=>[.row (sl v 0 N N) 3 1 (aF q.1.1)]) (fun q=>q.1.2.toNat) ⟨(l,(N:Int) - 1),ql,by simp only;omega,by simp only;omega,by simp only;congr 1;omega⟩ (fun X h=>h.aW ⟨rfl,rfl,trivial⟩) (fun q ih=>?_);obtain ⟨⟨m,i⟩,qm,q0,q1,qs⟩:=q;simp only at qm q0 q1 qs ih ⊢
  by_cases h:0 < i
  ·obtain ⟨j,rfl⟩:∃ j:Nat,i=((j + 1:Nat):Int):=⟨i.toNat - 1,by omega⟩
   have t1:decide (((j + 1:Nat):Int) > 0)=true:=decide_eq_true h;have bz:(0:Int)≤((j + 1:Nat):Int):=Int.natCast_nonneg _;have oz:(0:Int)≤0:=Int.le_refl _;have on:(0:Int) < (N:Int):=by omega
   have hi:((j + 1:Nat):Int)≤(N:Int):=by omega
   have A0:(aF m)[(0:Int).toNat]?=some [nI (m.getD 0 0)]:=YZ (i:=0) (by omega);have AJ:=YZ (l:=m) (i:=j + 1) (by omega);have AC:((aF m).set (0:Int).toNat [nI (m.getD (j + 1) 0)])[((j + 1:Nat):Int).toNat]?=some [nI (m.getD (j + 1) 0)]:=by
    rw [List.getElem?_set_ne (by simp only [Int.toNat_natCast];show (0:Nat)≠_;omega)];exact AJ
   rw [show YY ((j + 1:Nat):Int).toNat m=YY j (Sx.sink (YR m 0 (j + 1)) (j + 1) 0) from rfl] at qs
   repeat (refine gn ?_)
   refine J.draw (by kernel_rfl) rfl ?_;refine JW.iZ [0] none ?_;refine tk 0 ?_;refine tk 1 ?_;refine tk 2 ?_;refine tk 3 ?_;refine tk 4 ?_;refine JD.take 5 rfl rfl (by kernel_rfl) rfl (qb rfl) (Qt.YV (sl v 0 N N) rfl rfl rfl bz q1) rfl ?_;refine tk 7 ?_;refine JD.take 8 rfl rfl (by kernel_rfl) rfl (qb rfl) (Qt.YV (sl v 0 N N) rfl rfl rfl oz on) rfl ?_;refine JD.cU (i:=6) (j:=9) (by kernel_rfl) ?_ ?_;refine JS.q rfl rfl rfl (qb rfl) (Qt.aL rfl AJ rfl) ?_;refine jk 9 rfl rfl rfl rfl (Qt.aL rfl A0 rfl) ?_;refine JD.take 10 rfl rfl (by kernel_rfl) rfl (qb rfl) (Qt.YV (sl v 0 N N) rfl rfl rfl oz on) rfl ?_;refine JD.gU (i:=11) (by kernel_rfl) ?_;refine JS.st rfl rfl rfl (Ld.bL rfl rfl (by exact rfl) A0) (.pW rfl) (fun _=>?_);refine JD.take 12 rfl rfl (by kernel_rfl) rfl (qb rfl) (Qt.YV (sl v 0 N N) rfl rfl rfl bz q1) rfl ?_;refine JD.gU (i:=13) (by kernel_rfl) ?_;refine JS.st rfl rfl rfl (Ld.bL rfl rfl (by exact rfl) AC) (.pW rfl) (fun _=>?_);refine bE ?_
   rotate_left
   refine JS.q rfl rfl rfl (qb rfl) (Qt.aL rfl A0 rfl) ?_;refine jk 6 rfl rfl rfl rfl (Qt.aL rfl AJ rfl) ?_;refine JD.take 10 rfl rfl (by kernel_rfl) rfl (qb rfl) (Qt.YV (sl v 0 N N) rfl rfl rfl oz on) rfl ?_;refine JD.gU (i:=11) (by kernel_rfl) ?_;refine JS.st rfl rfl rfl (Ld.bL rfl rfl (by exact rfl) A0) (.pW rfl) (fun _=>?_);refine JD.take 12 rfl rfl (by kernel_rfl) rfl (qb rfl) (Qt.YV (sl v 0 N N) rfl rfl rfl bz q1) rfl ?_;refine JD.gU (i:=13) (by kernel_rfl) ?_;refine JS.st rfl rfl rfl (Ld.bL rfl rfl (by exact rfl) AC) (.pW rfl) (fun _=>?_);refine bE ?_
   rotate_left
   all_goals
    refine J.dN (L':=[.row (sl v 0 N N) 3 1 (aF (YR m 0 (j + 1)))]) (by rw [← Zl];rfl) ?_
    repeat (first | (refine K.call ?_;refine JO.ld (Ld.fj ((ZF v 0 N N (j + 1) (YR m 0 (j + 1)) 0 (by rw [Y3];omega) (by rw [Y3];omega) (by omega))) (qb rfl) rfl (by (exact aJ.cons .refl (.cons .refl .nil)))) rfl ?_;intro _) | (refine K.slice ?_;refine jq rfl rfl rfl ((Qt.Vu rfl rfl bz hi (Nat.le_refl _))) ?_) | refine gn ?_)
    exact (ih ⟨(Sx.sink (YR m 0 (j + 1)) (j + 1) 0,((j + 1:Nat):Int) - 1),by simp only [Zi,Y3];exact qm,by simp only;omega,by simp only;omega,by simp only;rw [← qs];congr 1;omega⟩ (by simp only;omega)).aW ⟨rfl,rfl,trivial⟩
  ·have t1:decide (i > 0)=false:=decide_eq_false h;rw [show i.toNat=0 by omega] at qs;rw [← qs]
   repeat (refine gn ?_)
   refine J.ji 2 rfl ?_;exact aD func242
theorem aag {l:List Int} (h:l≠[]):(aF l)[((l.length:Int) - 1).toNat]?=some [nI (l.getLastD 0)]:=by
 have:0 < l.length:=List.length_pos_iff.2 h;unfold aF;rw [show ((l.length:Int) - 1).toNat=l.length - 1 by omega,List.getElem?_map,← List.getLast?_eq_getElem?,List.getLastD_eq_getLast?,List.getLast?_eq_some_getLast h];rfl
theorem aah (l0:List Int) (hl:l0.length≤1000):Pure prog 189 [.c (ints l0)] (.c (ints (Sx.aB l0))):=by
 have CS:=aaf l0 hl;unfold Sx.aB;have ls:(sort l0).length=l0.length:=(ZE l0).2.length_eq;generalize sort l0=s at CS ls ⊢;rw [← ls] at hl;refine an.intro func189 rfl rfl rfl (fun ok e=>?_)
 repeat (refine gn ?_)
 refine J.mg 3 1 ?_;refine J.loop (ι:={ q:Nat × Value × List Int // q.1≤s.length∧(s.drop q.1).foldl iJ q.2.2=s.foldl iJ []∧q.2.2.length≤q.1 }) (fun q=>[(9,.c (nI q.1.1)),(8,.c (nI s.length)),(7,.c (ints s)),(3,.c (.v q.1.2.1))]) (fun q=>[.row q.1.2.1 3 1 (aF q.1.2.2)]) (fun q=>s.length - q.1.1) ⟨(0,.slice none 0 0,[]),Nat.zero_le _,rfl,Nat.le_refl _⟩ (fun X h=>h.aW ⟨rfl,rfl,rfl,rfl,trivial⟩) (fun q ih=>?_);obtain ⟨⟨k,v,acc⟩,qk,qs,qa⟩:=q;simp only at qk qs qa ih ⊢
 by_cases hk:k < s.length
 ·have t1:decide ((k:Int) < (s.length:Int))=true:=decide_eq_true (by omega);have hd:s.drop k=s.getD k 0 :: s.drop (k + 1):=by rw [List.getD_eq_getElem?_getD,List.getElem?_eq_getElem hk];exact List.drop_eq_getElem_cons hk
  have AX:=YZ hk;rw [hd,List.foldl_cons] at qs;generalize s.getD k 0=x at qs AX;unfold iJ at qs;have ne:=fun c:¬ (x≤0∨(0 < acc.length∧acc.getLastD 0=x))=>by rw [if_neg c] at qs;exact qs
  have ye:=fun c:(x≤0∨(0 < acc.length∧acc.getLastD 0=x))=>by rw [if_pos c] at qs;exact qs
  have np:=c7 acc;have nb:((aF acc).length + 1) * 8≤140737488355328:=by omega
  cases t2:decide (x > 0) with
  | false =>
   have qs:=ye (.inl (by simpa using t2))
   repeat (refine gn ?_)
   exact (ih ⟨(k + 1,v,acc),by simp only;omega,qs,by simp only;omega⟩ (by simp only;omega)).aW ⟨rfl,rfl,rfl,rfl,trivial⟩
  | true =>
  have hx:¬ x≤0:=by simpa using t2
  cases t3:((aF acc).length:Int) == 0 with
  | true =>
   have ha:acc=[]:=by rw [c7] at t3;simpa using t3
   have qs:=ne (by rw [ha];simp;omega)
   repeat (first | (refine K.lit ?_;refine JO.ld (Ld.jS (qb rfl) rfl rfl rfl rfl rfl) rfl (fun _=>?_)) | (refine K.bi ?_;refine JO.ld (Ld.cy (qb rfl) rfl rfl .read ((by omega))) rfl (fun _=>?_)) | refine gn ?_)
   refine J.dN ?_ ((ih ⟨(k + 1,_,acc ++ [x]),by simp only;omega,qs,by simp only [List.length_append,List.length_singleton];omega⟩ (by simp only;omega)).aW ⟨rfl,rfl,rfl,rfl,trivial⟩);simp only;unfold aF;rw [List.map_append];rfl
  | false =>
   have ha:acc≠[]:=by rintro rfl;simp [aF] at t3
   have AL:=aag ha;rw [← c7] at AL;have ap:=List.length_pos_iff.2 ha
   cases t4:(acc.getLastD 0 != x) with
   | true =>
    have qs:=ne (by intro c;rcases c with c | c;exact hx c;exact (bne_iff_ne.1 t4) c.2)
    repeat (first | (refine K.load ?_;refine jq rfl rfl rfl (Qt.aL rfl AL rfl) ?_) | (refine K.indexAddr ?_;refine jq rfl rfl rfl (Qt.aI rfl rfl (by omega) (by omega)) ?_) | (refine K.lit ?_;refine JO.ld (Ld.jS (qb rfl) rfl rfl rfl rfl rfl) rfl (fun _=>?_)) | (refine K.bi ?_;refine JO.ld (Ld.cy (qb rfl) rfl rfl .read ((by omega))) rfl (fun _=>?_)) | refine gn ?_)
    refine J.dN ?_ ((ih ⟨(k + 1,_,acc ++ [x]),by simp only;omega,qs,by simp only [List.length_append,List.length_singleton];omega⟩ (by simp only;omega)).aW ⟨rfl,rfl,rfl,rfl,trivial⟩);simp only;unfold aF;rw [List.map_append];rfl
   | false =>
    have qs:=ye (.inr ⟨ap,by simpa using t4⟩)
    repeat (first | (refine K.load ?_;refine jq rfl rfl rfl (Qt.aL rfl AL rfl) ?_) | (refine K.indexAddr ?_;refine jq rfl rfl rfl (Qt.aI rfl rfl (by omega) (by omega)) ?_) | refine gn ?_)
    exact (ih ⟨(k + 1,v,acc),by simp only;omega,qs,by simp only;omega⟩ (by simp only;omega)).aW ⟨rfl,rfl,rfl,rfl,trivial⟩
 ·have t1:decide ((k:Int) < (s.length:Int))=false:=decide_eq_false (by omega);rw [List.drop_eq_nil_of_le (by omega)] at qs;rw [← qs,List.foldl_nil]
  repeat (refine gn ?_)
  refine J.ji 2 rfl ?_;exact aD func189
theorem aai (d:Int) (i:Nat) (hi:i≤1000):Pure prog 241 [.c (nI d),.c (nI i)] (.c (nI (d % ((i:Int) + 1)))):=by
 have w1:IntKind.i64.wrap ((i:Int) + 1)=(i:Int) + 1:=dJ (by omega) (by omega);have m0:=Int.emod_nonneg d (show (i:Int) + 1≠0 by omega);have m1:=Int.emod_lt_of_pos d (show 0 < (i:Int) + 1 by omega);obtain ⟨r,hr⟩:∃ r,d.tmod ((i:Int) + 1)=r:=⟨_,rfl⟩
 have hm:r=d % ((i:Int) + 1)∨r=d % ((i:Int) + 1) - ((i:Int) + 1)∧r < 0:=by
  rw [← hr,Int.tmod_eq_emod]
  split
  ·left;omega
  ·right
   have:((((i:Int) + 1).natAbs:Nat):Int)=(i:Int) + 1:=by omega
   rw [this];exact ⟨rfl,by omega⟩
 have n0:(i:Int) + 1≠0:=by omega
 refine an.intro func241 rfl rfl rfl (fun ok e=>?_)
 cases t1:decide (r < 0) with
 | false =>
  have hz:¬ r < 0:=by simpa using t1
  rw [show d % ((i:Int) + 1)=r by omega]
  repeat (first | (refine K.binOp ?_;first | refine jq rfl rfl rfl ((Qt.cJ rfl rfl rfl w1)) ?_ | refine jq rfl rfl rfl ((Qt.rem rfl rfl n0 hr)) ?_) | refine gn ?_)
  exact aD func241
 | true =>
  have hz:r < 0:=by simpa using t1
  rw [show d % ((i:Int) + 1)=r + ((i:Int) + 1) by omega];have w2:IntKind.i64.wrap (r + ((i:Int) + 1))=r + ((i:Int) + 1):=dJ (by omega) (by omega)
  repeat (first | (refine K.binOp ?_;first | refine jq rfl rfl rfl ((Qt.cJ rfl rfl rfl w1)) ?_ | refine jq rfl rfl rfl ((Qt.rem rfl rfl n0 hr)) ?_ | refine jq rfl rfl rfl ((Qt.cJ rfl rfl rfl w2)) ?_) | refine gn ?_)
  exact aD func241
theorem Zn (ds:List Int):∀ n,(eU ds n).length=n
 | 0=>rfl
 | n + 1=>by unfold eU swap;simp [Zn ds n]
theorem aaj (l:List Int) (i j:Nat):YR l i j=YR l j i:=by
 unfold YR
 by_cases h:i=j
 ·rw [h]
 ·exact List.set_comm _ _ h
theorem aak (ds:List Int) (hl:ds.length≤1000):Pure prog 188 [.c (ints ds)] (.c (ints (eU ds ds.length))):=by
 obtain ⟨N,hN⟩:∃ N,ds.length=N:=⟨_,rfl⟩
 rw [hN] at hl ⊢;refine an.intro func188 rfl rfl rfl (fun ok e=>?_)
 repeat (first | (refine K.make ?_;refine JO.ld (Ld.Dv (N) (qb rfl) rfl rfl (by (omega)) (by omega)) rfl (fun _=>?_)) | refine gn ?_)
 rw [hN];rename_i v;refine J.loop (ι:={ q:Nat × Value // q.1≤N }) (fun q=>[(11,.c (nI q.1.1)),(10,.c (nI N)),(3,.c (.v q.1.2)),(0,.c (ints ds))]) (fun q=>[.row q.1.2 3 1 (aF (eU ds q.1.1))]) (fun q=>N - q.1.1) ⟨(0,sl v 0 0 N),Nat.zero_le _⟩ (fun X h=>h.aW ⟨rfl,rfl,rfl,rfl,trivial⟩) (fun q ih=>?_);obtain ⟨⟨k,v⟩,qk⟩:=q;simp only at qk ih ⊢
 by_cases hk:k < N
 ·have t1:decide ((k:Int) < (N:Int))=true:=decide_eq_true (by omega);have ol:=Zn ds k;have np:=c7 (eU ds k);have nb:((aF (eU ds k)).length + 1) * 8≤140737488355328:=by omega
  have AD:=YZ (l:=ds) (i:=k) (by omega);have CC:=aai (ds.getD k 0) k (by omega);have m0:=Int.emod_nonneg (ds.getD k 0) (show (k:Int) + 1≠0 by omega);have m1:=Int.emod_lt_of_pos (ds.getD k 0) (show 0 < (k:Int) + 1 by omega);have es:eU ds (k + 1)=YR (eU ds k ++ [(k:Int)]) (ds.getD k 0 % ((k:Int) + 1)).toNat k:=by
   rw [eU];rfl
  obtain ⟨j,hj⟩:∃ j:Nat,ds.getD k 0 % ((k:Int) + 1)=(j:Int):=⟨_,(Int.toNat_of_nonneg m0).symm⟩
  rw [hj] at CC es m1;rw [Int.toNat_natCast] at es;generalize hm:eU ds k ++ [(k:Int)]=m at es;have lm:m.length=k + 1:=by rw [← hm];simp [ol]
  have em:aF (eU ds k) ++ [[nI (k:Int)]]=aF m:=by rw [← hm];unfold aF;rw [List.map_append];rfl
  have AJ:=YZ (l:=m) (i:=j) (by omega);have AK:=YZ (l:=m) (i:=k) (by omega);have AC:((aF m).set ((k:Nat):Int).toNat [nI (m.getD j 0)])[((j:Nat):Int).toNat]?=some [nI (if j=k then m.getD j 0 else m.getD j 0)]:=by
   rw [ite_self];simp only [Int.toNat_natCast]
   by_cases c:k=j
   ·subst c;rw [List.getElem?_set_self (by rw [c7];omega)]
   ·rw [List.getElem?_set_ne c];exact AJ
  have lM:=c7 m;have kz:(0:Int)≤(k:Int):=Int.natCast_nonneg _;have jz:(0:Int)≤(j:Int):=Int.natCast_nonneg _;have kn:(k:Int) < ((aF m).length:Int):=by omega
  have jn:(j:Int) < ((aF m).length:Int):=by omega
  repeat (first | (refine K.lit ?_;refine JO.ld (Ld.jS (qb rfl) rfl rfl rfl rfl rfl) rfl (fun _=>?_)) | (refine K.bi ?_;refine JO.ld (Ld.cy (qb rfl) rfl rfl .read ((by omega))) rfl (fun _=>?_)) | refine gn ?_)
  refine J.dN (L':=[.row _ 3 1 (aF m)]) (by rw [← em];rfl) ?_;refine J.draw (by kernel_rfl) rfl ?_;refine JW.sv none (.tmp 3) rfl ?_;refine tk 0 ?_;refine tk 1 ?_;refine tk 2 ?_;refine tk 3 ?_;refine tk 4 ?_;refine tk 5 ?_;refine JD.take 6 rfl rfl (by kernel_rfl) rfl (qb rfl) (Qt.aI rfl rfl jz jn) rfl ?_;refine tk 8 ?_;refine tk 9 ?_;refine JD.take 10 rfl rfl (by kernel_rfl) rfl (qb rfl) (Qt.aI rfl rfl kz kn) rfl ?_;refine JD.cU (i:=7) (j:=11) (by kernel_rfl) ?_ ?_;refine JS.q rfl rfl rfl (qb rfl) (Qt.aL rfl AJ rfl) ?_;refine jk 11 rfl rfl rfl rfl (Qt.aL rfl AK rfl) ?_;refine JD.take 12 rfl rfl (by kernel_rfl) rfl (qb rfl) (Qt.aI rfl rfl kz kn) rfl ?_;refine JD.gU (i:=13) (by kernel_rfl) ?_;refine JS.st rfl rfl rfl (Ld.bL rfl rfl (by exact rfl) AK) (.pW rfl) (fun _=>?_);refine JD.take 14 rfl rfl (by kernel_rfl) rfl (qb rfl) (Qt.aI rfl rfl jz jn) rfl ?_;refine JD.gU (i:=15) (by kernel_rfl) ?_;refine JS.st rfl rfl rfl (Ld.bL rfl rfl (by exact rfl) AC) (.pW rfl) (fun _=>?_);refine bE ?_
  rotate_left
  refine JS.q rfl rfl rfl (qb rfl) (Qt.aL rfl AK rfl) ?_;refine jk 7 rfl rfl rfl rfl (Qt.aL rfl AJ rfl) ?_;refine JD.take 12 rfl rfl (by kernel_rfl) rfl (qb rfl) (Qt.aI rfl rfl kz kn) rfl ?_;refine JD.gU (i:=13) (by kernel_rfl) ?_;refine JS.st rfl rfl rfl (Ld.bL rfl rfl (by exact rfl) AK) (.pW rfl) (fun _=>?_);refine JD.take 14 rfl rfl (by kernel_rfl) rfl (qb rfl) (Qt.aI rfl rfl jz jn) rfl ?_;refine JD.gU (i:=15) (by kernel_rfl) ?_;refine JS.st rfl rfl rfl (Ld.bL rfl rfl (by exact rfl) AC) (.pW rfl) (fun _=>?_);refine bE ?_
  rotate_left
  all_goals
   repeat (refine gn ?_)
   refine J.dN ?_ ((ih ⟨(k + 1,_),by simp only;omega⟩ (by simp only;omega)).aW ⟨rfl,rfl,rfl,rfl,trivial⟩);simp only;rw [es,aaj,← Zl];rfl
 ·obtain rfl:k=N:=by omega
  have t1:decide ((k:Int) < (k:Int))=false:=decide_eq_false (by omega)
  repeat (refine gn ?_)
  refine J.ji 2 rfl ?_;exact aD func188
end Fl
open Go.RowKit
namespace Fl
open Sx Go.Proofs.Tryz
set_option maxRecDepth 100000
theorem aal (b:Nat) (u:U) (s:ah) (g:Nat) (hg:g < s.gs.length) (h0:(aa s g).status=0) :
  an prog 124 [.c (.v u.pB),.c (nI g)] (wd b u s) (fun _:Unit=>(.c (bI true),wd b u (ai s g { aa s g with status:=2,token:=false }))):=by
 have h:=ZP u.pB (s.gs.map fun x=>(x.status,x.token)) u.TB g;have hs:Bc.status (s.gs.map fun x=>(x.status,x.token)) (g:Int)=0:=(Eb hg).trans h0;unfold Bc.Zf Bc.Zg at h;rw [hs] at h;refine an.at_ 7 rfl h fun _=>?_
 rw [if_pos rfl,wH b u s g { aa s g with status:=2,token:=false } hg rfl,Int.toNat_natCast]
theorem aam (b:Nat) (u:U) (s:ah) (n:Int) (h0:0≤s.drawn) (h1:s.drawn≤100000) (hu:∀ x∈s.di,0≤x∧x < 65536) :
  an prog 187 [.c (.v (pt u.bD)),.c (nI n)] (wd b u s) (fun _:Unit=>(.c (nI (Sx.draw s.di s.drawn n).1),wd b u { s with drawn:=(Sx.draw s.di s.drawn n).2 })) :=
 an.at_ 6 rfl (ZV u.bD s.di s.drawn n h0 h1 hu) fun _=>rfl
theorem Rl {s:ah} {g:Nat} (hg:g < s.gs.length):never s g=aK (Sx.gi s g) g fun x=>{ x with place:=19 }:=by
 have e1:aa (Sx.aS s g 19) g={ aa s g with place:=19 }:=by unfold Sx.aS;rw [EW hg,if_pos rfl]
 unfold never Sx.gi aK;rw [e1,EW hg,if_pos rfl];unfold Sx.aS;rw [kS,kS]
 congr 1
 split
 ·rfl
 ·split <;> rfl
theorem ZG (b:Nat) (u:U) (s:ah) (g:Nat) (hg:g < s.gs.length) :
  an prog 125 [.c (.v (pt b)),.c (nI g)] (wd b u s) (fun _:Unit=>(.bp [],wd b u (never s g))):=by
 have W:=Sg b u s g hg;rw [Rl hg];have m8:g < (Sx.gi s g).gs.length:=by unfold Sx.gi;exact EV hg
 generalize Sx.gi s g=S at W m8 ⊢;haveI:Sx.bJ g S:=⟨m8⟩
 refine an.intro func125 rfl rfl rfl (fun ok e=>?_)
 repeat (first | (refine K.store ?_;((refine JO.ld (Ld.bL rfl rfl (by exact rfl) aN) rfl (fun _=>?_)));refine JO.cH b g (fun x=>{ x with place:=19 }) (by exact rfl) ?_) | (refine K.indexAddr ?_;refine jq rfl rfl rfl (Qt.aI rfl rfl cL cM) ?_) | (refine K.call ?_;refine JO.ld (Ld.aY (W) (qb rfl) rfl (by (exact aJ.cons .refl (.cons .refl .nil)))) rfl ?_;intro _) | refine gn ?_)
 (exact J.iV func125 rfl .nil () (by exact .refl) rfl)
theorem aan {s:ah} {g:Nat} (hg:g < s.gs.length) (r:Md.aj) (p:Int):cq s g r p=aK (aK (aK s g fun x=>{ x with res:=r }) g fun x=>{ x with bT:=s.step }) g fun x=>{ x with place:=p }:=by
 rw [gR (wD hg),gR hg];rfl
theorem ZH (b:Nat) (u:U) (s:ah) (g:Nat) (c:Int) (hg:g < s.gs.length) :
  an prog 126 [.c (.v (pt b)),.c (nI g),.c (nI c)] (wd b u s) (fun _:Unit=>(.bp [],wd b u (cq s g (Sx.res c) 18))):=by
 haveI:Sx.bJ g s:=⟨hg⟩
 rw [aan hg];refine an.intro func126 rfl rfl rfl (fun ok e=>?_)
 repeat (first | (refine K.store ?_;first | (first | refine JO.ld (Ld.bL rfl rfl (by exact rfl) aN) rfl (fun _=>?_) | refine JO.ld (Ld.tO rfl rfl rfl (by exact rfl) (by exact rfl) aN) rfl (fun _=>?_));refine JO.cH b g (fun x=>{ x with res:=Sx.res c }) (by exact rfl) ?_ | ((refine JO.ld (Ld.bL rfl rfl (by exact rfl) aN) rfl (fun _=>?_)));refine JO.cH b g (fun x=>{ x with bT:=s.step }) (by exact rfl) ?_ | ((refine JO.ld (Ld.bL rfl rfl (by exact rfl) aN) rfl (fun _=>?_)));refine JO.cH b g (fun x=>{ x with place:=18 }) (by exact rfl) ?_) | (refine K.indexAddr ?_;refine jq rfl rfl rfl (Qt.aI rfl rfl cL cM) ?_) | refine gn ?_)
 (exact J.iV func126 rfl .nil () (by exact .refl) rfl)
theorem aao (b:Nat) (u:U) (s:ah) (g:Nat) (o:Pn.Op) (hg:g < s.gs.length) (oc:o.cases.length≤1000) (d0:0≤s.drawn) (d1:s.drawn≤s.di.length) (d2:s.di.length≤100000) (du:∀ x∈s.di,0≤x∧x < 65536) (no:(aa s g).order=[]) :
  an prog 127 [.c (.v (pt b)),.c (nI g),.agg (dH o)] (wd b u s) (fun _:Unit=>(.bp [],wd b u (ko s g o))):=by
 unfold ko;dsimp only;have dl:=KW s;have dr:=Jp s d0 d1;obtain ⟨n,hn⟩:∃ n,o.cases.length=n:=⟨_,rfl⟩
 rw [hn] at oc ⊢;refine an.intro func127 rfl rfl rfl (fun ok e=>?_)
 repeat (first | (refine K.make ?_;refine JO.ld (Ld.Dv (n) (qb rfl) rfl rfl (by (omega)) (by omega)) rfl (fun _=>?_)) | refine ay ?_ | intro _)
 rename_i b5 v;refine J.loop (ι:={ q:Nat × Value // q.1≤n }) (fun q=>[(21,.c (nI q.1.1)),(20,.c (nI n)),(6,.c (.v q.1.2)),(5,.c (.v (pt b5))),(0,.c (.v (pt b))),(1,.c (nI g))]) (fun q=>.row q.1.2 3 1 (aF (Sx.drawn s q.1.1).1) :: .box b5 50 (dH o) :: wd b u { s with drawn:=(Sx.drawn s q.1.1).2 }) (fun q=>n - q.1.1) ⟨(0,sl v 0 0 n),Nat.zero_le _⟩ (fun X h=>h.aW ⟨rfl,by rw [← hn];rfl,rfl,rfl,rfl,rfl,trivial⟩) (fun q ih=>?_);obtain ⟨⟨k,v⟩,qk⟩:=q;simp only at qk ih ⊢
 by_cases hk:k < n
 ·have t1:decide ((k:Int) < (n:Int))=true:=decide_eq_true (by omega);have W:=aam b u { s with drawn:=(Sx.drawn s k).2 } ((k:Int) + 1) (by have:=(dr k).1;simp only;omega) (by have:=(dr k).2;simp only;omega) du;have np:=c7 (Sx.drawn s k).1;have dk:=dl k;have nb:((aF (Sx.drawn s k).1).length + 1) * 8≤140737488355328:=by omega
  repeat (first | (refine K.call ?_;refine JO.ld (Ld.aY (W) (qb rfl) rfl (by (exact aJ.cons .refl (.cons .refl .nil)))) rfl ?_;intro _) | (refine K.lit ?_;refine JO.ld (Ld.jS (qb rfl) rfl rfl rfl rfl rfl) rfl (fun _=>?_)) | (refine K.bi ?_;refine JO.ld (Ld.cy (qb rfl) rfl rfl .read ((by omega))) rfl (fun _=>?_)) | refine gn ?_)
  refine J.dN ?_ ((ih ⟨(k + 1,_),by simp only;omega⟩ (by simp only;omega)).aW ⟨rfl,rfl,rfl,rfl,rfl,rfl,trivial⟩);simp only;rw [Sx.drawn];unfold aF;rw [List.map_append];rfl
 obtain rfl:k=n:=by omega
 have t1:decide ((k:Int) < (k:Int))=false:=decide_eq_false (by omega);have lk:=dl k;have CO:=aak (Sx.drawn s k).1 (by omega);rw [lk] at CO;have om:=Rf (Sx.drawn s k).1 k;have ol:=Zn (Sx.drawn s k).1 k;generalize eU (Sx.drawn s k).1 k=ord at CO om ol ⊢;generalize (Sx.drawn s k).1=ds at CO ⊢;obtain ⟨S,hS⟩:∃ S,{ s with drawn:=(Sx.drawn s k).2 }=S:=⟨_,rfl⟩
 have gS:aa S g=aa s g:=by rw [← hS];rfl
 have oA:g < S.gs.length:=by rw [← hS];exact hg
 rw [hS];refine J.ji 6 rfl ?_
 repeat (refine gn ?_)
 refine J.mg 3 1 (J.mg 3 1 ?_);obtain ⟨P,hP⟩:∃ P:Int→Bool,(fun i=>aT s (aH o i).ch)=P:=⟨_,rfl⟩
 obtain ⟨C,hC⟩:∃ C:Int→Int,(fun i=>(aH o i).ch)=C:=⟨_,rfl⟩
 rw [hP,hC];refine J.loop (ι:={ q:Nat × Value × Value // q.1≤ord.length }) (fun q=>[(38,.c (nI q.1.1)),(37,.c (nI ord.length)),(36,.c (ints ord)),(8,.c (.v q.1.2.1)),(9,.c (.v q.1.2.2)),(5,.c (.v (pt b5))),(0,.c (.v (pt b))),(1,.c (nI g))]) (fun q=>.row q.1.2.1 3 1 (aF ((ord.take q.1.1).filter P)) :: .row q.1.2.2 3 1 (aF (((ord.take q.1.1).filter P).map C)) :: .box b5 50 (dH o) :: wd b u S) (fun q=>ord.length - q.1.1) ⟨(0,.slice none 0 0,.slice none 0 0),Nat.zero_le _⟩ (fun X h=>h.aW ⟨rfl,rfl,rfl,rfl,rfl,rfl,rfl,rfl,trivial⟩) (fun q ih=>?_);obtain ⟨⟨j,v1,v2⟩,qj⟩:=q;simp only at qj ih ⊢
 by_cases hj:j < ord.length
 ·have t1:decide ((j:Int) < (ord.length:Int))=true:=decide_eq_true (by omega);have AX:=YZ hj;have tk:ord.take (j + 1)=ord.take j ++ [ord.getD j 0]:=by rw [List.take_add_one,List.getD_eq_getElem?_getD,List.getElem?_eq_getElem hj];rfl
  have im:=(om (ord.getD j 0)).1 (by rw [List.getD_eq_getElem?_getD,List.getElem?_eq_getElem hj];exact List.getElem_mem hj);have l1:((ord.take j).filter P).length≤1000:=Nat.le_trans (List.length_filter_le _ _) (by rw [List.length_take];omega);generalize ord.getD j 0=i at AX tk im;have AC:=at_case im.1 (by omega:i < o.cases.length);have W:=Pd b u S (aH o i).ch;have n1:=c7 ((ord.take j).filter P);have n2:=c7 (((ord.take j).filter P).map C);rw [List.length_map] at n2;have b1:((aF ((ord.take j).filter P)).length + 1) * 8≤140737488355328:=by omega
  have b2:((aF (((ord.take j).filter P).map C)).length + 1) * 8≤140737488355328:=by omega
  have tf:(ord.take (j + 1)).filter P=(ord.take j).filter P ++ if P i then [i] else []:=by rw [tk,List.filter_append];congr 1;rw [List.filter_cons];rfl
  have ei:(aH o i).ch=C i:=by rw [← hC]
  have ep:aT S (aH o i).ch=P i:=by rw [← hP,← hS];rfl
  rw [ep] at W
  cases hp:P i with
  | true =>
   rw [hp] at W tf
   repeat (first | (refine K.call ?_;refine JO.ld (Ld.aY (W) (qb rfl) rfl (by (exact aJ.cons .refl (.cons .refl .nil)))) rfl ?_;intro _) | (refine K.lit ?_;refine JO.ld (Ld.jS (qb rfl) rfl rfl rfl rfl rfl) rfl (fun _=>?_)) | (refine K.bi ?_;refine JO.ld (Ld.cy (qb rfl) rfl rfl .read ((by omega))) rfl (fun _=>?_)) | refine gn ?_)
   refine J.perm (List.Perm.swap _ _ _) (J.dN ?_ ((ih ⟨(j + 1,_,_),by simp only;omega⟩ (by simp only;omega)).aW ⟨rfl,rfl,rfl,rfl,rfl,rfl,rfl,rfl,trivial⟩));simp only;rw [tf,if_pos rfl,ei];unfold aF;simp only [List.map_append];rfl
  | false =>
   rw [hp] at W tf;rw [if_neg (by simp),List.append_nil] at tf
   repeat (first | (refine K.call ?_;refine JO.ld (Ld.aY (W) (qb rfl) rfl (by (exact aJ.cons .refl (.cons .refl .nil)))) rfl ?_;intro _) | refine gn ?_)
   refine J.dN ?_ ((ih ⟨(j + 1,v1,v2),by simp only;omega⟩ (by simp only;omega)).aW ⟨rfl,rfl,rfl,rfl,rfl,rfl,rfl,rfl,trivial⟩);simp only;rw [tf]
 obtain rfl:j=ord.length:=by omega
 have t1:decide ((ord.length:Int) < (ord.length:Int))=false:=decide_eq_false (by omega);rw [List.take_length];have gl:(ord.filter P).length≤1000:=Nat.le_trans (List.length_filter_le _ _) (by omega);generalize ord.filter P=gj at gl ⊢;have CL:=aah (gj.map C) (by rw [List.length_map];exact gl);have li:(gj.map C).length=gj.length:=List.length_map ..;generalize gj.map C=ids at CL li ⊢;have lg:=c7 gj;haveI:Sx.bJ g S:=⟨oA⟩
 have e0:aK (aK S g fun x=>{ x with order:=gj }) g (fun x=>{ x with aB:=Sx.aB ids })=ai S g { aa s g with order:=gj,aB:=Sx.aB ids }:=by
  rw [gR oA];unfold aK;rw [gS]
 have e1:ai S g { aa s g with order:=gj,aB:=Sx.aB ids,place:=24 }=aK (aK (aK S g fun x=>{ x with order:=gj }) g (fun x=>{ x with aB:=Sx.aB ids })) g fun x=>{ x with place:=24 }:=by
  rw [gR (wD oA),gR oA];unfold aK;rw [gS]
 rw [no,List.nil_append];refine J.ji 8 rfl (J.ji 9 rfl ?_)
 by_cases c:0 < ids.length
 ·rw [if_pos c,e1];have t2:decide ((gj.length:Int) > 0)=true:=decide_eq_true (by omega)
  repeat (first | (refine K.store ?_;first | ((refine JO.ld (Ld.bL rfl rfl (by exact rfl) aN) rfl (fun _=>?_)));refine JO.cH b g (fun x=>{ x with order:=gj }) (by exact rfl) ?_ | ((refine JO.ld (Ld.bL rfl rfl (by exact rfl) aN) rfl (fun _=>?_)));refine JO.cH b g (fun x=>{ x with aB:=Sx.aB ids }) (by exact rfl) ?_ | ((refine JO.ld (Ld.bL rfl rfl (by exact rfl) aN) rfl (fun _=>?_)));refine JO.cH b g (fun x=>{ x with place:=24 }) (by exact rfl) ?_) | (refine K.indexAddr ?_;refine jq rfl rfl rfl (Qt.aI rfl rfl cL cM) ?_) | refine gn ?_)
  (exact J.jF [_] rfl func127 rfl .nil () (by exact .refl) rfl)
 ·rw [if_neg c];have t2:decide ((gj.length:Int) > 0)=false:=decide_eq_false (by omega);obtain ⟨T,hT⟩:∃ T,aK (aK S g fun x=>{ x with order:=gj }) g (fun x=>{ x with aB:=Sx.aB ids })=T:=⟨_,rfl⟩
  have ZI:g < T.gs.length:=by rw [← hT];exact Sx.bJ.h
  have CN:=ZG b u T g ZI;have CA:=ZH b u T g 2 ZI;have e2:cq (ai S g { aa s g with order:=gj,aB:=Sx.aB ids,place:=24 }) g (Sx.res 2) 18=cq T g (Sx.res 2) 18:=by
   rw [← hT,e0,EJ _ _ _ _ _ oA,EJ _ _ _ _ _ oA]
  have e3:never (ai S g { aa s g with order:=gj,aB:=Sx.aB ids,place:=24 }) g=never T g:=by
   rw [← hT,e0];unfold never Sx.aS;rw [EW oA,if_pos rfl,EW oA,if_pos rfl,kS,kS]
  rw [e2,e3];rw [← hT] at CN CA;obtain ⟨ok_,och,on_,ov,Ga,oe⟩:=o
  cases oe with
  | true =>
   rw [if_pos rfl,← hT]
   repeat (first | (refine K.store ?_;first | ((refine JO.ld (Ld.bL rfl rfl (by exact rfl) aN) rfl (fun _=>?_)));refine JO.cH b g (fun x=>{ x with order:=gj }) (by exact rfl) ?_ | ((refine JO.ld (Ld.bL rfl rfl (by exact rfl) aN) rfl (fun _=>?_)));refine JO.cH b g (fun x=>{ x with aB:=Sx.aB ids }) (by exact rfl) ?_) | (refine K.indexAddr ?_;refine jq rfl rfl rfl (Qt.aI rfl rfl cL cM) ?_) | (refine K.call ?_;(refine JO.ld (Ld.aY (CA) (qb rfl) rfl (by (exact aJ.cons .refl (.cons .refl (.cons .refl .nil))))) rfl ?_;intro _)) | refine gn ?_)
   (exact J.jF [_] rfl func127 rfl .nil () (by exact .refl) rfl)
  | false =>
   rw [if_neg (by simp),← hT]
   repeat (first | (refine K.store ?_;first | ((refine JO.ld (Ld.bL rfl rfl (by exact rfl) aN) rfl (fun _=>?_)));refine JO.cH b g (fun x=>{ x with order:=gj }) (by exact rfl) ?_ | ((refine JO.ld (Ld.bL rfl rfl (by exact rfl) aN) rfl (fun _=>?_)));refine JO.cH b g (fun x=>{ x with aB:=Sx.aB ids }) (by exact rfl) ?_) | (refine K.indexAddr ?_;refine jq rfl rfl rfl (Qt.aI rfl rfl cL cM) ?_) | (refine K.call ?_;(refine JO.ld (Ld.aY (CN) (qb rfl) rfl (by (exact aJ.cons .refl (.cons .refl .nil)))) rfl ?_;intro _)) | refine gn ?_)
   (exact J.jF [_] rfl func127 rfl .nil () (by exact .refl) rfl)
end Fl
end Go.Proofs.YtdjhhbpedllnhaaGreat
