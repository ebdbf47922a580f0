/-
  What the laws need, part B18.
  Conditions: none.
-/
import Derived.Test.YtgjpdogjekmemaaGreatB15
set_option linter.unusedVariables false
set_option linter.unusedSimpArgs false
set_option linter.unnecessarySimpa false
set_option maxHeartbeats 2000000
namespace Go.Proofs.YtgjpdogjekmemaaGreat
open Go.RowKit
namespace Fl
open Sx Go.Proofs.Tryz
set_option maxRecDepth 100000
theorem JO.Di {P:Program} {c:Cx} {k:List Item} {f:Fm} {L:List ak} {ops:Array Oper} {l:List Oper} {T:TypeId} {ps:String} {af:Array Edge} {gd:Option (Nat × Bool)} {t:Nat} {F:FuncId} {args:List Operand} {tys:Array TypeId} {cV ds:List D} {e:TypeId} {sz:Nat} {ll:List (List A)} [i:aS P F] (hC:aA P F ds [] (fun v:Value=>(D.c (.v v),[ak.row v e sz ll]))) (hw:dD ops ⟨some t,.call ⟨.value (.func F),args.toArray,tys⟩,T,ps,af,gd⟩ f=true) (ht:t < c.N) (h:fS f args=some cV) (hle:bR cV ds)
  (hk:∀ v,JO P c ops l k ((t,.c (.v v)) :: f) (.row v e sz ll :: L)):JO P c ops (⟨some t,.call ⟨.value (.func F),args.toArray,tys⟩,T,ps,af,gd⟩ :: l) k f L :=
 JO.call hC hw ht h hle (Ll:=[]) (Lr:=L) rfl hk
theorem K5 (l:List Int) (a n:Int) (h0:0≤a) (h1:a≤100000) (hu:∀ x∈l,0≤x∧x < 65536) :
  Pure prog 163 [.c (uI l),.c (nI a),.c (nI n)] (.aU [.c (nI (Sx.draw l a n).1),.c (nI (Sx.draw l a n).2)]):=by
 refine aA.intro func163 rfl rfl rfl (fun ok e=>?_)
 by_cases hn:n < 1
 ·have e1:Sx.draw l a n=(0,a):=by unfold Sx.draw;rw [if_pos (.inl hn)]
  rw [e1];have c1:(decide (n < 1))=true:=decide_eq_true hn
  repeat (refine gn ?_)
  exact az func163
 ·have c1:(decide (n < 1))=false:=decide_eq_false hn
  by_cases ha:(l.length:Int)≤a
  ·have e1:Sx.draw l a n=(0,a):=by unfold Sx.draw;rw [if_pos (.inr ha)]
   rw [e1];have c2:(decide (a ≥ (l.length:Int)))=true:=decide_eq_true ha
   repeat (refine gn ?_)
   exact az func163
  ·have c2:(decide (a ≥ (l.length:Int)))=false:=decide_eq_false ha;have e1:Sx.draw l a n=(aB l a % n,a + 1):=by unfold Sx.draw;rw [if_neg (by omega)]
   rw [e1];have hx:=hu _ (nF h0 (by omega:a < l.length));have w1:IntKind.i64.wrap (aB l a)=aB l a:=aV (by omega) (by omega);have w2:(aB l a).tmod n=aB l a % n:=Int.tmod_eq_emod_of_nonneg hx.1
   repeat (first | (refine K.indexAddr ?_;refine jx rfl rfl rfl rfl (by omega) (E7 h0 (by omega)) ?_) | (refine K.binOp ?_;refine jq rfl rfl rfl (Qt.rem rfl rfl (by omega) w2) ?_) | (refine K.convert ?_;refine jq rfl rfl rfl (Qt.conv rfl w1) ?_) | refine gn ?_)
   exact az func163
theorem K7 (d n:Int) (h0:0≤d) (h1:1≤n) (h2:n≤100000) :
  Pure prog 172 [.c (nI d),.c (nI n)] (.c (nI (d % n))):=by
 have w1:d.tmod n=d % n:=Int.tmod_eq_emod_of_nonneg h0;have b1:=Int.emod_nonneg d (by omega:n≠0);have b2:=Int.emod_lt_of_pos d (by omega:0 < n);have w2:(d % n + n).tmod n=d % n:=by
  rw [Int.tmod_eq_emod_of_nonneg (by omega),Int.add_emod_right,Int.emod_emod_of_dvd _ (Int.dvd_refl n)]
 refine aA.intro func172 rfl rfl rfl (fun ok e=>?_)
 repeat (first | (refine K.binOp ?_;first | refine jq rfl rfl rfl (Qt.rem rfl rfl (by omega) w1) ?_ | refine jq rfl rfl rfl (Qt.rem rfl rfl (by omega) w2) ?_) | refine gn ?_)
 exact az func172
theorem K8 (l:List Int) (hb:l.length≤50000) :
  Pure prog 173 [.c (ints l)] (.c (ints (sort l))):=by
 refine aA.intro func173 rfl rfl rfl (fun ok e=>?_);have ins:∀ (x:Int) (a:List Int) (k:Nat),(∀ (j:Nat) (y:Int),j < k→a[j]?=some y→y≤x)→k≤a.length→(∀ y,a[k]?=some y→x < y)→Sx.insert x a=a.take k ++ x :: a.drop k:=by
  intro x a
  induction a with
  | nil=>intro k _ hk _;simp at hk;subst hk;rfl
  | cons y a ih =>
   intro k h1 h2 h3;unfold Sx.insert
   cases k with
   | zero=>have:=h3 y rfl;rw [if_neg (by omega)];rfl
   | succ k =>
    have:=h1 0 y (by omega) rfl;rw [if_pos this,ih k (fun j z hj hz=>h1 (j + 1) z (by omega) (by simpa using hz)) (by simp at h2;omega) (fun z hz=>h3 z (by simpa using hz))];rfl
 have y7:∀ (x:Int) (a:List Int),(Sx.insert x a).length=a.length + 1:=by
  intro x a
  induction a with
  | nil=>rfl
  | cons y a ih=>unfold Sx.insert;split <;> simp [ih]
 have lens:∀ k,(sort (l.take k)).length≤k:=by
  intro k;unfold sort;have:∀ (m acc:List Int),(m.foldl (fun acc x=>Sx.insert x acc) acc).length=acc.length + m.length:=by
   intro m
   induction m with
   | nil=>intro acc;simp
   | cons y m ih=>intro acc;rw [List.foldl_cons,ih,y7];simp;omega
  rw [this];simp;omega
 repeat (first | refine au ?_ | intro _)
 refine J.gy 3 rfl ?_;refine J.loop (ι:={ k:Nat // k≤l.length }) (fun p=>[(9,.c (ints l)),(10,.c (nI l.length)),(11,.c (nI p.1)),(3,.c (ints (sort (l.take p.1))))]) (fun p=>[]) (fun p=>l.length - p.1) ⟨0,Nat.zero_le _⟩ (fun X h=>h.aF ⟨rfl,rfl,rfl,rfl,trivial⟩) (fun p ih=>?_);obtain ⟨k,iH⟩:=p;simp only at ih ⊢
 by_cases hk:k < l.length
 ·obtain ⟨x,hx⟩:∃ y,l[k]?=some y:=⟨_,List.getElem?_eq_getElem hk⟩
  have h1:(decide ((k:Int) < (l.length:Int)))=true:=by simpa using hk
  have e1:sort (l.take (k + 1))=Sx.insert x (sort (l.take k)):=by
   rw [take_one hx];unfold sort;rw [List.foldl_append];rfl
  have lk:=lens k;generalize La:sort (l.take k)=acc at *
  repeat (refine gn ?_)
  refine J.loop (ι:={ q:Nat // q≤acc.length∧∀ (j:Nat) (y:Int),j < q→acc[j]?=some y→y≤x }) (fun q=>[(6,.c (nI q.1)),(5,.c (nI x)),(9,.c (ints l)),(10,.c (nI l.length)),(11,.c (nI k)),(3,.c (ints acc))]) (fun q=>[]) (fun q=>acc.length - q.1) ⟨0,Nat.zero_le _,fun j y h=>absurd h (Nat.not_lt_zero _)⟩ (fun X h=>h.aF ⟨rfl,rfl,rfl,rfl,rfl,rfl,trivial⟩) (fun q iO=>?_);obtain ⟨q,hq,Dj⟩:=q;simp only at iO ⊢;have fin:(∀ y,acc[q]?=some y→x < y)→sort (l.take (k + 1))=acc.take q ++ x :: acc.drop q:=fun h=>by rw [e1];exact ins x acc q Dj hq h
  have ct:((acc.map fun n=>[nI n]).take ((q:Int)).toNat).drop (0:Int).toNat=(acc.take q).map fun n=>[nI n]:=AL rfl
  have cd:((acc.map fun n=>[nI n]).take (((acc.map fun n=>[nI n]).length:Int)).toNat).drop ((q:Int)).toNat=(acc.drop q).map fun n=>[nI n]:=by
   simp;rw [List.take_of_length_le (by simp)]
  by_cases rK:q < acc.length
  ·obtain ⟨y,hy⟩:∃ y,acc[q]?=some y:=⟨_,List.getElem?_eq_getElem rK⟩
   have h2:(decide ((q:Int) < (acc.length:Int)))=true:=by simpa using rK
   by_cases y8:y≤x
   ·have h3:(decide (y≤x))=true:=decide_eq_true y8
    repeat (refine gn ?_)
    exact (iO ⟨q + 1,by omega,fun j z hj hz=>by
     rcases Nat.lt_succ_iff_lt_or_eq.1 hj with h | h
     ·exact Dj j z h hz
     ·subst h;rw [hy] at hz;cases hz;exact y8⟩ (by simp only;omega)).aF ⟨rfl,rfl,rfl,rfl,rfl,rfl,trivial⟩
   ·have h3:(decide (y≤x))=false:=decide_eq_false y8;have ef:=fin (fun z hz=>by rw [hy] at hz;cases hz;omega)
    repeat (first | (refine K.slice ?_;first | refine jq rfl rfl rfl ((Qt.j7 rfl rfl rfl (by (omega)) (by (omega)) (by (simp;omega))).eq (congrArg (fun z=>D.c (A.r 1 z)) ct)) ?_ | refine jq rfl rfl rfl ((Qt.j7 rfl rfl rfl (by (omega)) (by (simp;omega)) (by (omega))).eq (congrArg (fun z=>D.c (A.r 1 z)) cd)) ?_) | (refine K.bi ?_;first | refine JO.ld (Ld.bO (qb rfl) rfl rfl .read (by first | (simp;omega) | simp)) rfl (fun _=>?_) | refine JO.ld (Ld.bO (qb rfl) rfl rfl .cX (by (simp;omega))) rfl (fun _=>?_)) | refine au ?_ | intro _)
    refine J.gy 3 rfl ?_;refine J.ep 0 ?_;have e5:([] ++ List.map (fun n=>[nI n]) (List.take q acc) ++ [[nI x]] ++ List.map (fun n=>[nI n]) (List.drop q acc))=(sort (l.take (k + 1))).map (fun n=>[nI n]):=by rw [ef];simp
    rw [e5];exact (ih ⟨k + 1,by omega⟩ (by simp only;omega)).aF ⟨rfl,rfl,rfl,rfl,trivial⟩
  ·have h2:(decide ((q:Int) < (acc.length:Int)))=false:=by simpa using rK
   have ef:=fin (fun z hz=>by have:=(List.getElem?_eq_some_iff.1 hz).1;omega)
   repeat (first | (refine K.slice ?_;first | refine jq rfl rfl rfl ((Qt.j7 rfl rfl rfl (by (omega)) (by (omega)) (by (simp;omega))).eq (congrArg (fun z=>D.c (A.r 1 z)) ct)) ?_ | refine jq rfl rfl rfl ((Qt.j7 rfl rfl rfl (by (omega)) (by (simp;omega)) (by (omega))).eq (congrArg (fun z=>D.c (A.r 1 z)) cd)) ?_) | (refine K.bi ?_;first | refine JO.ld (Ld.bO (qb rfl) rfl rfl .read (by first | (simp;omega) | simp)) rfl (fun _=>?_) | refine JO.ld (Ld.bO (qb rfl) rfl rfl .cX (by (simp;omega))) rfl (fun _=>?_)) | refine au ?_ | intro _)
   refine J.gy 3 rfl ?_;refine J.ep 0 ?_;have e5:([] ++ List.map (fun n=>[nI n]) (List.take q acc) ++ [[nI x]] ++ List.map (fun n=>[nI n]) (List.drop q acc))=(sort (l.take (k + 1))).map (fun n=>[nI n]):=by rw [ef];simp
   rw [e5];exact (ih ⟨k + 1,by omega⟩ (by simp only;omega)).aF ⟨rfl,rfl,rfl,rfl,trivial⟩
 ·have h1:(decide ((k:Int) < (l.length:Int)))=false:=by simpa using hk
  repeat (refine gn ?_)
  refine J.ret func173 rfl (.cons (.tmp rfl) .nil) () (.of_eq ?_) [] .nil rfl rfl;rw [List.take_of_length_le (show l.length≤k by omega)];rfl
theorem vT (ds:List Int):∀ n,(dx ds n).length=n
 | 0=>rfl
 | n + 1=>by simp [dx,swap,vT ds n]
theorem Dk (ds:List Int):∀ n m,n≤m→dx (ds.take m) n=dx ds n
 | 0,m,h=>rfl
 | n + 1,m,h=>by
  unfold dx;rw [Dk ds n m (by omega)]
  congr 2
  rw [List.getD_eq_getElem?_getD,List.getD_eq_getElem?_getD,List.getElem?_take,if_pos (by omega)]
theorem Dl:∀ (n:Nat) (ds:List Int),ds.length=n→n≤50000→(∀ x∈ds,0≤x) →
  aA prog 164 [.c (ints ds)] [] (fun v:Value=>(.c (.v v),[.row v 3 1 ((dx ds n).map fun n=>[nI n])]))
 | 0,ds,hn,hb,h0=>by
  refine aA.intro func164 rfl rfl rfl (fun ok e=>?_);have nr:((ds.length:Int) == 0)=true:=by simp [hn]
  repeat (first | refine au ?_ | intro _)
  exact J.ret func164 rfl (.cons (.tmp rfl) .nil) _ (by exact .refl) [0] (by decide) rfl rfl
 | n + 1,ds,hn,hb,h0=>by
  have ih:=Dl n (ds.take n) (by simp;omega) (by omega) (fun x hx=>h0 x (List.mem_of_mem_take hx));rw [Dk ds n n (Nat.le_refl _)] at ih;refine aA.intro func164 rfl rfl rfl (fun ok e=>?_);have Dm:(ds.length:Int)=n + 1:=by omega
  have nr:((ds.length:Int) == 0)=false:=by rw [Dm];simp;omega
  have hlen:=vT ds n;obtain ⟨d,hd⟩:∃ d,ds[n]?=some d:=⟨_,List.getElem?_eq_getElem (by omega)⟩
  have Lb:=h0 d (List.mem_of_getElem? hd);have a1:IntKind.i64.wrap ((ds.length:Int) - 1)=(n:Int):=by rw [aV (by omega) (by omega)];omega
  have ct:((ds.map fun n=>[nI n]).take ((n:Int)).toNat).drop (0:Int).toNat=(ds.take n).map fun n=>[nI n]:=AL rfl
  have eo:dx ds (n + 1)=swap (dx ds n ++ [(n:Int)]) (d % (n + 1)).toNat n:=by
   show swap _ _ _=_;rw [List.getD_eq_getElem?_getD,hd];rfl
  have CN:=K7 d ds.length Lb (by omega) (by omega);have k0:0≤d % (ds.length:Int):=Int.emod_nonneg d (by omega);have k1:d % (ds.length:Int) < n + 1:=by have:=Int.emod_lt_of_pos d (by omega:0 < (ds.length:Int));omega
  rw [← Dm] at eo;generalize d % (ds.length:Int)=kk at *;have q1:(List.map (fun n=>[nI n]) (dx ds n) ++ [[A.v (Value.int IntKind.i64 ↑n)]])[((n:Int)).toNat]?=some [nI n]:=by
   rw [List.getElem?_append_right (by simp [hlen])];simp [hlen];rfl
  have eX:List.map (fun n=>[nI n]) (dx ds n) ++ [[A.v (Value.int IntKind.i64 ↑n)]]=(dx ds n ++ [(n:Int)]).map (fun n=>[nI n]):=by simp;rfl
  have q2:(List.map (fun n=>[nI n]) (dx ds n) ++ [[A.v (Value.int IntKind.i64 ↑n)]])[kk.toNat]?=some [nI ((dx ds n ++ [(n:Int)]).getD kk.toNat 0)]:=by
   rw [eX];exact at_map (xQ (by simp;omega))
  have hX:(List.map (fun n=>[nI n]) (dx ds n) ++ [[A.v (Value.int IntKind.i64 ↑n)]]).length=n + 1:=by simp [hlen]
  have e6:(((List.map (fun n=>[nI n]) (dx ds n) ++ [[A.v (Value.int IntKind.i64 ↑n)]]).set kk.toNat [nI ↑n]).set ((n:Int)).toNat [nI ((dx ds n ++ [(n:Int)]).getD kk.toNat 0)])=(dx ds (n + 1)).map (fun n=>[nI n]):=by
   rw [eo,eX];unfold swap;rw [List.map_set,List.map_set];have:(dx ds n ++ [(n:Int)]).getD n 0=n:=by
    rw [List.getD_eq_getElem?_getD,List.getElem?_append_right (by omega),hlen];simp
   rw [this];rfl
  repeat (first | (refine K.binOp ?_;refine jq rfl rfl rfl (Qt.aD rfl rfl rfl a1) ?_) | (refine K.call ?_;(refine JO.Di (ih) rfl (qb rfl) rfl ?_ ?_;(focus ((repeat (first | exact bR.nil | refine bR.cons dm.refl ?_));done));intro _)) | (refine K.slice ?_;refine jq rfl rfl rfl ((Qt.j7 rfl rfl rfl (by (omega)) (by (omega)) (by (simp;omega))).eq (congrArg (fun z=>D.c (A.r 1 z)) ct)) ?_) | (refine K.bi ?_;refine JO.ld (Ld.bO (qb rfl) rfl rfl .cX (by (simp;omega))) rfl (fun _=>?_)) | refine au ?_ | intro _)
  refine J.draw (by kernel_rfl) rfl ?_;refine JW.base (some 15) ?_;refine tk 0 ?_;refine tk 1 ?_;refine tk 5 ?_;refine tk 6 ?_;refine JD.take 7 rfl rfl (by kernel_rfl) rfl (qb rfl) (Qt.aD rfl rfl rfl a1) rfl ?_;refine JD.take 8 rfl rfl (by kernel_rfl) rfl (qb rfl) (Qt.aN rfl rfl (by omega) (by omega)) rfl ?_;refine JD.take 9 rfl rfl (by kernel_rfl) rfl (qb rfl) (Qt.rF rfl q1 rfl) rfl ?_;refine JD.xj 10 rfl rfl (by kernel_rfl) rfl (qb rfl) (Qt.move rfl) rfl ?_;refine JD.xj 11 rfl rfl (by kernel_rfl) rfl (qb rfl) (Qt.move rfl) rfl ?_;refine JD.xj 12 rfl rfl (by kernel_rfl) rfl (qb rfl) (Qt.aN rfl rfl (by omega) (by omega)) rfl ?_;refine JD.take 13 rfl rfl (by kernel_rfl) rfl (qb rfl) (Qt.rF rfl q2 rfl) rfl ?_;refine JD.take 14 rfl rfl (by kernel_rfl) rfl (qb rfl) (Qt.aN rfl rfl (by omega) (by (try rw [List.length_set]);omega)) rfl ?_;refine JD.zQ (i:=2) (j:=3) (q:=15) (by kernel_rfl) ?_ ?_ ?_;refine JS.q rfl rfl rfl (qb rfl) (Qt.move rfl) ?_;refine JD.cF (i:=3) (j:=15) (by kernel_rfl) ?_ ?_;refine JS.q rfl rfl rfl (qb rfl) (Qt.move rfl) ?_;refine JD.cF (i:=4) (j:=15) (by kernel_rfl) ?_ ?_;refine JS.q rfl rfl rfl (qb rfl) (Qt.aD rfl rfl rfl a1) ?_;refine jt 15 rfl rfl (Ld.bM rfl rfl rfl (by exact rfl) (by (try rw [List.length_set]);omega)) (fun _=>?_);refine JW.base (some 17) ?_;refine JD.take 16 rfl rfl (by kernel_rfl) rfl (qb rfl) (Qt.aN rfl rfl (by omega) (by (try rw [List.length_set]);omega)) rfl ?_;refine jt 17 rfl rfl (Ld.bM rfl rfl rfl (by exact rfl) (by (try rw [List.length_set]);omega)) (fun _=>?_);refine cH ?_
  rotate_left
  refine JS.last rfl rfl (Ld.bM rfl rfl rfl (by exact rfl) (by (try rw [List.length_set]);omega)) (fun _=>?_);refine JW.base (some 17) ?_;refine JD.take 4 rfl rfl (by kernel_rfl) rfl (qb rfl) (Qt.aD rfl rfl rfl a1) rfl ?_;refine JD.take 16 rfl rfl (by kernel_rfl) rfl (qb rfl) (Qt.aN rfl rfl (by omega) (by (try rw [List.length_set]);omega)) rfl ?_;refine jt 17 rfl rfl (Ld.bM rfl rfl rfl (by exact rfl) (by (try rw [List.length_set]);omega)) (fun _=>?_);refine cH ?_
  rotate_left
  refine JS.last rfl rfl (Ld.bM rfl rfl rfl (by exact rfl) (by (try rw [List.length_set]);omega)) (fun _=>?_);refine JW.base (some 17) ?_;refine tk 3 ?_;refine JD.take 4 rfl rfl (by kernel_rfl) rfl (qb rfl) (Qt.aD rfl rfl rfl a1) rfl ?_;refine JD.take 16 rfl rfl (by kernel_rfl) rfl (qb rfl) (Qt.aN rfl rfl (by omega) (by (try rw [List.length_set]);omega)) rfl ?_;refine jt 17 rfl rfl (Ld.bM rfl rfl rfl (by exact rfl) (by (try rw [List.length_set]);omega)) (fun _=>?_);refine cH ?_
  rotate_left
  refine JS.q rfl rfl rfl (qb rfl) (Qt.move rfl) ?_;refine JD.zQ (i:=2) (j:=4) (q:=15) (by kernel_rfl) ?_ ?_ ?_;refine JS.q rfl rfl rfl (qb rfl) (Qt.move rfl) ?_;refine JD.cF (i:=4) (j:=15) (by kernel_rfl) ?_ ?_;refine JS.q rfl rfl rfl (qb rfl) (Qt.aD rfl rfl rfl a1) ?_;refine jt 15 rfl rfl (Ld.bM rfl rfl rfl (by exact rfl) (by (try rw [List.length_set]);omega)) (fun _=>?_);refine JW.base (some 17) ?_;refine JD.take 16 rfl rfl (by kernel_rfl) rfl (qb rfl) (Qt.aN rfl rfl (by omega) (by (try rw [List.length_set]);omega)) rfl ?_;refine jt 17 rfl rfl (Ld.bM rfl rfl rfl (by exact rfl) (by (try rw [List.length_set]);omega)) (fun _=>?_);refine cH ?_
  rotate_left
  refine JS.last rfl rfl (Ld.bM rfl rfl rfl (by exact rfl) (by (try rw [List.length_set]);omega)) (fun _=>?_);refine JW.base (some 17) ?_;refine JD.take 4 rfl rfl (by kernel_rfl) rfl (qb rfl) (Qt.aD rfl rfl rfl a1) rfl ?_;refine JD.take 16 rfl rfl (by kernel_rfl) rfl (qb rfl) (Qt.aN rfl rfl (by omega) (by (try rw [List.length_set]);omega)) rfl ?_;refine jt 17 rfl rfl (Ld.bM rfl rfl rfl (by exact rfl) (by (try rw [List.length_set]);omega)) (fun _=>?_);refine cH ?_
  rotate_left
  refine JS.q rfl rfl rfl (qb rfl) (Qt.aD rfl rfl rfl a1) ?_;refine JD.cF (i:=2) (j:=15) (by kernel_rfl) ?_ ?_;refine JS.q rfl rfl rfl (qb rfl) (Qt.move rfl) ?_;refine jt 15 rfl rfl (Ld.bM rfl rfl rfl (by exact rfl) (by (try rw [List.length_set]);omega)) (fun _=>?_);refine JW.base (some 17) ?_;refine JD.take 16 rfl rfl (by kernel_rfl) rfl (qb rfl) (Qt.aN rfl rfl (by omega) (by (try rw [List.length_set]);omega)) rfl ?_;refine jt 17 rfl rfl (Ld.bM rfl rfl rfl (by exact rfl) (by (try rw [List.length_set]);omega)) (fun _=>?_);refine cH ?_
  rotate_left
  refine JS.last rfl rfl (Ld.bM rfl rfl rfl (by exact rfl) (by (try rw [List.length_set]);omega)) (fun _=>?_);refine JW.base (some 17) ?_;refine tk 2 ?_;refine JD.take 16 rfl rfl (by kernel_rfl) rfl (qb rfl) (Qt.aN rfl rfl (by omega) (by (try rw [List.length_set]);omega)) rfl ?_;refine jt 17 rfl rfl (Ld.bM rfl rfl rfl (by exact rfl) (by (try rw [List.length_set]);omega)) (fun _=>?_);refine cH ?_
  rotate_left
  refine JS.last rfl rfl (Ld.bM rfl rfl rfl (by exact rfl) (by (try rw [List.length_set]);omega)) (fun _=>?_);refine JW.base (some 17) ?_;refine tk 2 ?_;refine JD.take 4 rfl rfl (by kernel_rfl) rfl (qb rfl) (Qt.aD rfl rfl rfl a1) rfl ?_;refine JD.take 16 rfl rfl (by kernel_rfl) rfl (qb rfl) (Qt.aN rfl rfl (by omega) (by (try rw [List.length_set]);omega)) rfl ?_;refine jt 17 rfl rfl (Ld.bM rfl rfl rfl (by exact rfl) (by (try rw [List.length_set]);omega)) (fun _=>?_);refine cH ?_
  rotate_left
  refine JS.last rfl rfl (Ld.bM rfl rfl rfl (by exact rfl) (by (try rw [List.length_set]);omega)) (fun _=>?_);refine JW.base (some 17) ?_;refine tk 2 ?_;refine tk 3 ?_;refine JD.take 4 rfl rfl (by kernel_rfl) rfl (qb rfl) (Qt.aD rfl rfl rfl a1) rfl ?_;refine JD.take 16 rfl rfl (by kernel_rfl) rfl (qb rfl) (Qt.aN rfl rfl (by omega) (by (try rw [List.length_set]);omega)) rfl ?_;refine jt 17 rfl rfl (Ld.bM rfl rfl rfl (by exact rfl) (by (try rw [List.length_set]);omega)) (fun _=>?_);refine cH ?_
  rotate_left
  all_goals
   rw [e6]
   repeat (refine gn ?_)
   exact J.ret func164 rfl (.cons (.tmp rfl) .nil) _ (by exact .refl) [0] (by decide) rfl rfl
theorem Lc (l:List Int) (hb:l.length≤50000) :
  Pure prog 165 [.c (ints l)] (.c (ints (Sx.aE l))):=by
 have CS:=K8 l hb;have Dn:(sort l).length=l.length:=by
  have y7:∀ (x:Int) (a:List Int),(Sx.insert x a).length=a.length + 1:=by
   intro x a
   induction a with
   | nil=>rfl
   | cons y a ih=>unfold Sx.insert;split <;> simp [ih]
  have:∀ (m acc:List Int),(m.foldl (fun acc x=>Sx.insert x acc) acc).length=acc.length + m.length:=by
   intro m
   induction m with
   | nil=>intro acc;simp
   | cons y m ih=>intro acc;rw [List.foldl_cons,ih,y7];simp;omega
  unfold sort;rw [this];simp
 have er:Sx.aE l=(sort l).foldl fJ []:=rfl;rw [er];generalize sort l=m at *;have xH:m.length≤50000:=by omega
 have Le:∀ k,((m.take k).foldl fJ []).length≤k:=by
  have:∀ (q acc:List Int),(q.foldl fJ acc).length≤acc.length + q.length:=by
   intro q
   induction q with
   | nil=>intro acc;simp
   | cons y q ih =>
    intro acc;rw [List.foldl_cons];refine Nat.le_trans (ih _) ?_;unfold fJ
    split <;> simp <;> omega
  intro k;have:=this (m.take k) [];simp at this;simp;omega
 refine aA.intro func165 rfl rfl rfl (fun ok e=>?_)
 repeat (first | refine au ?_ | intro _)
 rename_i b0;refine J.loop (ι:={ p:Nat × Value // p.1≤m.length }) (fun p=>[(8,.c (ints m)),(9,.c (nI m.length)),(10,.c (nI p.1.1)),(3,.c (.v p.1.2))]) (fun p=>[.row p.1.2 3 1 (((m.take p.1.1).foldl fJ []).map fun n=>[nI n])]) (fun p=>m.length - p.1.1) ⟨(0,.slice (some ⟨b0,0,none⟩) 0 0),Nat.zero_le _⟩ (fun X h=>h.aF ⟨rfl,rfl,rfl,rfl,trivial⟩) (fun p ih=>?_);obtain ⟨⟨k,v⟩,iH⟩:=p;simp only at iH ih ⊢
 by_cases hk:k < m.length
 ·obtain ⟨x,hx⟩:∃ y,m[k]?=some y:=⟨_,List.getElem?_eq_getElem hk⟩
  have h1:(decide ((k:Int) < (m.length:Int)))=true:=by simpa using hk
  have e1:(m.take (k + 1)).foldl fJ []=fJ ((m.take k).foldl fJ []) x:=by
   rw [take_one hx,List.foldl_append];rfl
  have lk:=Le k;generalize La:(m.take k).foldl fJ []=acc at *
  by_cases qc:x≤0
  ·have c1:(decide (x≤0))=true:=decide_eq_true qc;have e2:fJ acc x=acc:=by unfold fJ;rw [if_pos (.inl qc)]
   repeat (refine gn ?_)
   refine J.bq ?_ ((ih ⟨(k + 1,v),by simp only;omega⟩ (by simp only;omega)).aF ⟨rfl,rfl,rfl,rfl,trivial⟩);simp only [e1,e2]
  ·have c1:(decide (x≤0))=false:=decide_eq_false qc
   by_cases ha:acc=[]
   ·subst ha;have e2:fJ [] x=[x]:=by unfold fJ;rw [if_neg (by simp;omega)];rfl
    repeat (first | (refine K.bi ?_;refine JO.ld (Ld.bO (qb rfl) rfl rfl .cX (by (simp))) rfl (fun _=>?_)) | refine au ?_ | intro _)
    rename_i b9 v2;refine J.ep 1 ?_;refine J.bq ?_ ((ih ⟨(k + 1,v2),by simp only;omega⟩ (by simp only;omega)).aF ⟨rfl,rfl,rfl,rfl,trivial⟩);simp only [e1,e2,List.map_append,List.map_cons,List.map_nil,List.nil_append]
   ·obtain ⟨n,hn⟩:∃ n:Nat,acc.length=n + 1:=by
     cases acc with
     | nil=>exact absurd rfl ha
     | cons y q=>exact ⟨q.length,rfl⟩
    have hl:=AK ha;have c2:(decide (((acc.map fun n=>[nI n]).length:Int) > 0))=true:=by simp;omega
    have a1:IntKind.i64.wrap (((acc.map fun n=>[nI n]).length:Int) - 1)=(n:Int):=by rw [aV (by simp;omega) (by simp;omega)];simp;omega
    have q1:(acc.map fun n=>[nI n])[((n:Int)).toNat]?=some [nI (acc.getLastD 0)]:=at_map (by rw [show acc.length - 1=n by omega] at hl;exact hl)
    by_cases vU:acc.getLastD 0=x
    ·have c3:(acc.getLastD 0 == x)=true:=by simpa using vU
     have e2:fJ acc x=acc:=by unfold fJ;rw [if_pos (.inr ⟨by omega,vU⟩)]
     repeat (first | (refine K.load ?_;((refine jq rfl rfl rfl (Qt.rF rfl (q1) (by exact rfl)) ?_))) | (refine K.indexAddr ?_;refine jq rfl rfl rfl (Qt.aN rfl rfl (by (omega)) (by (simp;omega))) ?_) | (refine K.binOp ?_;refine jq rfl rfl rfl (Qt.aD rfl rfl rfl a1) ?_) | refine gn ?_)
     refine J.bq ?_ ((ih ⟨(k + 1,v),by simp only;omega⟩ (by simp only;omega)).aF ⟨rfl,rfl,rfl,rfl,trivial⟩);simp only [e1,e2]
    ·have c3:(acc.getLastD 0 == x)=false:=by simpa using vU
     have e2:fJ acc x=acc ++ [x]:=by unfold fJ;rw [if_neg (by intro h;rcases h with h | h;exact qc h;exact vU h.2)]
     repeat (first | (refine K.load ?_;((refine jq rfl rfl rfl (Qt.rF rfl (q1) (by exact rfl)) ?_))) | (refine K.indexAddr ?_;refine jq rfl rfl rfl (Qt.aN rfl rfl (by (omega)) (by (simp;omega))) ?_) | (refine K.binOp ?_;refine jq rfl rfl rfl (Qt.aD rfl rfl rfl a1) ?_) | (refine K.bi ?_;refine JO.ld (Ld.bO (qb rfl) rfl rfl .cX (by (simp;omega))) rfl (fun _=>?_)) | refine au ?_ | intro _)
     rename_i b9 v2;refine J.ep 1 ?_;refine J.bq ?_ ((ih ⟨(k + 1,v2),by simp only;omega⟩ (by simp only;omega)).aF ⟨rfl,rfl,rfl,rfl,trivial⟩);simp only [e1,e2,List.map_append,List.map_cons,List.map_nil,List.nil_append]
 ·have h1:(decide ((k:Int) < (m.length:Int)))=false:=by simpa using hk
  repeat (refine gn ?_)
  refine J.gy 2 rfl ?_;refine J.ret func165 rfl (.cons (.tmp rfl) .nil) () (.of_eq ?_) [] .nil rfl rfl;rw [List.take_of_length_le (show m.length≤k by omega)];rfl
end Fl
open Go.RowKit
namespace Fl
open Sx Go.Proofs.Tryz
set_option maxRecDepth 100000
theorem Dp (s:ai):∀ n,(Sx.drawn s n).1.length=n
 | 0=>rfl
 | n + 1=>by simp [Sx.drawn,Dp s n]
theorem Lf (l:List Int) (a n:Int):a≤(Sx.draw l a n).2∧(Sx.draw l a n).2≤a + 1:=by unfold Sx.draw;split <;> constructor <;> simp <;> omega
theorem Lg (l:List Int) (a n:Int):0≤(Sx.draw l a n).1:=by
 unfold Sx.draw
 split
 ·simp
 ·exact Int.emod_nonneg _ (by omega)
theorem Dq (s:ai):∀ n:Nat,s.drawn≤(Sx.drawn s n).2∧(Sx.drawn s n).2≤s.drawn + n
 | 0=>by simp [Sx.drawn]
 | n + 1=>by
  have:=Dq s n;have h2:=Lf s.cY (Sx.drawn s n).2 (n + 1);simp only [Sx.drawn];omega
theorem Dr (s:ai):∀ (n:Nat) (x:Int),x∈(Sx.drawn s n).1→0≤x
 | 0,x,h=>by simp [Sx.drawn] at h
 | n + 1,x,h=>by
  simp only [Sx.drawn,List.mem_append,List.mem_singleton] at h;rcases h with h | h
  ·exact Dr s n x h
  ·subst h;exact Lg _ _ _
theorem Ds (ds:List Int):∀ (n:Nat) (i:Int),i∈dx ds n→0≤i∧i < n
 | 0,i,h=>by simp [dx] at h
 | n + 1,i,h=>by
  have hl:=vT ds n;have key:∀ y,y∈dx ds n ++ [(n:Int)]→0≤y∧y < (n + 1:Nat):=fun y hy=>by
   rcases List.mem_append.1 hy with hy | hy
   ·have:=Ds ds n y hy;omega
   ·simp at hy;omega
  have tX:0≤ds.getD n 0 % ((n:Int) + 1):=Int.emod_nonneg _ (by omega);have aZ:ds.getD n 0 % ((n:Int) + 1) < n + 1:=Int.emod_lt_of_pos _ (by omega);have hg:∀ k,k < n + 1→(dx ds n ++ [(n:Int)]).getD k 0∈dx ds n ++ [(n:Int)]:=fun k hk=>by
   have:k < (dx ds n ++ [(n:Int)]).length:=by simp [hl];omega
   rw [List.getD_eq_getElem?_getD,List.getElem?_eq_getElem this];exact List.getElem_mem _
  unfold dx swap at h;rcases List.mem_or_eq_of_mem_set h with h | h
  ·rcases List.mem_or_eq_of_mem_set h with h | h
   ·exact key _ h
   ·rw [h];exact key _ (hg n (by omega))
  ·rw [h];exact key _ (hg _ (by omega))
structure Dt (s:ai) (g:Nat) (o:Pn.Op):Prop where
 lt:g < s.gs.length
 fit:Fit s
 dr:0≤s.drawn∧s.drawn≤50000
 du:∀ x∈s.cY,0≤x∧x < 65536
 cl:o.cases.length≤1000
theorem Lh (s:ai) (g:Nat) (o:Pn.Op) (h:Dt s g o) :
  Pure prog 144 [.agg (aC s),.c (nI g),.agg (gR o)] (.agg (aC (iA s g o))):=by
 have hg:=h.lt;have hb:=h.fit.1.1;have Nq:=h.fit.od g;have cl:=h.cl;have d0:=h.dr;have aj:iA s g o=iA s g o:=rfl
 conv at aj=>rhs;unfold iA;simp only
 refine aA.intro func144 rfl rfl rfl (fun ok e=>?_)
 repeat (first | (refine ga ?_;intro _) | refine gn ?_)
 rename_i b3 b5 b6 b7;refine J.loop (ι:={ p:Nat × Value // p.1≤o.cases.length }) (fun p=>[(18,.c (nI o.cases.length)),(19,.c (nI p.1.1)),(7,.c (.v p.1.2)),(3,.c (.v (.pointer (some ⟨b3,0,none⟩)))),(5,.c (.v (.pointer (some ⟨b5,0,none⟩)))),(6,.c (.v (.pointer (some ⟨b6,0,none⟩)))),(1,.c (nI g))])
  (fun p=>[.row p.1.2 3 1 ((Sx.drawn s p.1.1).1.map fun n=>[nI n]),.box b6 36 qf,.box b5 58 (gR o),.box b3 36 (aC { s with drawn:=(Sx.drawn s p.1.1).2 })]) (fun p=>o.cases.length - p.1.1) ⟨(0,.slice (some ⟨b7,0,none⟩) 0 0),Nat.zero_le _⟩ (fun X h=>h.aF ⟨rfl,rfl,rfl,rfl,rfl,rfl,rfl,trivial⟩) (fun p ih=>?_)
 obtain ⟨⟨k,v⟩,iH⟩:=p;simp only at iH ih ⊢;have p6:=Dp s k;have da:=Dq s k
 by_cases hk:k < o.cases.length
 ·have h1:(decide ((k:Int) < (o.cases.length:Int)))=true:=by simpa using hk
  have CD:=K5 s.cY (Sx.drawn s k).2 (k + 1) (by omega) (by omega) h.du
  repeat (first | (refine K.store ?_;refine JO.ld (Ld.cW rfl rfl (by exact rfl)) rfl (fun _=>?_)) | (refine K.binOp ?_;first | refine jc rfl rfl rfl rfl h1 rfl ?_ | refine jq rfl rfl rfl (Qt.aD rfl rfl rfl (aV (by omega) (by omega))) ?_) | (refine K.call ?_;refine jp (CD) rfl rfl rfl lq ?_) | (refine K.bi ?_;refine JO.ld (Ld.bO (qb rfl) rfl rfl .cX (by (simp;omega))) rfl (fun _=>?_)) | (refine ga ?_;intro _) | refine gn ?_)
  rename_i u1 b9 v2;refine J.ep 1 ?_;refine J.bq ?_ ((ih ⟨(k + 1,v2),by simp only;omega⟩ (by simp only;omega)).aF ⟨rfl,rfl,rfl,rfl,rfl,rfl,rfl,trivial⟩);simp only [Sx.drawn,List.map_append,List.map_cons,List.map_nil];rfl
 ·have h1:(decide ((k:Int) < (o.cases.length:Int)))=false:=by simpa using hk
  obtain rfl:k=o.cases.length:=by omega
  have CO:=Dl o.cases.length (Sx.drawn s o.cases.length).1 p6 (by omega) (Dr s o.cases.length);have om:=Ds (Sx.drawn s o.cases.length).1 o.cases.length;have ol:=vT (Sx.drawn s o.cases.length).1 o.cases.length;generalize mH:({ s with drawn:=(Sx.drawn s o.cases.length).2 }:ai)=s1 at *;have vV:s1.gs=s.gs:=by rw [← mH]
  have Lj:∀ c,aR s1 c=aR s c:=fun c=>by rw [← mH];rfl
  have iP:g < s1.gs.length:=by rw [vV];exact hg
  have Lk:aa s1 g=aa s g:=nZ vV g;have A1:=fM iP;rw [Lk] at A1;generalize dx (Sx.drawn s o.cases.length).1 o.cases.length=ord at *;refine J.gy 7 rfl ?_
  repeat (first | (refine K.store ?_;refine JO.ld (Ld.bu rfl rfl rfl (by exact rfl) (by exact rfl)) rfl (fun _=>?_)) | (refine K.indexAddr ?_;refine jx rfl rfl rfl rfl (by omega) (A1) ?_) | (refine K.binOp ?_;refine jc rfl rfl rfl rfl h1 rfl ?_) | (refine K.call ?_;refine JO.Di (CO) rfl (qb rfl) rfl ?_ ?_;(focus ((repeat (first | exact bR.nil | refine bR.cons dm.refl ?_));done));intro _) | (refine ga ?_;intro _) | refine gn ?_)
  rename_i og Nr oh vo;refine J.gy 46 rfl ?_;rw [List.length_map];refine J.loop (ι:={ p:Nat × Value // p.1≤ord.length }) (fun p=>[(46,.c (ints ord)),(47,.c (nI ord.length)),(48,.c (nI p.1.1)),(12,.c (.v p.1.2)),(11,.c (.v (.pointer (some ⟨og,0,none⟩)))),(3,.c (.v (.pointer (some ⟨b3,0,none⟩)))),(5,.c (.v (.pointer (some ⟨b5,0,none⟩)))),(6,.c (.v (.pointer (some ⟨b6,0,none⟩)))),(1,.c (nI g))])
   (fun p=>[.row p.1.2 3 1 ((((ord.take p.1.1).filter (fun i=>aR s1 (bT o i).ch)).map (fun i=>(bT o i).ch)).map fun n=>[nI n]),.box og 55 ((eG (aa s g)).set 20 (ints ((aa s g).order ++ (ord.take p.1.1).filter (fun i=>aR s1 (bT o i).ch)))),.box b6 36 qf,.box b5 58 (gR o),.box b3 36 (aC s1)]) (fun p=>ord.length - p.1.1) ⟨(0,.slice (some ⟨oh,0,none⟩) 0 0),Nat.zero_le _⟩ (fun X h=>?_) (fun p ih=>?_)
  ·refine J.bq ?_ (h.aF ⟨rfl,rfl,rfl,rfl,rfl,rfl,rfl,rfl,rfl,trivial⟩);simp only [List.take_zero,List.filter_nil,List.map_nil,List.append_nil];rfl
  obtain ⟨⟨k,v⟩,iH⟩:=p;simp only at iH ih ⊢;have gl:∀ k,((ord.take k).filter (fun i=>aR s1 (bT o i).ch)).length≤1000:=fun k=>Nat.le_trans (List.length_filter_le _ _) (by simp;omega)
  by_cases hk:k < ord.length
  ·obtain ⟨i,hi⟩:∃ y,ord[k]?=some y:=⟨_,List.getElem?_eq_getElem hk⟩
   have h2:(decide ((k:Int) < (ord.length:Int)))=true:=by simpa using hk
   obtain ⟨i0,i1⟩:=om i (List.mem_of_getElem? hi);have J1:=tV i0 i1;have CM:=dN s1 (bT o i).ch;have et:=take_one hi;have gk:=gl k
   cases hm:aR s1 (bT o i).ch with
   | true =>
    rw [hm] at CM;have ef:(ord.take (k + 1)).filter (fun i=>aR s1 (bT o i).ch)=(ord.take k).filter (fun i=>aR s1 (bT o i).ch) ++ [i]:=by rw [et,List.filter_append];simp [hm]
    repeat (first | (refine K.indexAddr ?_;refine jx rfl rfl rfl rfl (by omega) (ints_at hi) ?_) | (refine K.binOp ?_;refine jc rfl rfl rfl rfl h2 rfl ?_) | refine gn ?_)
    refine J.draw (by kernel_rfl) rfl ?_;refine JW.base none ?_;refine tk 0 ?_;refine tk 1 ?_;refine tk 2 ?_;refine tk 3 ?_;refine JD.take 4 rfl rfl (by kernel_rfl) rfl (qb rfl) (Qt.dj rfl rfl i0 J1) rfl ?_;refine tk 5 ?_;refine tk 6 ?_;refine jl 7 rfl rfl rfl rfl (Ld.pure (CM) (qb rfl) rfl lq) .none (fun _=>?_);refine aX ?_
    repeat (first | (refine K.store ?_;refine JO.ld (Ld.cW rfl rfl (by exact rfl)) rfl (fun _=>?_)) | (refine K.indexAddr ?_;refine jx rfl rfl rfl rfl (by omega) (J1) ?_) | (refine K.binOp ?_;refine jq rfl rfl rfl (Qt.aD rfl rfl rfl (aV (by omega) (by omega))) ?_) | (refine K.bi ?_;first | refine JO.ld (Ld.bO (qb rfl) rfl rfl .read (by first | (simp;omega) | simp)) rfl (fun _=>?_) | refine JO.ld (Ld.bO (qb rfl) rfl rfl .cX (by (simp;omega))) rfl (fun _=>?_)) | (refine ga ?_;intro _) | refine gn ?_)
    rename_i bA vA bB vB uB bC vC;refine J.ep 3 ?_;refine J.ep 1 ?_;refine J.lN 1 2 20 rfl rfl rfl ?_;have e7:([] ++ List.map (fun n=>[nI n]) ((aa s g).order ++ List.filter (fun i=>aR s1 (bT o i).ch) (List.take k ord)) ++ [[nI i]])=((aa s g).order ++ (ord.take (k + 1)).filter (fun i=>aR s1 (bT o i).ch)).map (fun n=>[nI n]):=by rw [ef];simp
    rw [e7];have e8:(List.map (fun n=>[nI n]) (List.map (fun i=>(bT o i).ch) (List.filter (fun i=>aR s1 (bT o i).ch) (List.take k ord))) ++ [[nI (bT o i).ch]])=(((ord.take (k + 1)).filter (fun i=>aR s1 (bT o i).ch)).map (fun i=>(bT o i).ch)).map (fun n=>[nI n]):=by rw [ef];simp
    rw [e8];exact (ih ⟨(k + 1,vC),by simp only;omega⟩ (by simp only;omega)).aF ⟨rfl,rfl,rfl,rfl,rfl,rfl,rfl,rfl,rfl,trivial⟩
   | false =>
    rw [hm] at CM;have ef:(ord.take (k + 1)).filter (fun i=>aR s1 (bT o i).ch)=(ord.take k).filter (fun i=>aR s1 (bT o i).ch):=by rw [et,List.filter_append];simp [hm]
    repeat (first | (refine K.indexAddr ?_;refine jx rfl rfl rfl rfl (by omega) (ints_at hi) ?_) | (refine K.binOp ?_;refine jc rfl rfl rfl rfl h2 rfl ?_) | refine gn ?_)
    refine J.draw (by kernel_rfl) rfl ?_;refine JW.base none ?_;refine tk 0 ?_;refine tk 1 ?_;refine tk 2 ?_;refine tk 3 ?_;refine JD.take 4 rfl rfl (by kernel_rfl) rfl (qb rfl) (Qt.dj rfl rfl i0 J1) rfl ?_;refine tk 5 ?_;refine tk 6 ?_;refine jl 7 rfl rfl rfl rfl (Ld.pure (CM) (qb rfl) rfl lq) .none (fun _=>?_);refine aX ?_
    repeat (first | (refine K.binOp ?_;refine jq rfl rfl rfl (Qt.aD rfl rfl rfl (aV (by omega) (by omega))) ?_) | refine gn ?_)
    refine J.bq ?_ ((ih ⟨(k + 1,v),by simp only;omega⟩ (by simp only;omega)).aF ⟨rfl,rfl,rfl,rfl,rfl,rfl,rfl,rfl,rfl,trivial⟩);simp only [ef]
  ·have h2:(decide ((k:Int) < (ord.length:Int)))=false:=by simpa using hk
   obtain rfl:k=ord.length:=by omega
   rw [List.take_length] at *;refine J.gy 12 rfl ?_;simp only [← Lj] at aj;have Lm:=gl ord.length;rw [List.take_length] at Lm;generalize ord.filter (fun i=>aR s1 (bT o i).ch)=gQ at *;have iL:(gQ.map (fun i=>(bT o i).ch)).length≤50000:=by simp;omega
   generalize gQ.map (fun i=>(bT o i).ch)=ids at *;have CL:=Lc ids iL;have CW:=cj s1 g { aa s g with order:=(aa s g).order ++ gQ,aE:=Sx.aE ids,place:=24 } iP (by rw [vV];exact hb);have g2:g < (ah s1 g { aa s g with order:=(aa s g).order ++ gQ,aE:=Sx.aE ids,place:=24 }).gs.length:=by rw [bP];exact iP
   have b2:(ah s1 g { aa s g with order:=(aa s g).order ++ gQ,aE:=Sx.aE ids,place:=24 }).gs.length≤100000:=by rw [bP,vV];exact hb
   by_cases hi:0 < ids.length
   ·have c1:(decide ((ids.length:Int) > 0))=true:=decide_eq_true (by omega);rw [if_pos hi] at aj;rw [aj]
    repeat (first | (refine K.store ?_;first | refine JO.ld (Ld.bu rfl rfl rfl (by exact rfl) (by exact rfl)) rfl (fun _=>?_) | refine JO.ld (Ld.cW rfl rfl (by exact rfl)) rfl (fun _=>?_)) | (refine K.binOp ?_;first | refine jc rfl rfl rfl rfl h2 rfl ?_ | refine jc rfl rfl rfl rfl c1 rfl ?_) | (refine K.call ?_;first | refine jp (CL) rfl rfl rfl lq ?_ | refine jp (CW) rfl rfl rfl lq ?_) | refine gn ?_)
    (exact J.ret func144 rfl (.cons (.cell 1 rfl rfl rfl) .nil) () la [] .nil rfl rfl)
   ·have c1:(decide ((ids.length:Int) > 0))=false:=decide_eq_false (by omega);rw [if_neg hi] at aj
    cases lF:o.cT with
    | true =>
     rw [if_pos lF] at aj;rw [aj]
     repeat (first | refine J.eZ (congrArg (fun b=>some (D.c (bI b))) lF) ?_ | (refine K.store ?_;first | refine JO.ld (Ld.bu rfl rfl rfl (by exact rfl) (by exact rfl)) rfl (fun _=>?_) | refine JO.ld (Ld.cW rfl rfl (by exact rfl)) rfl (fun _=>?_)) | (refine K.binOp ?_;first | refine jc rfl rfl rfl rfl h2 rfl ?_ | refine jc rfl rfl rfl rfl c1 rfl ?_) | (refine K.call ?_;first | refine jp (CL) rfl rfl rfl lq ?_ | refine jp (CW) rfl rfl rfl lq ?_ | refine jp (gE _ g (res 2) 18 g2 b2) rfl rfl rfl lq ?_) | refine gn ?_)
     (exact J.ret func144 rfl (.cons (.cell 1 rfl rfl rfl) .nil) () la [] .nil rfl rfl)
    | false =>
     rw [if_neg (by rw [lF];simp)] at aj;rw [aj]
     repeat (first | refine J.eK (congrArg (fun b=>some (D.c (bI b))) lF) ?_ | (refine K.store ?_;first | refine JO.ld (Ld.bu rfl rfl rfl (by exact rfl) (by exact rfl)) rfl (fun _=>?_) | refine JO.ld (Ld.cW rfl rfl (by exact rfl)) rfl (fun _=>?_)) | (refine K.binOp ?_;first | refine jc rfl rfl rfl rfl h2 rfl ?_ | refine jc rfl rfl rfl rfl c1 rfl ?_) | (refine K.call ?_;first | refine jp (CL) rfl rfl rfl lq ?_ | refine jp (CW) rfl rfl rfl lq ?_ | refine jp (Bm _ g g2 b2) rfl rfl rfl lq ?_) | refine gn ?_)
     (exact J.ret func144 rfl (.cons (.cell 1 rfl rfl rfl) .nil) () la [] .nil rfl rfl)
end Fl
end Go.Proofs.YtgjpdogjekmemaaGreat
