/-
  What the laws need, part S18.
  Conditions: none.
-/
import Derived.Test.YtgjpdogjekmemaaGreatS15
set_option linter.unusedVariables false
set_option linter.unusedSimpArgs false
set_option linter.unnecessarySimpa false
set_option maxHeartbeats 2000000
namespace Go.Proofs.YtgjpdogjekmemaaGreat
open Go.RowKit
namespace Fl
open Sx Go.Proofs.Tryz
set_option maxRecDepth 100000
theorem JO.FG {P:Program} {c:Cx} {k:List Item} {f:Fm} {L:List ak} {ops:Array Oper} {l:List Oper} {T:TypeId} {ps:String} {af:Array Edge} {gd:Option (Nat × Bool)} {t:Nat} {F:FuncId} {args:List Operand} {tys:Array TypeId} {cM ds:List D} {e:TypeId} {sz:Nat} {ll:List (List A)} [i:aK P F] (hC:aq P F ds [] (fun v:Value=>(D.c (.v v),[ak.row v e sz ll]))) (hw:c7 ops ⟨some t,.call ⟨.value (.func F),args.toArray,tys⟩,T,ps,af,gd⟩ f=true) (ht:t < c.N) (h:gq f args=some cM) (hle:br cM ds)
  (hk:∀ v,JO P c ops l k ((t,.c (.v v)) :: f) (.row v e sz ll :: L)):JO P c ops (⟨some t,.call ⟨.value (.func F),args.toArray,tys⟩,T,ps,af,gd⟩ :: l) k f L :=
 JO.call hC hw ht h hle (Ll:=[]) (Lr:=L) rfl hk
theorem Ov (l:List Int) (a n:Int) (h0:0≤a) (h1:a≤100000) (hu:∀ x∈l,0≤x∧x < 65536) :
  Pure prog 163 [.c (iu l),.c (nI a),.c (nI n)] (.aY [.c (nI (Sx.draw l a n).1),.c (nI (Sx.draw l a n).2)]):=by
 refine aq.intro func163 rfl rfl rfl (fun ok e=>?_)
 by_cases hn:n < 1
 ·have e1:Sx.draw l a n=(0,a):=by unfold Sx.draw;rw [if_pos (.inl hn)]
  rw [e1];have c1:(decide (n < 1))=true:=decide_eq_true hn
  repeat (refine gn ?_)
  exact aA func163
 ·have c1:(decide (n < 1))=false:=decide_eq_false hn
  by_cases ha:(l.length:Int)≤a
  ·have e1:Sx.draw l a n=(0,a):=by unfold Sx.draw;rw [if_pos (.inr ha)]
   rw [e1];have c2:(decide (a ≥ (l.length:Int)))=true:=decide_eq_true ha
   repeat (refine gn ?_)
   exact aA func163
  ·have c2:(decide (a ≥ (l.length:Int)))=false:=decide_eq_false ha;have e1:Sx.draw l a n=(aB l a % n,a + 1):=by unfold Sx.draw;rw [if_neg (by omega)]
   rw [e1];have hx:=hu _ (pe h0 (by omega:a < l.length));have w1:IntKind.i64.wrap (aB l a)=aB l a:=fq (by omega) (by omega);have w2:(aB l a).tmod n=aB l a % n:=Int.tmod_eq_emod_of_nonneg hx.1
   repeat (first | (refine K.indexAddr ?_;refine jx rfl rfl rfl rfl (by omega) (H7 h0 (by omega)) ?_) | (refine K.binOp ?_;refine jq rfl rfl rfl (Qt.rem rfl rfl (by omega) w2) ?_) | (refine K.convert ?_;refine jq rfl rfl rfl (Qt.conv rfl w1) ?_) | refine gn ?_)
   exact aA func163
theorem Ow (d n:Int) (h0:0≤d) (h1:1≤n) (h2:n≤100000) :
  Pure prog 172 [.c (nI d),.c (nI n)] (.c (nI (d % n))):=by
 have w1:d.tmod n=d % n:=Int.tmod_eq_emod_of_nonneg h0;have b1:=Int.emod_nonneg d (by omega:n≠0);have b2:=Int.emod_lt_of_pos d (by omega:0 < n);have w2:(d % n + n).tmod n=d % n:=by
  rw [Int.tmod_eq_emod_of_nonneg (by omega),Int.add_emod_right,Int.emod_emod_of_dvd _ (Int.dvd_refl n)]
 refine aq.intro func172 rfl rfl rfl (fun ok e=>?_)
 repeat (first | (refine K.binOp ?_;first | refine jq rfl rfl rfl (Qt.rem rfl rfl (by omega) w1) ?_ | refine jq rfl rfl rfl (Qt.rem rfl rfl (by omega) w2) ?_) | refine gn ?_)
 exact aA func172
theorem Ox (l:List Int) (hb:l.length≤50000) :
  Pure prog 173 [.c (ints l)] (.c (ints (sort l))):=by
 refine aq.intro func173 rfl rfl rfl (fun ok e=>?_);have ins:∀ (x:Int) (a:List Int) (k:Nat),(∀ (j:Nat) (y:Int),j < k→a[j]?=some y→y≤x)→k≤a.length→(∀ y,a[k]?=some y→x < y)→Sx.insert x a=a.take k ++ x :: a.drop k:=by
  intro x a
  induction a with
  | nil=>intro k _ hk _;simp at hk;subst hk;rfl
  | cons y a ih =>
   intro k h1 h2 h3;unfold Sx.insert
   cases k with
   | zero=>have:=h3 y rfl;rw [if_neg (by omega)];rfl
   | succ k =>
    have:=h1 0 y (by omega) rfl;rw [if_pos this,ih k (fun j z hj hz=>h1 (j + 1) z (by omega) (by simpa using hz)) (by simp at h2;omega) (fun z hz=>h3 z (by simpa using hz))];rfl
 have AE:∀ (x:Int) (a:List Int),(Sx.insert x a).length=a.length + 1:=by
  intro x a
  induction a with
  | nil=>rfl
  | cons y a ih=>unfold Sx.insert;split <;> simp [ih]
 have lens:∀ k,(sort (l.take k)).length≤k:=by
  intro k;unfold sort;have:∀ (m acc:List Int),(m.foldl (fun acc x=>Sx.insert x acc) acc).length=acc.length + m.length:=by
   intro m
   induction m with
   | nil=>intro acc;simp
   | cons y m ih=>intro acc;rw [List.foldl_cons,ih,AE];simp;omega
  rw [this];simp;omega
 repeat (first | refine av ?_ | intro _)
 refine J.gG 3 rfl ?_;refine J.loop (ι:={ k:Nat // k≤l.length }) (fun p=>[(9,.c (ints l)),(10,.c (nI l.length)),(11,.c (nI p.1)),(3,.c (ints (sort (l.take p.1))))]) (fun p=>[]) (fun p=>l.length - p.1) ⟨0,Nat.zero_le _⟩ (fun X h=>h.aQ ⟨rfl,rfl,rfl,rfl,trivial⟩) (fun p ih=>?_);obtain ⟨k,jr⟩:=p;simp only at ih ⊢
 by_cases hk:k < l.length
 ·obtain ⟨x,hx⟩:∃ y,l[k]?=some y:=⟨_,List.getElem?_eq_getElem hk⟩
  have h1:(decide ((k:Int) < (l.length:Int)))=true:=by simpa using hk
  have e1:sort (l.take (k + 1))=Sx.insert x (sort (l.take k)):=by
   rw [take_one hx];unfold sort;rw [List.foldl_append];rfl
  have lk:=lens k;generalize Oy:sort (l.take k)=acc at *
  repeat (refine gn ?_)
  refine J.loop (ι:={ q:Nat // q≤acc.length∧∀ (j:Nat) (y:Int),j < q→acc[j]?=some y→y≤x }) (fun q=>[(6,.c (nI q.1)),(5,.c (nI x)),(9,.c (ints l)),(10,.c (nI l.length)),(11,.c (nI k)),(3,.c (ints acc))]) (fun q=>[]) (fun q=>acc.length - q.1) ⟨0,Nat.zero_le _,fun j y h=>absurd h (Nat.not_lt_zero _)⟩ (fun X h=>h.aQ ⟨rfl,rfl,rfl,rfl,rfl,rfl,trivial⟩) (fun q fF=>?_);obtain ⟨q,hq,FH⟩:=q;simp only at fF ⊢;have fin:(∀ y,acc[q]?=some y→x < y)→sort (l.take (k + 1))=acc.take q ++ x :: acc.drop q:=fun h=>by rw [e1];exact ins x acc q FH hq h
  have ct:((acc.map fun n=>[nI n]).take ((q:Int)).toNat).drop (0:Int).toNat=(acc.take q).map fun n=>[nI n]:=EY rfl
  have cd:((acc.map fun n=>[nI n]).take (((acc.map fun n=>[nI n]).length:Int)).toNat).drop ((q:Int)).toNat=(acc.drop q).map fun n=>[nI n]:=by
   simp;rw [List.take_of_length_le (by simp)]
  by_cases tF:q < acc.length
  ·obtain ⟨y,hy⟩:∃ y,acc[q]?=some y:=⟨_,List.getElem?_eq_getElem tF⟩
   have h2:(decide ((q:Int) < (acc.length:Int)))=true:=by simpa using tF
   by_cases AF:y≤x
   ·have h3:(decide (y≤x))=true:=decide_eq_true AF
    repeat (refine gn ?_)
    exact (fF ⟨q + 1,by omega,fun j z hj hz=>by
     rcases Nat.lt_succ_iff_lt_or_eq.1 hj with h | h
     ·exact FH j z h hz
     ·subst h;rw [hy] at hz;cases hz;exact AF⟩ (by simp only;omega)).aQ ⟨rfl,rfl,rfl,rfl,rfl,rfl,trivial⟩
   ·have h3:(decide (y≤x))=false:=decide_eq_false AF;have ef:=fin (fun z hz=>by rw [hy] at hz;cases hz;omega)
    repeat (first | (refine K.slice ?_;first | refine jq rfl rfl rfl ((Qt.mX rfl rfl rfl (by (omega)) (by (omega)) (by (simp;omega))).eq (congrArg (fun z=>D.c (A.r 1 z)) ct)) ?_ | refine jq rfl rfl rfl ((Qt.mX rfl rfl rfl (by (omega)) (by (simp;omega)) (by (omega))).eq (congrArg (fun z=>D.c (A.r 1 z)) cd)) ?_) | (refine K.bi ?_;first | refine JO.ld (Ld.bH (qb rfl) rfl rfl .read (by first | (simp;omega) | simp)) rfl (fun _=>?_) | refine JO.ld (Ld.bH (qb rfl) rfl rfl .bV (by (simp;omega))) rfl (fun _=>?_)) | refine av ?_ | intro _)
    refine J.gG 3 rfl ?_;refine J.eI 0 ?_;have e5:([] ++ List.map (fun n=>[nI n]) (List.take q acc) ++ [[nI x]] ++ List.map (fun n=>[nI n]) (List.drop q acc))=(sort (l.take (k + 1))).map (fun n=>[nI n]):=by rw [ef];simp
    rw [e5];exact (ih ⟨k + 1,by omega⟩ (by simp only;omega)).aQ ⟨rfl,rfl,rfl,rfl,trivial⟩
  ·have h2:(decide ((q:Int) < (acc.length:Int)))=false:=by simpa using tF
   have ef:=fin (fun z hz=>by have:=(List.getElem?_eq_some_iff.1 hz).1;omega)
   repeat (first | (refine K.slice ?_;first | refine jq rfl rfl rfl ((Qt.mX rfl rfl rfl (by (omega)) (by (omega)) (by (simp;omega))).eq (congrArg (fun z=>D.c (A.r 1 z)) ct)) ?_ | refine jq rfl rfl rfl ((Qt.mX rfl rfl rfl (by (omega)) (by (simp;omega)) (by (omega))).eq (congrArg (fun z=>D.c (A.r 1 z)) cd)) ?_) | (refine K.bi ?_;first | refine JO.ld (Ld.bH (qb rfl) rfl rfl .read (by first | (simp;omega) | simp)) rfl (fun _=>?_) | refine JO.ld (Ld.bH (qb rfl) rfl rfl .bV (by (simp;omega))) rfl (fun _=>?_)) | refine av ?_ | intro _)
   refine J.gG 3 rfl ?_;refine J.eI 0 ?_;have e5:([] ++ List.map (fun n=>[nI n]) (List.take q acc) ++ [[nI x]] ++ List.map (fun n=>[nI n]) (List.drop q acc))=(sort (l.take (k + 1))).map (fun n=>[nI n]):=by rw [ef];simp
   rw [e5];exact (ih ⟨k + 1,by omega⟩ (by simp only;omega)).aQ ⟨rfl,rfl,rfl,rfl,trivial⟩
 ·have h1:(decide ((k:Int) < (l.length:Int)))=false:=by simpa using hk
  repeat (refine gn ?_)
  refine J.ret func173 rfl (.cons (.tmp rfl) .nil) () (.of_eq ?_) [] .nil rfl rfl;rw [List.take_of_length_le (show l.length≤k by omega)];rfl
theorem xD (ds:List Int):∀ n,(dA ds n).length=n
 | 0=>rfl
 | n + 1=>by simp [dA,swap,xD ds n]
theorem FI (ds:List Int):∀ n m,n≤m→dA (ds.take m) n=dA ds n
 | 0,m,h=>rfl
 | n + 1,m,h=>by
  unfold dA;rw [FI ds n m (by omega)]
  congr 2
  rw [List.getD_eq_getElem?_getD,List.getD_eq_getElem?_getD,List.getElem?_take,if_pos (by omega)]
theorem FJ:∀ (n:Nat) (ds:List Int),ds.length=n→n≤50000→(∀ x∈ds,0≤x) →
  aq prog 164 [.c (ints ds)] [] (fun v:Value=>(.c (.v v),[.row v 3 1 ((dA ds n).map fun n=>[nI n])]))
 | 0,ds,hn,hb,h0=>by
  refine aq.intro func164 rfl rfl rfl (fun ok e=>?_);have oS:((ds.length:Int) == 0)=true:=by simp [hn]
  repeat (first | refine av ?_ | intro _)
  exact J.ret func164 rfl (.cons (.tmp rfl) .nil) _ (by exact .refl) [0] (by decide) rfl rfl
 | n + 1,ds,hn,hb,h0=>by
  have ih:=FJ n (ds.take n) (by simp;omega) (by omega) (fun x hx=>h0 x (List.mem_of_mem_take hx));rw [FI ds n n (Nat.le_refl _)] at ih;refine aq.intro func164 rfl rfl rfl (fun ok e=>?_);have FK:(ds.length:Int)=n + 1:=by omega
  have oS:((ds.length:Int) == 0)=false:=by rw [FK];simp;omega
  have hlen:=xD ds n;obtain ⟨d,hd⟩:∃ d,ds[n]?=some d:=⟨_,List.getElem?_eq_getElem (by omega)⟩
  have zf:=h0 d (List.mem_of_getElem? hd);have a1:IntKind.i64.wrap ((ds.length:Int) - 1)=(n:Int):=by rw [fq (by omega) (by omega)];omega
  have ct:((ds.map fun n=>[nI n]).take ((n:Int)).toNat).drop (0:Int).toNat=(ds.take n).map fun n=>[nI n]:=EY rfl
  have eo:dA ds (n + 1)=swap (dA ds n ++ [(n:Int)]) (d % (n + 1)).toNat n:=by
   show swap _ _ _=_;rw [List.getD_eq_getElem?_getD,hd];rfl
  have CN:=Ow d ds.length zf (by omega) (by omega);have k0:0≤d % (ds.length:Int):=Int.emod_nonneg d (by omega);have k1:d % (ds.length:Int) < n + 1:=by have:=Int.emod_lt_of_pos d (by omega:0 < (ds.length:Int));omega
  rw [← FK] at eo;generalize d % (ds.length:Int)=kk at *;have q1:(List.map (fun n=>[nI n]) (dA ds n) ++ [[A.v (Value.int IntKind.i64 ↑n)]])[((n:Int)).toNat]?=some [nI n]:=by
   rw [List.getElem?_append_right (by simp [hlen])];simp [hlen];rfl
  have eX:List.map (fun n=>[nI n]) (dA ds n) ++ [[A.v (Value.int IntKind.i64 ↑n)]]=(dA ds n ++ [(n:Int)]).map (fun n=>[nI n]):=by simp;rfl
  have q2:(List.map (fun n=>[nI n]) (dA ds n) ++ [[A.v (Value.int IntKind.i64 ↑n)]])[kk.toNat]?=some [nI ((dA ds n ++ [(n:Int)]).getD kk.toNat 0)]:=by
   rw [eX];exact at_map (Ap (by simp;omega))
  have hX:(List.map (fun n=>[nI n]) (dA ds n) ++ [[A.v (Value.int IntKind.i64 ↑n)]]).length=n + 1:=by simp [hlen]
  have e6:(((List.map (fun n=>[nI n]) (dA ds n) ++ [[A.v (Value.int IntKind.i64 ↑n)]]).set kk.toNat [nI ↑n]).set ((n:Int)).toNat [nI ((dA ds n ++ [(n:Int)]).getD kk.toNat 0)])=(dA ds (n + 1)).map (fun n=>[nI n]):=by
   rw [eo,eX];unfold swap;rw [List.map_set,List.map_set];have:(dA ds n ++ [(n:Int)]).getD n 0=n:=by
    rw [List.getD_eq_getElem?_getD,List.getElem?_append_right (by omega),hlen];simp
   rw [this];rfl
  repeat (first | (refine K.binOp ?_;refine jq rfl rfl rfl (Qt.dy rfl rfl rfl a1) ?_) | (refine K.call ?_;(refine JO.FG (ih) rfl (qb rfl) rfl ?_ ?_;(focus ((repeat (first | exact br.nil | refine br.cons c9.refl ?_));done));intro _)) | (refine K.slice ?_;refine jq rfl rfl rfl ((Qt.mX rfl rfl rfl (by (omega)) (by (omega)) (by (simp;omega))).eq (congrArg (fun z=>D.c (A.r 1 z)) ct)) ?_) | (refine K.bi ?_;refine JO.ld (Ld.bH (qb rfl) rfl rfl .bV (by (simp;omega))) rfl (fun _=>?_)) | refine av ?_ | intro _)
  refine J.draw (by kernel_rfl) rfl ?_;refine JW.base (some 15) ?_;refine tk 0 ?_;refine tk 1 ?_;refine tk 5 ?_;refine tk 6 ?_;refine JD.take 7 rfl rfl (by kernel_rfl) rfl (qb rfl) (Qt.dy rfl rfl rfl a1) rfl ?_;refine JD.take 8 rfl rfl (by kernel_rfl) rfl (qb rfl) (Qt.cB rfl rfl (by omega) (by omega)) rfl ?_;refine JD.take 9 rfl rfl (by kernel_rfl) rfl (qb rfl) (Qt.dx rfl q1 rfl) rfl ?_;refine JD.j7 10 rfl rfl (by kernel_rfl) rfl (qb rfl) (Qt.move rfl) rfl ?_;refine JD.j7 11 rfl rfl (by kernel_rfl) rfl (qb rfl) (Qt.move rfl) rfl ?_;refine JD.j7 12 rfl rfl (by kernel_rfl) rfl (qb rfl) (Qt.cB rfl rfl (by omega) (by omega)) rfl ?_;refine JD.take 13 rfl rfl (by kernel_rfl) rfl (qb rfl) (Qt.dx rfl q2 rfl) rfl ?_;refine JD.take 14 rfl rfl (by kernel_rfl) rfl (qb rfl) (Qt.cB rfl rfl (by omega) (by (try rw [List.length_set]);omega)) rfl ?_;refine JD.BA (i:=2) (j:=3) (q:=15) (by kernel_rfl) ?_ ?_ ?_;refine JS.q rfl rfl rfl (qb rfl) (Qt.move rfl) ?_;refine JD.cy (i:=3) (j:=15) (by kernel_rfl) ?_ ?_;refine JS.q rfl rfl rfl (qb rfl) (Qt.move rfl) ?_;refine JD.cy (i:=4) (j:=15) (by kernel_rfl) ?_ ?_;refine JS.q rfl rfl rfl (qb rfl) (Qt.dy rfl rfl rfl a1) ?_;refine jt 15 rfl rfl (Ld.dV rfl rfl rfl (by exact rfl) (by (try rw [List.length_set]);omega)) (fun _=>?_);refine JW.base (some 17) ?_;refine JD.take 16 rfl rfl (by kernel_rfl) rfl (qb rfl) (Qt.cB rfl rfl (by omega) (by (try rw [List.length_set]);omega)) rfl ?_;refine jt 17 rfl rfl (Ld.dV rfl rfl rfl (by exact rfl) (by (try rw [List.length_set]);omega)) (fun _=>?_);refine bz ?_
  rotate_left
  refine JS.last rfl rfl (Ld.dV rfl rfl rfl (by exact rfl) (by (try rw [List.length_set]);omega)) (fun _=>?_);refine JW.base (some 17) ?_;refine JD.take 4 rfl rfl (by kernel_rfl) rfl (qb rfl) (Qt.dy rfl rfl rfl a1) rfl ?_;refine JD.take 16 rfl rfl (by kernel_rfl) rfl (qb rfl) (Qt.cB rfl rfl (by omega) (by (try rw [List.length_set]);omega)) rfl ?_;refine jt 17 rfl rfl (Ld.dV rfl rfl rfl (by exact rfl) (by (try rw [List.length_set]);omega)) (fun _=>?_);refine bz ?_
  rotate_left
  refine JS.last rfl rfl (Ld.dV rfl rfl rfl (by exact rfl) (by (try rw [List.length_set]);omega)) (fun _=>?_);refine JW.base (some 17) ?_;refine tk 3 ?_;refine JD.take 4 rfl rfl (by kernel_rfl) rfl (qb rfl) (Qt.dy rfl rfl rfl a1) rfl ?_;refine JD.take 16 rfl rfl (by kernel_rfl) rfl (qb rfl) (Qt.cB rfl rfl (by omega) (by (try rw [List.length_set]);omega)) rfl ?_;refine jt 17 rfl rfl (Ld.dV rfl rfl rfl (by exact rfl) (by (try rw [List.length_set]);omega)) (fun _=>?_);refine bz ?_
  rotate_left
  refine JS.q rfl rfl rfl (qb rfl) (Qt.move rfl) ?_;refine JD.BA (i:=2) (j:=4) (q:=15) (by kernel_rfl) ?_ ?_ ?_;refine JS.q rfl rfl rfl (qb rfl) (Qt.move rfl) ?_;refine JD.cy (i:=4) (j:=15) (by kernel_rfl) ?_ ?_;refine JS.q rfl rfl rfl (qb rfl) (Qt.dy rfl rfl rfl a1) ?_;refine jt 15 rfl rfl (Ld.dV rfl rfl rfl (by exact rfl) (by (try rw [List.length_set]);omega)) (fun _=>?_);refine JW.base (some 17) ?_;refine JD.take 16 rfl rfl (by kernel_rfl) rfl (qb rfl) (Qt.cB rfl rfl (by omega) (by (try rw [List.length_set]);omega)) rfl ?_;refine jt 17 rfl rfl (Ld.dV rfl rfl rfl (by exact rfl) (by (try rw [List.length_set]);omega)) (fun _=>?_);refine bz ?_
  rotate_left
  refine JS.last rfl rfl (Ld.dV rfl rfl rfl (by exact rfl) (by (try rw [List.length_set]);omega)) (fun _=>?_);refine JW.base (some 17) ?_;refine JD.take 4 rfl rfl (by kernel_rfl) rfl (qb rfl) (Qt.dy rfl rfl rfl a1) rfl ?_;refine JD.take 16 rfl rfl (by kernel_rfl) rfl (qb rfl) (Qt.cB rfl rfl (by omega) (by (try rw [List.length_set]);omega)) rfl ?_;refine jt 17 rfl rfl (Ld.dV rfl rfl rfl (by exact rfl) (by (try rw [List.length_set]);omega)) (fun _=>?_);refine bz ?_
  rotate_left
  refine JS.q rfl rfl rfl (qb rfl) (Qt.dy rfl rfl rfl a1) ?_;refine JD.cy (i:=2) (j:=15) (by kernel_rfl) ?_ ?_;refine JS.q rfl rfl rfl (qb rfl) (Qt.move rfl) ?_;refine jt 15 rfl rfl (Ld.dV rfl rfl rfl (by exact rfl) (by (try rw [List.length_set]);omega)) (fun _=>?_);refine JW.base (some 17) ?_;refine JD.take 16 rfl rfl (by kernel_rfl) rfl (qb rfl) (Qt.cB rfl rfl (by omega) (by (try rw [List.length_set]);omega)) rfl ?_;refine jt 17 rfl rfl (Ld.dV rfl rfl rfl (by exact rfl) (by (try rw [List.length_set]);omega)) (fun _=>?_);refine bz ?_
  rotate_left
  refine JS.last rfl rfl (Ld.dV rfl rfl rfl (by exact rfl) (by (try rw [List.length_set]);omega)) (fun _=>?_);refine JW.base (some 17) ?_;refine tk 2 ?_;refine JD.take 16 rfl rfl (by kernel_rfl) rfl (qb rfl) (Qt.cB rfl rfl (by omega) (by (try rw [List.length_set]);omega)) rfl ?_;refine jt 17 rfl rfl (Ld.dV rfl rfl rfl (by exact rfl) (by (try rw [List.length_set]);omega)) (fun _=>?_);refine bz ?_
  rotate_left
  refine JS.last rfl rfl (Ld.dV rfl rfl rfl (by exact rfl) (by (try rw [List.length_set]);omega)) (fun _=>?_);refine JW.base (some 17) ?_;refine tk 2 ?_;refine JD.take 4 rfl rfl (by kernel_rfl) rfl (qb rfl) (Qt.dy rfl rfl rfl a1) rfl ?_;refine JD.take 16 rfl rfl (by kernel_rfl) rfl (qb rfl) (Qt.cB rfl rfl (by omega) (by (try rw [List.length_set]);omega)) rfl ?_;refine jt 17 rfl rfl (Ld.dV rfl rfl rfl (by exact rfl) (by (try rw [List.length_set]);omega)) (fun _=>?_);refine bz ?_
  rotate_left
  refine JS.last rfl rfl (Ld.dV rfl rfl rfl (by exact rfl) (by (try rw [List.length_set]);omega)) (fun _=>?_);refine JW.base (some 17) ?_;refine tk 2 ?_;refine tk 3 ?_;refine JD.take 4 rfl rfl (by kernel_rfl) rfl (qb rfl) (Qt.dy rfl rfl rfl a1) rfl ?_;refine JD.take 16 rfl rfl (by kernel_rfl) rfl (qb rfl) (Qt.cB rfl rfl (by omega) (by (try rw [List.length_set]);omega)) rfl ?_;refine jt 17 rfl rfl (Ld.dV rfl rfl rfl (by exact rfl) (by (try rw [List.length_set]);omega)) (fun _=>?_);refine bz ?_
  rotate_left
  all_goals
   rw [e6]
   repeat (refine gn ?_)
   exact J.ret func164 rfl (.cons (.tmp rfl) .nil) _ (by exact .refl) [0] (by decide) rfl rfl
theorem Oz (l:List Int) (hb:l.length≤50000) :
  Pure prog 165 [.c (ints l)] (.c (ints (aC l))):=by
 have CS:=Ox l hb;have FL:(sort l).length=l.length:=by
  have AE:∀ (x:Int) (a:List Int),(Sx.insert x a).length=a.length + 1:=by
   intro x a
   induction a with
   | nil=>rfl
   | cons y a ih=>unfold Sx.insert;split <;> simp [ih]
  have:∀ (m acc:List Int),(m.foldl (fun acc x=>Sx.insert x acc) acc).length=acc.length + m.length:=by
   intro m
   induction m with
   | nil=>intro acc;simp
   | cons y m ih=>intro acc;rw [List.foldl_cons,ih,AE];simp;omega
  unfold sort;rw [this];simp
 have er:aC l=(sort l).foldl fV []:=rfl;rw [er];generalize sort l=m at *;have Rl:m.length≤50000:=by omega
 have OA:∀ k,((m.take k).foldl fV []).length≤k:=by
  have:∀ (q acc:List Int),(q.foldl fV acc).length≤acc.length + q.length:=by
   intro q
   induction q with
   | nil=>intro acc;simp
   | cons y q ih =>
    intro acc;rw [List.foldl_cons];refine Nat.le_trans (ih _) ?_;unfold fV
    split <;> simp <;> omega
  intro k;have:=this (m.take k) [];simp at this;simp;omega
 refine aq.intro func165 rfl rfl rfl (fun ok e=>?_)
 repeat (first | refine av ?_ | intro _)
 rename_i b0;refine J.loop (ι:={ p:Nat × Value // p.1≤m.length }) (fun p=>[(8,.c (ints m)),(9,.c (nI m.length)),(10,.c (nI p.1.1)),(3,.c (.v p.1.2))]) (fun p=>[.row p.1.2 3 1 (((m.take p.1.1).foldl fV []).map fun n=>[nI n])]) (fun p=>m.length - p.1.1) ⟨(0,.slice (some ⟨b0,0,none⟩) 0 0),Nat.zero_le _⟩ (fun X h=>h.aQ ⟨rfl,rfl,rfl,rfl,trivial⟩) (fun p ih=>?_);obtain ⟨⟨k,v⟩,jr⟩:=p;simp only at jr ih ⊢
 by_cases hk:k < m.length
 ·obtain ⟨x,hx⟩:∃ y,m[k]?=some y:=⟨_,List.getElem?_eq_getElem hk⟩
  have h1:(decide ((k:Int) < (m.length:Int)))=true:=by simpa using hk
  have e1:(m.take (k + 1)).foldl fV []=fV ((m.take k).foldl fV []) x:=by
   rw [take_one hx,List.foldl_append];rfl
  have lk:=OA k;generalize Oy:(m.take k).foldl fV []=acc at *
  by_cases rM:x≤0
  ·have c1:(decide (x≤0))=true:=decide_eq_true rM;have e2:fV acc x=acc:=by unfold fV;rw [if_pos (.inl rM)]
   repeat (refine gn ?_)
   refine J.dj ?_ ((ih ⟨(k + 1,v),by simp only;omega⟩ (by simp only;omega)).aQ ⟨rfl,rfl,rfl,rfl,trivial⟩);simp only [e1,e2]
  ·have c1:(decide (x≤0))=false:=decide_eq_false rM
   by_cases ha:acc=[]
   ·subst ha;have e2:fV [] x=[x]:=by unfold fV;rw [if_neg (by simp;omega)];rfl
    repeat (first | (refine K.bi ?_;refine JO.ld (Ld.bH (qb rfl) rfl rfl .bV (by (simp))) rfl (fun _=>?_)) | refine av ?_ | intro _)
    rename_i b9 v2;refine J.eI 1 ?_;refine J.dj ?_ ((ih ⟨(k + 1,v2),by simp only;omega⟩ (by simp only;omega)).aQ ⟨rfl,rfl,rfl,rfl,trivial⟩);simp only [e1,e2,List.map_append,List.map_cons,List.map_nil,List.nil_append]
   ·obtain ⟨n,hn⟩:∃ n:Nat,acc.length=n + 1:=by
     cases acc with
     | nil=>exact absurd rfl ha
     | cons y q=>exact ⟨q.length,rfl⟩
    have hl:=EX ha;have c2:(decide (((acc.map fun n=>[nI n]).length:Int) > 0))=true:=by simp;omega
    have a1:IntKind.i64.wrap (((acc.map fun n=>[nI n]).length:Int) - 1)=(n:Int):=by rw [fq (by simp;omega) (by simp;omega)];simp;omega
    have q1:(acc.map fun n=>[nI n])[((n:Int)).toNat]?=some [nI (acc.getLastD 0)]:=at_map (by rw [show acc.length - 1=n by omega] at hl;exact hl)
    by_cases xE:acc.getLastD 0=x
    ·have c3:(acc.getLastD 0 == x)=true:=by simpa using xE
     have e2:fV acc x=acc:=by unfold fV;rw [if_pos (.inr ⟨by omega,xE⟩)]
     repeat (first | (refine K.load ?_;((refine jq rfl rfl rfl (Qt.dx rfl (q1) (by exact rfl)) ?_))) | (refine K.indexAddr ?_;refine jq rfl rfl rfl (Qt.cB rfl rfl (by (omega)) (by (simp;omega))) ?_) | (refine K.binOp ?_;refine jq rfl rfl rfl (Qt.dy rfl rfl rfl a1) ?_) | refine gn ?_)
     refine J.dj ?_ ((ih ⟨(k + 1,v),by simp only;omega⟩ (by simp only;omega)).aQ ⟨rfl,rfl,rfl,rfl,trivial⟩);simp only [e1,e2]
    ·have c3:(acc.getLastD 0 == x)=false:=by simpa using xE
     have e2:fV acc x=acc ++ [x]:=by unfold fV;rw [if_neg (by intro h;rcases h with h | h;exact rM h;exact xE h.2)]
     repeat (first | (refine K.load ?_;((refine jq rfl rfl rfl (Qt.dx rfl (q1) (by exact rfl)) ?_))) | (refine K.indexAddr ?_;refine jq rfl rfl rfl (Qt.cB rfl rfl (by (omega)) (by (simp;omega))) ?_) | (refine K.binOp ?_;refine jq rfl rfl rfl (Qt.dy rfl rfl rfl a1) ?_) | (refine K.bi ?_;refine JO.ld (Ld.bH (qb rfl) rfl rfl .bV (by (simp;omega))) rfl (fun _=>?_)) | refine av ?_ | intro _)
     rename_i b9 v2;refine J.eI 1 ?_;refine J.dj ?_ ((ih ⟨(k + 1,v2),by simp only;omega⟩ (by simp only;omega)).aQ ⟨rfl,rfl,rfl,rfl,trivial⟩);simp only [e1,e2,List.map_append,List.map_cons,List.map_nil,List.nil_append]
 ·have h1:(decide ((k:Int) < (m.length:Int)))=false:=by simpa using hk
  repeat (refine gn ?_)
  refine J.gG 2 rfl ?_;refine J.ret func165 rfl (.cons (.tmp rfl) .nil) () (.of_eq ?_) [] .nil rfl rfl;rw [List.take_of_length_le (show m.length≤k by omega)];rfl
end Fl
open Go.RowKit
namespace Fl
open Sx Go.Proofs.Tryz
set_option maxRecDepth 100000
inductive p5:List (List A)→List (List A)→Prop
 | nil:p5 [] []
 | cons {a b l m}:iW a b→p5 l m→p5 (a :: l) (b :: m)
theorem p5.rep {ok:Nat→Prop} {w:World} {sz:Nat} {l m:List (List A)} (h:p5 l m):∀ {xs:List Value},RX ok w sz l xs→RX ok w sz m xs:=by
 induction h with
 | nil=>exact id
 | cons h1 h2 ih =>
  intro xs r;obtain ⟨vs,ys,rfl,a2,a3,a4⟩:=r;exact ⟨vs,ys,rfl,a2,h1.rep a3,ih a4⟩
theorem p5.len {l m:List (List A)} (h:p5 l m):l.length=m.length:=by
 induction h with
 | nil=>rfl
 | cons _ _ ih=>simp [ih]
theorem St.OB {c:Cx} {f:Fm} {L:List ak} {a:Act} {w:World} {v:Value} {e:TypeId} {sz:Nat} {l m:List (List A)} (h:p5 l m) (s:St c f (.row v e sz l :: L) a w):St c f (.row v e sz m :: L) a w:=by
 have hf:∀ x,x∈aS (ak.row v e sz m :: L)↔x∈aS (ak.row v e sz l :: L):=fun x=>by simp only [iV,ak.bR]
 have ho:aZ c (.row v e sz m :: L)=aZ c (.row v e sz l :: L):=by funext x;unfold aZ;rw [hf]
 have ap:=List.pairwise_cons.1 s.ap;refine ⟨s.kp,s.size,s.iS,fun q hq=>?_,fun x hx=>s.ez x ((hf x).1 hx),List.pairwise_cons.2 ⟨ap.1,ap.2⟩,fun t d hd=>by rw [ho];exact s.fr t d hd⟩;rw [ho];rcases List.mem_cons.1 hq with rfl | hq
 ·obtain ⟨xs,h1,h2⟩:=s.res _ (List.mem_cons_self ..);exact ⟨xs,by rw [← h.len];exact h1,h.rep h2⟩
 ·exact s.res q (List.mem_cons_of_mem _ hq)
theorem Ld.AG {P:Program} {c:Cx} {f:Fm} {L:List ak} {T X:TypeId} {ps:String} {af:Array Edge} {gd:Option (Nat × Bool)} {t:Nat} {e sz:Nat} {x:Operand} {d:D} {cs eV:List A} {zs:List Value} [i:dQ P X e sz] [z:aR P e zs] (ht:t < c.N) (h:aP f x=some d) (hc:gi d=some cs) (hn:cs.length=sz) (h0:Nat.ble 1 sz=true) (hs:Nat.ble sz 1000=true) (hle:iW cs eV):Ld P c ⟨some t,.buildSlice X 1 #[(0,x)],T,ps,af,gd⟩ f L [] (fun b:Nat=>(t,.c (.v (.slice (some ⟨b,0,none⟩) 1 1))) :: f) (fun b=>.row (.slice (some ⟨b,0,none⟩) 1 1) e sz [eV] :: L):=⟨fun a w s K Q hK =>
 (Ld.dZ ht h hc hn h0 hs).go a w s K Q fun b u w' k' s' hf=>hK b u w' k' (s'.OB (.cons hle .nil)) fun y hy=>hf y (by simpa only [iV,ak.bR] using hy)⟩
theorem FM (s:ah) (g:Nat) (hg:g < s.gs.length) (hb:s.gs.length≤100000) :
  Pure prog 143 [.agg (az s),.c (nI g)] (.agg (az (never s g))):=by
 have C1:=ei s g 19 hg hb;have C2:=EG (aO s g 19) g (by rw [sK];exact hg) (by rw [sK];exact hb);refine aq.intro func143 rfl rfl rfl (fun ok e=>?_)
 repeat (first | refine av ?_ | intro _)
 exact aA func143
theorem OD (s:ah) (g:Nat) (re:Int) (hg:g < s.gs.length) :
  Pure prog 63 [.agg (az s),.c (nI g),.c (nI re)] (.agg (eM (Sx.mark s g re))):=by
 refine aq.intro func63 rfl rfl rfl (fun ok e=>?_)
 repeat (first | refine av ?_ | intro _)
 exact aA func63
theorem OE (s:ah) (g:Nat) (hg:g < s.gs.length) (hb:Fit s) (ha:-100000≤(aa s g).at_∧(aa s g).at_≤100000) :
  Pure prog 100 [.agg (az s),.c (nI g)] (.agg (az (answer s g))):=by
 have Mj:=hb.dn;have C1:=OD s g s.step hg;have er:answer s g=Sx.clear (ai { s with done:=s.done ++ [Sx.mark s g s.step] } g { aa s g with at_:=(aa s g).at_ + 1,place:=0 }) g:=rfl;rw [er];have C2:=cA { s with done:=s.done ++ [Sx.mark s g s.step] } g { aa s g with at_:=(aa s g).at_ + 1,place:=0 } hg hb.1.1;have C3:=EE (ai { s with done:=s.done ++ [Sx.mark s g s.step] } g { aa s g with at_:=(aa s g).at_ + 1,place:=0 }) g (by rw [bQ];exact hg) (by rw [bQ];exact hb.1.1);have e1:([] ++ List.map eM s.done) ++ [eM (Sx.mark s g s.step)]=(s.done ++ [Sx.mark s g s.step]).map eM:=by simp
 refine aq.intro func100 rfl rfl rfl (fun ok e=>?_)
 repeat (first | refine av ?_ | intro _)
 refine J.draw (by kernel_rfl) rfl ?_;refine JW.base (some 12) ?_;refine tk 1 ?_;refine tk 2 ?_;refine tk 4 ?_;refine tk 5 ?_;refine tk 6 ?_;refine tk 7 ?_;refine jl 0 rfl rfl rfl rfl (Ld.fD (qb rfl)) .none (fun _=>?_);refine jl 3 rfl rfl rfl rfl (Ld.bH (qb rfl) rfl rfl .read (by (simp;omega))) (by (exact .row (by repeat ((exact .refl))))) (fun _=>?_);refine cI 8 (C1) ?_;refine jl 9 rfl rfl rfl rfl (Ld.dZ (qb rfl) rfl rfl rfl rfl rfl) .none (fun _=>?_);refine jl 10 rfl rfl rfl rfl (Ld.eB (qb rfl) rfl rfl .bV (by (simp;omega))) (by (exact .row (by repeat (first | exact .refl | refine .cons ?_)))) (fun _=>?_);refine jk 11 rfl rfl rfl rfl (Qt.fieldAddr rfl rfl) ?_;refine jt 12 rfl rfl (Ld.cr rfl rfl (by exact rfl)) (fun _=>?_);refine bz ?_
 all_goals
  rw [e1]
  repeat (first | refine av ?_ | intro _)
  exact aA func100
theorem OF (s:ah) (g:Nat) (hg:g < s.gs.length) (hb:Fit s) (ha:0≤(aa s g).at_) :
  Pure prog 99 [.agg (az s),.c (nI g)] (.agg (az (jh s g))):=by
 have C0:=cU s g hg ha;have Rm:=hb.1.2.1;have aj:jh s g=jh s g:=rfl
 conv at aj=>rhs;unfold jh;simp only
 refine aq.intro func99 rfl rfl rfl (fun ok e=>?_)
 by_cases hk:(ag s g).kind=1
 ·have c1:((ag s g).kind == 1)=true:=by simpa using hk
  by_cases h8:8≤s.ax.length
  ·rw [if_pos ⟨hk,h8⟩] at aj;rw [aj];have c2:(decide ((s.ax.length:Int) ≥ 8))=true:=by simp;omega
   repeat (first | refine aI (hJ s g (res 7) 18 hg hb.1.1) ?_ | refine av ?_ | intro _)
   exact aA func99
  ·rw [ay,if_pos hk] at aj;rw [aj];have c2:(decide ((s.ax.length:Int) ≥ 8))=false:=by simp;omega
   have e1:([] ++ List.map eC s.ax) ++ [eC (⟨(ag s g).n,[],false,-1,[],[]⟩:Cn)]=(s.ax ++ [(⟨(ag s g).n,[],false,-1,[],[]⟩:Cn)]).map eC:=by simp
   have e2:((s.ax ++ [(⟨(ag s g).n,[],false,-1,[],[]⟩:Cn)]).length:Int)=s.ax.length + 1:=by simp
   repeat (first | refine av ?_ | intro _)
   refine J.draw (by kernel_rfl) rfl ?_;refine JW.base (some 10) ?_;refine tk 1 ?_;refine tk 2 ?_;refine tk 4 ?_;refine tk 5 ?_;refine tk 6 ?_;refine JD.cy (i:=0) (j:=7) (by kernel_rfl) ?_ ?_;refine JS.bt rfl rfl rfl (qb rfl) (Ld.fD (qb rfl)) .none (fun _=>?_);refine JD.cy (i:=3) (j:=7) (by kernel_rfl) ?_ ?_;refine JS.bt rfl rfl rfl (qb rfl) (Ld.bH (qb rfl) rfl rfl .read (by (simp;omega))) (by (exact .row (by repeat ((exact .refl))))) (fun _=>?_);refine jl 7 rfl rfl rfl rfl (Ld.AG (qb rfl) rfl rfl rfl rfl rfl (show iW _ (eC (⟨(ag s g).n,[],false,-1,[],[]⟩:Cn)) from .cons .refl (.cons .nil (.cons .refl (.cons .refl (.cons .nil (.cons .nil .nil))))))) .none (fun _=>?_);refine jl 8 rfl rfl rfl rfl (Ld.eB (qb rfl) rfl rfl .bV (by (simp;omega))) (by (exact .row (by repeat (first | exact .refl | refine .cons ?_)))) (fun _=>?_);refine jk 9 rfl rfl rfl rfl (Qt.fieldAddr rfl rfl) ?_;refine jt 10 rfl rfl (Ld.cr rfl rfl (by exact rfl)) (fun _=>?_);refine bz ?_
   rotate_left
   refine JS.bt rfl rfl rfl (qb rfl) (Ld.AG (qb rfl) rfl rfl rfl rfl rfl (show iW _ (eC (⟨(ag s g).n,[],false,-1,[],[]⟩:Cn)) from .cons .refl (.cons .nil (.cons .refl (.cons .refl (.cons .nil (.cons .nil .nil))))))) .none (fun _=>?_);refine jl 3 rfl rfl rfl rfl (Ld.bH (qb rfl) rfl rfl .read (by (simp;omega))) (by (exact .row (by repeat (first | exact .refl | refine .cons ?_)))) (fun _=>?_);refine jl 8 rfl rfl rfl rfl (Ld.eB (qb rfl) rfl rfl .bV (by (simp;omega))) (by (exact .row (by repeat (first | exact .refl | refine .cons ?_)))) (fun _=>?_);refine jk 9 rfl rfl rfl rfl (Qt.fieldAddr rfl rfl) ?_;refine jt 10 rfl rfl (Ld.cr rfl rfl (by exact rfl)) (fun _=>?_);refine bz ?_
   rotate_left
   refine JS.bt rfl rfl rfl (qb rfl) (Ld.AG (qb rfl) rfl rfl rfl rfl rfl (show iW _ (eC (⟨(ag s g).n,[],false,-1,[],[]⟩:Cn)) from .cons .refl (.cons .nil (.cons .refl (.cons .refl (.cons .nil (.cons .nil .nil))))))) .none (fun _=>?_);refine jl 0 rfl rfl rfl rfl (Ld.fD (qb rfl)) .none (fun _=>?_);refine jl 3 rfl rfl rfl rfl (Ld.bH (qb rfl) rfl rfl .read (by (simp;omega))) (by (exact .row (by repeat (first | exact .refl | refine .cons ?_)))) (fun _=>?_);refine jl 8 rfl rfl rfl rfl (Ld.eB (qb rfl) rfl rfl .bV (by (simp;omega))) (by (exact .row (by repeat (first | exact .refl | refine .cons ?_)))) (fun _=>?_);refine jk 9 rfl rfl rfl rfl (Qt.fieldAddr rfl rfl) ?_;refine jt 10 rfl rfl (Ld.cr rfl rfl (by exact rfl)) (fun _=>?_);refine bz ?_
   rotate_left
   all_goals
    rw [e1]
    repeat (first | refine aI (hJ { s with ax:=s.ax ++ [(⟨(ag s g).n,[],false,-1,[],[]⟩:Cn)] } g ⟨1,-1,0,true,s.ax.length + 1⟩ 18 hg hb.1.1) ?_ | (refine K.bi ?_;refine jq rfl rfl rfl ((Qt.rA rfl).eq (congrArg (fun z=>D.c (A.v (.int .i64 z))) e2)) ?_) | refine gn ?_)
    exact aA func99
 ·rw [ay,if_neg hk] at aj;have c1:((ag s g).kind == 1)=false:=by simpa using hk
  have CM:=dU s (ag s g).ch
  cases hm:aM s (ag s g).ch with
  | false =>
   rw [hm] at CM;rw [if_neg (by rw [hm];simp),if_neg (by rw [hm];simp)] at aj;rw [aj]
   repeat (first | refine aI (hJ s g ⟨1,-1,0,true,0⟩ 18 hg hb.1.1) ?_ | refine av ?_ | intro _)
   exact aA func99
  | true =>
   rw [hm] at CM;have hl:=dM hm
   by_cases h7:(ag s g).kind=7
   ·have c2:((ag s g).kind == 7)=true:=by simpa using h7
    rw [if_pos ⟨hm,h7⟩] at aj;rw [aj]
    repeat (first | refine aI (hJ s g ⟨1,-1,0,true,(cn s (ag s g).ch).buf.length⟩ 18 hg hb.1.1) ?_ | refine av ?_ | intro _)
    exact aA func99
   ·have c2:((ag s g).kind == 7)=false:=by simpa using h7
    rw [if_neg (fun h=>h7 h.2),if_pos hm] at aj;rw [aj]
    repeat (first | refine aI (hJ s g ⟨1,-1,0,true,(cn s (ag s g).ch).cap⟩ 18 hg hb.1.1) ?_ | refine av ?_ | intro _)
    exact aA func99
end Fl
end Go.Proofs.YtgjpdogjekmemaaGreat
