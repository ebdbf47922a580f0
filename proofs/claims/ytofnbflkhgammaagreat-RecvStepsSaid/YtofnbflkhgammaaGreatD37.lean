/-
  What the laws need, part D37.
  Conditions: none.
-/
import Derived.Test.YtofnbflkhgammaaGreatD33
set_option linter.unusedVariables false
set_option linter.unusedSimpArgs false
set_option linter.unnecessarySimpa false
set_option maxHeartbeats 2000000
namespace Go.Proofs.YtofnbflkhgammaaGreat
open Go.RowKit
namespace Fl
open Sx Go.Proofs.Tryz
set_option maxRecDepth 100000
theorem JO.Oi {P:Program} {c:Cx} {k:List Item} {f:Fm} {L:List ak} {ops:Array Oper} {l:List Oper} {T:TypeId} {ps:String} {af:Array Edge} {gd:Option (Nat × Bool)} {t:Nat} {F:FuncId} {args:List Operand} {tys:Array TypeId} {dm ds:List D} {e:TypeId} {sz:Nat} {ll:List (List A)} [i:aJ P F] (hC:ax P F ds [] (fun v:Value=>(D.c (.v v),[ak.row v e sz ll]))) (hw:dM ops ⟨some t,.call ⟨.value (.func F),args.toArray,tys⟩,T,ps,af,gd⟩ f=true) (ht:t < c.N) (h:iL f args=some dm) (hle:aK dm ds)
  (hk:∀ v,JO P c ops l k ((t,.c (.v v)) :: f) (.row v e sz ll :: L)):JO P c ops (⟨some t,.call ⟨.value (.func F),args.toArray,tys⟩,T,ps,af,gd⟩ :: l) k f L :=
 JO.call hC hw ht h hle (Ll:=[]) (Lr:=L) rfl hk
theorem YH (l:List Int) (a n:Int) (h0:0≤a) (h1:a≤100000) (hu:∀ x∈l,0≤x∧x < 65536) :
  Pure prog 227 [.c (nr l),.c (nI a),.c (nI n)] (.aZ [.c (nI (Sx.draw l a n).1),.c (nI (Sx.draw l a n).2)]):=by
 refine ax.intro func227 rfl rfl rfl (fun ok e=>?_)
 by_cases hn:n < 1
 ·have e1:Sx.draw l a n=(0,a):=by unfold Sx.draw;rw [if_pos (.inl hn)]
  rw [e1];have c1:(decide (n < 1))=true:=decide_eq_true hn
  repeat (refine gn ?_)
  exact aA func227
 ·have c1:(decide (n < 1))=false:=decide_eq_false hn
  by_cases ha:(l.length:Int)≤a
  ·have e1:Sx.draw l a n=(0,a):=by unfold Sx.draw;rw [if_pos (.inr ha)]
   rw [e1];have c2:(decide (a ≥ (l.length:Int)))=true:=decide_eq_true ha
   repeat (refine gn ?_)
   exact aA func227
  ·have c2:(decide (a ≥ (l.length:Int)))=false:=decide_eq_false ha;have e1:Sx.draw l a n=(aD l a % n,a + 1):=by unfold Sx.draw;rw [if_neg (by omega)]
   rw [e1];have hx:=hu _ (rQ h0 (by omega:a < l.length));have w1:IntKind.i64.wrap (aD l a)=aD l a:=eL (by omega) (by omega);have w2:(aD l a).tmod n=aD l a % n:=Int.tmod_eq_emod_of_nonneg hx.1
   repeat (first | (refine K.indexAddr ?_;refine jx rfl rfl rfl rfl (by omega) (QK h0 (by omega)) ?_) | (refine K.binOp ?_;refine jq rfl rfl rfl (Qt.rem rfl rfl (by omega) w2) ?_) | (refine K.convert ?_;refine jq rfl rfl rfl (Qt.conv rfl w1) ?_) | refine gn ?_)
   exact aA func227
theorem YI (d n:Int) (h0:0≤d) (h1:1≤n) (h2:n≤100000) :
  Pure prog 230 [.c (nI d),.c (nI n)] (.c (nI (d % n))):=by
 have w1:d.tmod n=d % n:=Int.tmod_eq_emod_of_nonneg h0;have b1:=Int.emod_nonneg d (by omega:n≠0);have b2:=Int.emod_lt_of_pos d (by omega:0 < n);have w2:(d % n + n).tmod n=d % n:=by
  rw [Int.tmod_eq_emod_of_nonneg (by omega),Int.add_emod_right,Int.emod_emod_of_dvd _ (Int.dvd_refl n)]
 refine ax.intro func230 rfl rfl rfl (fun ok e=>?_)
 repeat (first | (refine K.binOp ?_;first | refine jq rfl rfl rfl (Qt.rem rfl rfl (by omega) w1) ?_ | refine jq rfl rfl rfl (Qt.rem rfl rfl (by omega) w2) ?_) | refine gn ?_)
 exact aA func230
theorem YJ (l:List Int) (hb:l.length≤50000) :
  Pure prog 231 [.c (ints l)] (.c (ints (sort l))):=by
 refine ax.intro func231 rfl rfl rfl (fun ok e=>?_);have ins:∀ (x:Int) (a:List Int) (k:Nat),(∀ (j:Nat) (y:Int),j < k→a[j]?=some y→y≤x)→k≤a.length→(∀ y,a[k]?=some y→x < y)→Sx.insert x a=a.take k ++ x :: a.drop k:=by
  intro x a
  induction a with
  | nil=>intro k _ hk _;simp at hk;subst hk;rfl
  | cons y a ih =>
   intro k h1 h2 h3;unfold Sx.insert
   cases k with
   | zero=>have:=h3 y rfl;rw [if_neg (by omega)];rfl
   | succ k =>
    have:=h1 0 y (by omega) rfl;rw [if_pos this,ih k (fun j z hj hz=>h1 (j + 1) z (by omega) (by simpa using hz)) (by simp at h2;omega) (fun z hz=>h3 z (by simpa using hz))];rfl
 have Hh:∀ (x:Int) (a:List Int),(Sx.insert x a).length=a.length + 1:=by
  intro x a
  induction a with
  | nil=>rfl
  | cons y a ih=>unfold Sx.insert;split <;> simp [ih]
 have lens:∀ k,(sort (l.take k)).length≤k:=by
  intro k;unfold sort;have:∀ (m acc:List Int),(m.foldl (fun acc x=>Sx.insert x acc) acc).length=acc.length + m.length:=by
   intro m
   induction m with
   | nil=>intro acc;simp
   | cons y m ih=>intro acc;rw [List.foldl_cons,ih,Hh];simp;omega
  rw [this];simp;omega
 repeat (first | refine av ?_ | intro _)
 refine J.jY 3 rfl ?_;refine J.loop (ι:={ k:Nat // k≤l.length }) (fun p=>[(9,.c (ints l)),(10,.c (nI l.length)),(11,.c (nI p.1)),(3,.c (ints (sort (l.take p.1))))]) (fun p=>[]) (fun p=>l.length - p.1) ⟨0,Nat.zero_le _⟩ (fun X h=>h.aW ⟨rfl,rfl,rfl,rfl,trivial⟩) (fun p ih=>?_);obtain ⟨k,fD⟩:=p;simp only at ih ⊢
 by_cases hk:k < l.length
 ·obtain ⟨x,hx⟩:∃ y,l[k]?=some y:=⟨_,List.getElem?_eq_getElem hk⟩
  have h1:(decide ((k:Int) < (l.length:Int)))=true:=by simpa using hk
  have e1:sort (l.take (k + 1))=Sx.insert x (sort (l.take k)):=by
   rw [take_one hx];unfold sort;rw [List.foldl_append];rfl
  have lk:=lens k;generalize YK:sort (l.take k)=acc at *
  repeat (refine gn ?_)
  refine J.loop (ι:={ q:Nat // q≤acc.length∧∀ (j:Nat) (y:Int),j < q→acc[j]?=some y→y≤x }) (fun q=>[(6,.c (nI q.1)),(5,.c (nI x)),(9,.c (ints l)),(10,.c (nI l.length)),(11,.c (nI k)),(3,.c (ints acc))]) (fun q=>[]) (fun q=>acc.length - q.1) ⟨0,Nat.zero_le _,fun j y h=>absurd h (Nat.not_lt_zero _)⟩ (fun X h=>h.aW ⟨rfl,rfl,rfl,rfl,rfl,rfl,trivial⟩) (fun q iX=>?_);obtain ⟨q,hq,Oj⟩:=q;simp only at iX ⊢;have fin:(∀ y,acc[q]?=some y→x < y)→sort (l.take (k + 1))=acc.take q ++ x :: acc.drop q:=fun h=>by rw [e1];exact ins x acc q Oj hq h
  have ct:((acc.map fun n=>[nI n]).take ((q:Int)).toNat).drop (0:Int).toNat=(acc.take q).map fun n=>[nI n]:=NN rfl
  have cd:((acc.map fun n=>[nI n]).take (((acc.map fun n=>[nI n]).length:Int)).toNat).drop ((q:Int)).toNat=(acc.drop q).map fun n=>[nI n]:=by
   simp;rw [List.take_of_length_le (by simp)]
  by_cases yy:q < acc.length
  ·obtain ⟨y,hy⟩:∃ y,acc[q]?=some y:=⟨_,List.getElem?_eq_getElem yy⟩
   have h2:(decide ((q:Int) < (acc.length:Int)))=true:=by simpa using yy
   by_cases uP:y≤x
   ·have h3:(decide (y≤x))=true:=decide_eq_true uP
    repeat (refine gn ?_)
    exact (iX ⟨q + 1,by omega,fun j z hj hz=>by
     rcases Nat.lt_succ_iff_lt_or_eq.1 hj with h | h
     ·exact Oj j z h hz
     ·subst h;rw [hy] at hz;cases hz;exact uP⟩ (by simp only;omega)).aW ⟨rfl,rfl,rfl,rfl,rfl,rfl,trivial⟩
   ·have h3:(decide (y≤x))=false:=decide_eq_false uP;have ef:=fin (fun z hz=>by rw [hy] at hz;cases hz;omega)
    repeat (first | (refine K.slice ?_;first | refine jq rfl rfl rfl ((Qt.qu rfl rfl rfl (by (omega)) (by (omega)) (by (simp;omega))).eq (congrArg (fun z=>D.c (A.r 1 z)) ct)) ?_ | refine jq rfl rfl rfl ((Qt.qu rfl rfl rfl (by (omega)) (by (simp;omega)) (by (omega))).eq (congrArg (fun z=>D.c (A.r 1 z)) cd)) ?_) | (refine K.bi ?_;first | refine JO.ld (Ld.cA (qb rfl) rfl rfl .read (by first | (simp;omega) | simp)) rfl (fun _=>?_) | refine JO.ld (Ld.cA (qb rfl) rfl rfl .cY (by (simp;omega))) rfl (fun _=>?_)) | refine av ?_ | intro _)
    refine J.jY 3 rfl ?_;refine J.eP 0 ?_;have e5:([] ++ List.map (fun n=>[nI n]) (List.take q acc) ++ [[nI x]] ++ List.map (fun n=>[nI n]) (List.drop q acc))=(sort (l.take (k + 1))).map (fun n=>[nI n]):=by rw [ef];simp
    rw [e5];exact (ih ⟨k + 1,by omega⟩ (by simp only;omega)).aW ⟨rfl,rfl,rfl,rfl,trivial⟩
  ·have h2:(decide ((q:Int) < (acc.length:Int)))=false:=by simpa using yy
   have ef:=fin (fun z hz=>by have:=(List.getElem?_eq_some_iff.1 hz).1;omega)
   repeat (first | (refine K.slice ?_;first | refine jq rfl rfl rfl ((Qt.qu rfl rfl rfl (by (omega)) (by (omega)) (by (simp;omega))).eq (congrArg (fun z=>D.c (A.r 1 z)) ct)) ?_ | refine jq rfl rfl rfl ((Qt.qu rfl rfl rfl (by (omega)) (by (simp;omega)) (by (omega))).eq (congrArg (fun z=>D.c (A.r 1 z)) cd)) ?_) | (refine K.bi ?_;first | refine JO.ld (Ld.cA (qb rfl) rfl rfl .read (by first | (simp;omega) | simp)) rfl (fun _=>?_) | refine JO.ld (Ld.cA (qb rfl) rfl rfl .cY (by (simp;omega))) rfl (fun _=>?_)) | refine av ?_ | intro _)
   refine J.jY 3 rfl ?_;refine J.eP 0 ?_;have e5:([] ++ List.map (fun n=>[nI n]) (List.take q acc) ++ [[nI x]] ++ List.map (fun n=>[nI n]) (List.drop q acc))=(sort (l.take (k + 1))).map (fun n=>[nI n]):=by rw [ef];simp
   rw [e5];exact (ih ⟨k + 1,by omega⟩ (by simp only;omega)).aW ⟨rfl,rfl,rfl,rfl,trivial⟩
 ·have h1:(decide ((k:Int) < (l.length:Int)))=false:=by simpa using hk
  repeat (refine gn ?_)
  refine J.ret func231 rfl (.cons (.tmp rfl) .nil) () (.of_eq ?_) [] .nil rfl rfl;rw [List.take_of_length_le (show l.length≤k by omega)];rfl
theorem Dc (ds:List Int):∀ n,(eF ds n).length=n
 | 0=>rfl
 | n + 1=>by simp [eF,swap,Dc ds n]
theorem Ok (ds:List Int):∀ n m,n≤m→eF (ds.take m) n=eF ds n
 | 0,m,h=>rfl
 | n + 1,m,h=>by
  unfold eF;rw [Ok ds n m (by omega)]
  congr 2
  rw [List.getD_eq_getElem?_getD,List.getD_eq_getElem?_getD,List.getElem?_take,if_pos (by omega)]
theorem Ol:∀ (n:Nat) (ds:List Int),ds.length=n→n≤50000→(∀ x∈ds,0≤x) →
  ax prog 228 [.c (ints ds)] [] (fun v:Value=>(.c (.v v),[.row v 3 1 ((eF ds n).map fun n=>[nI n])]))
 | 0,ds,hn,hb,h0=>by
  refine ax.intro func228 rfl rfl rfl (fun ok e=>?_);have lS:((ds.length:Int) == 0)=true:=by simp [hn]
  repeat (first | refine av ?_ | intro _)
  exact J.ret func228 rfl (.cons (.tmp rfl) .nil) _ (by exact .refl) [0] (by decide) rfl rfl
 | n + 1,ds,hn,hb,h0=>by
  have ih:=Ol n (ds.take n) (by simp;omega) (by omega) (fun x hx=>h0 x (List.mem_of_mem_take hx));rw [Ok ds n n (Nat.le_refl _)] at ih;refine ax.intro func228 rfl rfl rfl (fun ok e=>?_);have Om:(ds.length:Int)=n + 1:=by omega
  have lS:((ds.length:Int) == 0)=false:=by rw [Om];simp;omega
  have hlen:=Dc ds n;obtain ⟨d,hd⟩:∃ d,ds[n]?=some d:=⟨_,List.getElem?_eq_getElem (by omega)⟩
  have YL:=h0 d (List.mem_of_getElem? hd);have a1:IntKind.i64.wrap ((ds.length:Int) - 1)=(n:Int):=by rw [eL (by omega) (by omega)];omega
  have ct:((ds.map fun n=>[nI n]).take ((n:Int)).toNat).drop (0:Int).toNat=(ds.take n).map fun n=>[nI n]:=NN rfl
  have eo:eF ds (n + 1)=swap (eF ds n ++ [(n:Int)]) (d % (n + 1)).toNat n:=by
   show swap _ _ _=_;rw [List.getD_eq_getElem?_getD,hd];rfl
  have CN:=YI d ds.length YL (by omega) (by omega);have k0:0≤d % (ds.length:Int):=Int.emod_nonneg d (by omega);have k1:d % (ds.length:Int) < n + 1:=by have:=Int.emod_lt_of_pos d (by omega:0 < (ds.length:Int));omega
  rw [← Om] at eo;generalize d % (ds.length:Int)=kk at *;have q1:(List.map (fun n=>[nI n]) (eF ds n) ++ [[A.v (Value.int IntKind.i64 ↑n)]])[((n:Int)).toNat]?=some [nI n]:=by
   rw [List.getElem?_append_right (by simp [hlen])];simp [hlen];rfl
  have eX:List.map (fun n=>[nI n]) (eF ds n) ++ [[A.v (Value.int IntKind.i64 ↑n)]]=(eF ds n ++ [(n:Int)]).map (fun n=>[nI n]):=by simp;rfl
  have q2:(List.map (fun n=>[nI n]) (eF ds n) ++ [[A.v (Value.int IntKind.i64 ↑n)]])[kk.toNat]?=some [nI ((eF ds n ++ [(n:Int)]).getD kk.toNat 0)]:=by
   rw [eX];exact at_map (GL (by simp;omega))
  have hX:(List.map (fun n=>[nI n]) (eF ds n) ++ [[A.v (Value.int IntKind.i64 ↑n)]]).length=n + 1:=by simp [hlen]
  have e6:(((List.map (fun n=>[nI n]) (eF ds n) ++ [[A.v (Value.int IntKind.i64 ↑n)]]).set kk.toNat [nI ↑n]).set ((n:Int)).toNat [nI ((eF ds n ++ [(n:Int)]).getD kk.toNat 0)])=(eF ds (n + 1)).map (fun n=>[nI n]):=by
   rw [eo,eX];unfold swap;rw [List.map_set,List.map_set];have:(eF ds n ++ [(n:Int)]).getD n 0=n:=by
    rw [List.getD_eq_getElem?_getD,List.getElem?_append_right (by omega),hlen];simp
   rw [this];rfl
  repeat (first | (refine K.binOp ?_;refine jq rfl rfl rfl (Qt.dj rfl rfl rfl a1) ?_) | (refine K.call ?_;(refine JO.Oi (ih) rfl (qb rfl) rfl ?_ ?_;(focus ((repeat (first | exact aK.nil | refine aK.cons dB.refl ?_));done));intro _)) | (refine K.slice ?_;refine jq rfl rfl rfl ((Qt.qu rfl rfl rfl (by (omega)) (by (omega)) (by (simp;omega))).eq (congrArg (fun z=>D.c (A.r 1 z)) ct)) ?_) | (refine K.bi ?_;refine JO.ld (Ld.cA (qb rfl) rfl rfl .cY (by (simp;omega))) rfl (fun _=>?_)) | refine av ?_ | intro _)
  refine J.draw (by kernel_rfl) rfl ?_;refine JW.base (some 15) ?_;refine tk 0 ?_;refine tk 1 ?_;refine tk 5 ?_;refine tk 6 ?_;refine JD.take 7 rfl rfl (by kernel_rfl) rfl (qb rfl) (Qt.dj rfl rfl rfl a1) rfl ?_;refine JD.take 8 rfl rfl (by kernel_rfl) rfl (qb rfl) (Qt.bM rfl rfl (by omega) (by omega)) rfl ?_;refine JD.take 9 rfl rfl (by kernel_rfl) rfl (qb rfl) (Qt.cE rfl q1 rfl) rfl ?_;refine JD.qv 10 rfl rfl (by kernel_rfl) rfl (qb rfl) (Qt.move rfl) rfl ?_;refine JD.qv 11 rfl rfl (by kernel_rfl) rfl (qb rfl) (Qt.move rfl) rfl ?_;refine JD.qv 12 rfl rfl (by kernel_rfl) rfl (qb rfl) (Qt.bM rfl rfl (by omega) (by omega)) rfl ?_;refine JD.take 13 rfl rfl (by kernel_rfl) rfl (qb rfl) (Qt.cE rfl q2 rfl) rfl ?_;refine JD.take 14 rfl rfl (by kernel_rfl) rfl (qb rfl) (Qt.bM rfl rfl (by omega) (by (try rw [List.length_set]);omega)) rfl ?_;refine JD.Jo (i:=2) (j:=3) (q:=15) (by kernel_rfl) ?_ ?_ ?_;refine JS.q rfl rfl rfl (qb rfl) (Qt.move rfl) ?_;refine JD.cU (i:=3) (j:=15) (by kernel_rfl) ?_ ?_;refine JS.q rfl rfl rfl (qb rfl) (Qt.move rfl) ?_;refine JD.cU (i:=4) (j:=15) (by kernel_rfl) ?_ ?_;refine JS.q rfl rfl rfl (qb rfl) (Qt.dj rfl rfl rfl a1) ?_;refine jt 15 rfl rfl (Ld.fZ rfl rfl rfl (by exact rfl) (by (try rw [List.length_set]);omega)) (fun _=>?_);refine JW.base (some 17) ?_;refine JD.take 16 rfl rfl (by kernel_rfl) rfl (qb rfl) (Qt.bM rfl rfl (by omega) (by (try rw [List.length_set]);omega)) rfl ?_;refine jt 17 rfl rfl (Ld.fZ rfl rfl rfl (by exact rfl) (by (try rw [List.length_set]);omega)) (fun _=>?_);refine bS ?_
  rotate_left
  refine JS.last rfl rfl (Ld.fZ rfl rfl rfl (by exact rfl) (by (try rw [List.length_set]);omega)) (fun _=>?_);refine JW.base (some 17) ?_;refine JD.take 4 rfl rfl (by kernel_rfl) rfl (qb rfl) (Qt.dj rfl rfl rfl a1) rfl ?_;refine JD.take 16 rfl rfl (by kernel_rfl) rfl (qb rfl) (Qt.bM rfl rfl (by omega) (by (try rw [List.length_set]);omega)) rfl ?_;refine jt 17 rfl rfl (Ld.fZ rfl rfl rfl (by exact rfl) (by (try rw [List.length_set]);omega)) (fun _=>?_);refine bS ?_
  rotate_left
  refine JS.last rfl rfl (Ld.fZ rfl rfl rfl (by exact rfl) (by (try rw [List.length_set]);omega)) (fun _=>?_);refine JW.base (some 17) ?_;refine tk 3 ?_;refine JD.take 4 rfl rfl (by kernel_rfl) rfl (qb rfl) (Qt.dj rfl rfl rfl a1) rfl ?_;refine JD.take 16 rfl rfl (by kernel_rfl) rfl (qb rfl) (Qt.bM rfl rfl (by omega) (by (try rw [List.length_set]);omega)) rfl ?_;refine jt 17 rfl rfl (Ld.fZ rfl rfl rfl (by exact rfl) (by (try rw [List.length_set]);omega)) (fun _=>?_);refine bS ?_
  rotate_left
  refine JS.q rfl rfl rfl (qb rfl) (Qt.move rfl) ?_;refine JD.Jo (i:=2) (j:=4) (q:=15) (by kernel_rfl) ?_ ?_ ?_;refine JS.q rfl rfl rfl (qb rfl) (Qt.move rfl) ?_;refine JD.cU (i:=4) (j:=15) (by kernel_rfl) ?_ ?_;refine JS.q rfl rfl rfl (qb rfl) (Qt.dj rfl rfl rfl a1) ?_;refine jt 15 rfl rfl (Ld.fZ rfl rfl rfl (by exact rfl) (by (try rw [List.length_set]);omega)) (fun _=>?_);refine JW.base (some 17) ?_;refine JD.take 16 rfl rfl (by kernel_rfl) rfl (qb rfl) (Qt.bM rfl rfl (by omega) (by (try rw [List.length_set]);omega)) rfl ?_;refine jt 17 rfl rfl (Ld.fZ rfl rfl rfl (by exact rfl) (by (try rw [List.length_set]);omega)) (fun _=>?_);refine bS ?_
  rotate_left
  refine JS.last rfl rfl (Ld.fZ rfl rfl rfl (by exact rfl) (by (try rw [List.length_set]);omega)) (fun _=>?_);refine JW.base (some 17) ?_;refine JD.take 4 rfl rfl (by kernel_rfl) rfl (qb rfl) (Qt.dj rfl rfl rfl a1) rfl ?_;refine JD.take 16 rfl rfl (by kernel_rfl) rfl (qb rfl) (Qt.bM rfl rfl (by omega) (by (try rw [List.length_set]);omega)) rfl ?_;refine jt 17 rfl rfl (Ld.fZ rfl rfl rfl (by exact rfl) (by (try rw [List.length_set]);omega)) (fun _=>?_);refine bS ?_
  rotate_left
  refine JS.q rfl rfl rfl (qb rfl) (Qt.dj rfl rfl rfl a1) ?_;refine JD.cU (i:=2) (j:=15) (by kernel_rfl) ?_ ?_;refine JS.q rfl rfl rfl (qb rfl) (Qt.move rfl) ?_;refine jt 15 rfl rfl (Ld.fZ rfl rfl rfl (by exact rfl) (by (try rw [List.length_set]);omega)) (fun _=>?_);refine JW.base (some 17) ?_;refine JD.take 16 rfl rfl (by kernel_rfl) rfl (qb rfl) (Qt.bM rfl rfl (by omega) (by (try rw [List.length_set]);omega)) rfl ?_;refine jt 17 rfl rfl (Ld.fZ rfl rfl rfl (by exact rfl) (by (try rw [List.length_set]);omega)) (fun _=>?_);refine bS ?_
  rotate_left
  refine JS.last rfl rfl (Ld.fZ rfl rfl rfl (by exact rfl) (by (try rw [List.length_set]);omega)) (fun _=>?_);refine JW.base (some 17) ?_;refine tk 2 ?_;refine JD.take 16 rfl rfl (by kernel_rfl) rfl (qb rfl) (Qt.bM rfl rfl (by omega) (by (try rw [List.length_set]);omega)) rfl ?_;refine jt 17 rfl rfl (Ld.fZ rfl rfl rfl (by exact rfl) (by (try rw [List.length_set]);omega)) (fun _=>?_);refine bS ?_
  rotate_left
  refine JS.last rfl rfl (Ld.fZ rfl rfl rfl (by exact rfl) (by (try rw [List.length_set]);omega)) (fun _=>?_);refine JW.base (some 17) ?_;refine tk 2 ?_;refine JD.take 4 rfl rfl (by kernel_rfl) rfl (qb rfl) (Qt.dj rfl rfl rfl a1) rfl ?_;refine JD.take 16 rfl rfl (by kernel_rfl) rfl (qb rfl) (Qt.bM rfl rfl (by omega) (by (try rw [List.length_set]);omega)) rfl ?_;refine jt 17 rfl rfl (Ld.fZ rfl rfl rfl (by exact rfl) (by (try rw [List.length_set]);omega)) (fun _=>?_);refine bS ?_
  rotate_left
  refine JS.last rfl rfl (Ld.fZ rfl rfl rfl (by exact rfl) (by (try rw [List.length_set]);omega)) (fun _=>?_);refine JW.base (some 17) ?_;refine tk 2 ?_;refine tk 3 ?_;refine JD.take 4 rfl rfl (by kernel_rfl) rfl (qb rfl) (Qt.dj rfl rfl rfl a1) rfl ?_;refine JD.take 16 rfl rfl (by kernel_rfl) rfl (qb rfl) (Qt.bM rfl rfl (by omega) (by (try rw [List.length_set]);omega)) rfl ?_;refine jt 17 rfl rfl (Ld.fZ rfl rfl rfl (by exact rfl) (by (try rw [List.length_set]);omega)) (fun _=>?_);refine bS ?_
  rotate_left
  all_goals
   rw [e6]
   repeat (refine gn ?_)
   exact J.ret func228 rfl (.cons (.tmp rfl) .nil) _ (by exact .refl) [0] (by decide) rfl rfl
theorem YM (l:List Int) (hb:l.length≤50000) :
  Pure prog 229 [.c (ints l)] (.c (ints (aF l))):=by
 have CS:=YJ l hb;have On:(sort l).length=l.length:=by
  have Hh:∀ (x:Int) (a:List Int),(Sx.insert x a).length=a.length + 1:=by
   intro x a
   induction a with
   | nil=>rfl
   | cons y a ih=>unfold Sx.insert;split <;> simp [ih]
  have:∀ (m acc:List Int),(m.foldl (fun acc x=>Sx.insert x acc) acc).length=acc.length + m.length:=by
   intro m
   induction m with
   | nil=>intro acc;simp
   | cons y m ih=>intro acc;rw [List.foldl_cons,ih,Hh];simp;omega
  unfold sort;rw [this];simp
 have er:aF l=(sort l).foldl iD []:=rfl;rw [er];generalize sort l=m at *;have hmb:m.length≤50000:=by omega
 have YN:∀ k,((m.take k).foldl iD []).length≤k:=by
  have:∀ (q acc:List Int),(q.foldl iD acc).length≤acc.length + q.length:=by
   intro q
   induction q with
   | nil=>intro acc;simp
   | cons y q ih =>
    intro acc;rw [List.foldl_cons];refine Nat.le_trans (ih _) ?_;unfold iD
    split <;> simp <;> omega
  intro k;have:=this (m.take k) [];simp at this;simp;omega
 refine ax.intro func229 rfl rfl rfl (fun ok e=>?_)
 repeat (first | refine av ?_ | intro _)
 rename_i b0;refine J.loop (ι:={ p:Nat × Value // p.1≤m.length }) (fun p=>[(8,.c (ints m)),(9,.c (nI m.length)),(10,.c (nI p.1.1)),(3,.c (.v p.1.2))]) (fun p=>[.row p.1.2 3 1 (((m.take p.1.1).foldl iD []).map fun n=>[nI n])]) (fun p=>m.length - p.1.1) ⟨(0,.slice (some ⟨b0,0,none⟩) 0 0),Nat.zero_le _⟩ (fun X h=>h.aW ⟨rfl,rfl,rfl,rfl,trivial⟩) (fun p ih=>?_);obtain ⟨⟨k,v⟩,fD⟩:=p;simp only at fD ih ⊢
 by_cases hk:k < m.length
 ·obtain ⟨x,hx⟩:∃ y,m[k]?=some y:=⟨_,List.getElem?_eq_getElem hk⟩
  have h1:(decide ((k:Int) < (m.length:Int)))=true:=by simpa using hk
  have e1:(m.take (k + 1)).foldl iD []=iD ((m.take k).foldl iD []) x:=by
   rw [take_one hx,List.foldl_append];rfl
  have lk:=YN k;generalize YK:(m.take k).foldl iD []=acc at *
  by_cases qD:x≤0
  ·have c1:(decide (x≤0))=true:=decide_eq_true qD;have e2:iD acc x=acc:=by unfold iD;rw [if_pos (.inl qD)]
   repeat (refine gn ?_)
   refine J.fK ?_ ((ih ⟨(k + 1,v),by simp only;omega⟩ (by simp only;omega)).aW ⟨rfl,rfl,rfl,rfl,trivial⟩);simp only [e1,e2]
  ·have c1:(decide (x≤0))=false:=decide_eq_false qD
   by_cases ha:acc=[]
   ·subst ha;have e2:iD [] x=[x]:=by unfold iD;rw [if_neg (by simp;omega)];rfl
    repeat (first | (refine K.bi ?_;refine JO.ld (Ld.cA (qb rfl) rfl rfl .cY (by (simp))) rfl (fun _=>?_)) | refine av ?_ | intro _)
    rename_i b9 v2;refine J.eP 1 ?_;refine J.fK ?_ ((ih ⟨(k + 1,v2),by simp only;omega⟩ (by simp only;omega)).aW ⟨rfl,rfl,rfl,rfl,trivial⟩);simp only [e1,e2,List.map_append,List.map_cons,List.map_nil,List.nil_append]
   ·obtain ⟨n,hn⟩:∃ n:Nat,acc.length=n + 1:=by
     cases acc with
     | nil=>exact absurd rfl ha
     | cons y q=>exact ⟨q.length,rfl⟩
    have hl:=NM ha;have c2:(decide (((acc.map fun n=>[nI n]).length:Int) > 0))=true:=by simp;omega
    have a1:IntKind.i64.wrap (((acc.map fun n=>[nI n]).length:Int) - 1)=(n:Int):=by rw [eL (by simp;omega) (by simp;omega)];simp;omega
    have q1:(acc.map fun n=>[nI n])[((n:Int)).toNat]?=some [nI (acc.getLastD 0)]:=at_map (by rw [show acc.length - 1=n by omega] at hl;exact hl)
    by_cases Dd:acc.getLastD 0=x
    ·have c3:(acc.getLastD 0 == x)=true:=by simpa using Dd
     have e2:iD acc x=acc:=by unfold iD;rw [if_pos (.inr ⟨by omega,Dd⟩)]
     repeat (first | (refine K.load ?_;((refine jq rfl rfl rfl (Qt.cE rfl (q1) (by exact rfl)) ?_))) | (refine K.indexAddr ?_;refine jq rfl rfl rfl (Qt.bM rfl rfl (by (omega)) (by (simp;omega))) ?_) | (refine K.binOp ?_;refine jq rfl rfl rfl (Qt.dj rfl rfl rfl a1) ?_) | refine gn ?_)
     refine J.fK ?_ ((ih ⟨(k + 1,v),by simp only;omega⟩ (by simp only;omega)).aW ⟨rfl,rfl,rfl,rfl,trivial⟩);simp only [e1,e2]
    ·have c3:(acc.getLastD 0 == x)=false:=by simpa using Dd
     have e2:iD acc x=acc ++ [x]:=by unfold iD;rw [if_neg (by intro h;rcases h with h | h;exact qD h;exact Dd h.2)]
     repeat (first | (refine K.load ?_;((refine jq rfl rfl rfl (Qt.cE rfl (q1) (by exact rfl)) ?_))) | (refine K.indexAddr ?_;refine jq rfl rfl rfl (Qt.bM rfl rfl (by (omega)) (by (simp;omega))) ?_) | (refine K.binOp ?_;refine jq rfl rfl rfl (Qt.dj rfl rfl rfl a1) ?_) | (refine K.bi ?_;refine JO.ld (Ld.cA (qb rfl) rfl rfl .cY (by (simp;omega))) rfl (fun _=>?_)) | refine av ?_ | intro _)
     rename_i b9 v2;refine J.eP 1 ?_;refine J.fK ?_ ((ih ⟨(k + 1,v2),by simp only;omega⟩ (by simp only;omega)).aW ⟨rfl,rfl,rfl,rfl,trivial⟩);simp only [e1,e2,List.map_append,List.map_cons,List.map_nil,List.nil_append]
 ·have h1:(decide ((k:Int) < (m.length:Int)))=false:=by simpa using hk
  repeat (refine gn ?_)
  refine J.jY 2 rfl ?_;refine J.ret func229 rfl (.cons (.tmp rfl) .nil) () (.of_eq ?_) [] .nil rfl rfl;rw [List.take_of_length_le (show m.length≤k by omega)];rfl
end Fl
end Go.Proofs.YtofnbflkhgammaaGreat
