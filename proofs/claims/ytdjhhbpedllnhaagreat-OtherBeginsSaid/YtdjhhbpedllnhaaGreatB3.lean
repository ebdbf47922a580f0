/-
  What the laws need, part B3.
  Conditions: none.
-/
import Derived.Test.YtdjhhbpedllnhaaGreatB2
import Derived.ProofKit
set_option linter.unusedVariables false
set_option linter.unusedSimpArgs false
set_option linter.unnecessarySimpa false
set_option maxHeartbeats 2000000
namespace Go.Proofs.YtdjhhbpedllnhaaGreat
open Go.RowKit
namespace Fl
open Sx
set_option maxRecDepth 100000
def bO (t:Int × Int × Int):List A:=[nI t.1,nI t.2.1,nI t.2.2]
abbrev LQ (b:Nat) (u v:Value) (T N:List (Int × Int × Int)):List aj:=[.box b 134 [.v u,.v v],.row u 136 3 (T.map bO),.row v 138 3 (N.map bO)]
def mQ (p:Value) (n:Nat) (R:List (List Int)) (x:{ x:Nat × Value × Value // p=pt x.1∧Qu.Inv n R }):List aj:=LQ x.1.1 x.1.2.1 x.1.2.2 (Qu.th n R) (Qu.ln R)
def tQ (p:Value) (n:Nat) (R:List (List Int)):World→List Nat→Prop:=dP (mQ p n R)
theorem Ok (l:List (Int × Int × Int)):(l.map bO).all (·.all mW)=true:=List.all_eq_true.2 fun x hx=>by
 obtain ⟨n,_,rfl⟩:=List.mem_map.1 hx;rfl
theorem mQ.fl {p:Value} {n:Nat} {R:List (List Int)} (x:{ x:Nat × Value × Value // p=pt x.1∧Qu.Inv n R }):(mQ p n R x).all mX=true:=by
 unfold mQ LQ;simp only [List.all_cons,List.all_nil,mX,Ok];rfl
theorem Az {F:FuncId} {ds:List D} {p:Value} {n:Nat} {R R':List (List Int)} {d:D} {S:List Nat} (hi:Qu.Inv n R→Qu.Inv n R') (h:∀ b u v,p=pt b→Qu.Inv n R→an Tryz.prog F ds (LQ b u v (Qu.th n R) (Qu.ln R)) (fun _:Unit=>(d,LQ b u v (Qu.th n R') (Qu.ln R')))) :
  an Tryz.prog F ds [aM (tQ p n R) S] (fun _:Unit=>(d,[aM (tQ p n R') S])) :=
 an.vz mQ.fl fun x=>⟨Unit,fun _=>⟨x.1,x.2.1,hi x.2.2⟩,fun _=>rfl,h x.1.1 x.1.2.1 x.1.2.2 x.2.1 x.2.2⟩
theorem AA {R:List (List Int)} {j:Nat} (h:j < R.length):((Qu.ln R).map bO)[((j:Nat):Int).toNat]?=some (bO (Qu.lc (R.getD j []))):=by
 rw [Int.toNat_natCast,List.getElem?_map,Qu.N1 h];rfl
theorem rz {n:Nat} {R:List (List Int)} {x:Int} (h0:0≤x) (h:x < n):((Qu.th n R).map bO)[x.toNat]?=some (bO (Qu.tc R x)):=by
 rw [List.getElem?_map,Qu.vJ (show x.toNat < n by omega),Int.toNat_of_nonneg h0];rfl
theorem yu (R:List (List Int)):((Qu.ln R).map bO).length=R.length:=by simp [Qu.ln]
theorem kP (n:Nat) (R:List (List Int)):((Qu.th n R).map bO).length=n:=by simp [Qu.kP]
theorem DL (b n:Nat) (u v:Value) (R:List (List Int)) (k:Int) :
  an Tryz.prog 112 [.c (.v (pt b)),.c (nI k)] (LQ b u v (Qu.th n R) (Qu.ln R)) (fun _:Unit=>(.c (bI (Qu.line R k)),LQ b u v (Qu.th n R) (Qu.ln R))):=by
 have ln:=yu R;unfold Qu.line LQ;rw [← ln];refine an.intro Tryz.func112 rfl rfl rfl (fun ok e=>?_)
 cases x0:decide (k ≥ 0) with
 | false =>
  repeat (refine gn ?_)
  (exact J.bN Tryz.func112 rfl (.cons (.tmp rfl) .nil) () (by exact .refl) rfl)
 | true =>
  repeat (refine gn ?_)
  (exact J.bN Tryz.func112 rfl (.cons (.tmp rfl) .nil) () (by exact .refl) rfl)
theorem Ol (p:Value) (n:Nat) (R:List (List Int)) (S:List Nat) (k:Int):an Tryz.prog 121 [.c (.v p),.c (nI k)] [aM (tQ p n R) S] (fun _:Unit=>(.bp [.c (nI (Qu.first R k).1),.c (bI (Qu.first R k).2)],[aM (tQ p n R) S])):=by
 refine Az id fun b u v e I=>?_
 subst e;have CL:=DL b n u v R k
 cases hl:Qu.line R k with
 | false =>
  rw [show Qu.first R k=(0,false) by unfold Qu.first Qu.row;rw [hl];rfl];rw [hl] at CL;dsimp only;refine an.intro Tryz.func121 rfl rfl rfl (fun ok e=>?_)
  repeat (first | (refine K.call ?_;refine JO.ld (Ld.fj (CL) (qb rfl) rfl (by (exact aJ.cons .refl (.cons .refl .nil)))) rfl ?_;intro _) | refine gn ?_)
  (exact J.bN Tryz.func121 rfl (.cons (.tmp rfl) (.cons (.tmp rfl) .nil)) () (by exact .refl) rfl)
 | true =>
  obtain ⟨j,rfl,hj⟩:=Qu.Ax hl;have A:=AA hj;have i0:=Int.natCast_nonneg j;have i1:(j:Int) < ((Qu.ln R).map bO).length:=by rw [yu];omega
  rw [hl] at CL;have ef:Qu.first R (j:Int)=if R.getD j []=[] then (0,false) else ((R.getD j []).headD (-1),true):=by unfold Qu.first;rw [Qu.Ay hj]
  rw [ef];generalize R.getD j []=l at A
  cases l with
  | nil =>
   rw [if_pos rfl];dsimp only;refine an.intro Tryz.func121 rfl rfl rfl (fun ok e=>?_)
   repeat (first | (refine K.load ?_;refine jq rfl rfl rfl (Qt.aL rfl A rfl) ?_) | (refine K.indexAddr ?_;refine jq rfl rfl rfl (Qt.aI rfl rfl i0 i1) ?_) | (refine K.call ?_;refine JO.ld (Ld.fj (CL) (qb rfl) rfl (by (exact aJ.cons .refl (.cons .refl .nil)))) rfl ?_;intro _) | refine gn ?_)
   (exact J.bN Tryz.func121 rfl (.cons (.tmp rfl) (.cons (.tmp rfl) .nil)) () (by exact .refl) rfl)
  | cons a r =>
   rw [if_neg (by simp)];dsimp only;have t:(((a :: r).length:Int) == 0)=false:=by simp;omega
   refine an.intro Tryz.func121 rfl rfl rfl (fun ok e=>?_)
   repeat (first | (refine K.load ?_;refine jq rfl rfl rfl (Qt.aL rfl A rfl) ?_) | (refine K.indexAddr ?_;refine jq rfl rfl rfl (Qt.aI rfl rfl i0 i1) ?_) | (refine K.call ?_;refine JO.ld (Ld.fj (CL) (qb rfl) rfl (by (exact aJ.cons .refl (.cons .refl .nil)))) rfl ?_;intro _) | refine gn ?_)
   (exact J.bN Tryz.func121 rfl (.cons (.tmp rfl) (.cons (.tmp rfl) .nil)) () (by exact .refl) rfl)
theorem H7 {n:Nat} {R:List (List Int)} (I:Qu.Inv n R) {x:Int} (h:x < 0∨(n:Int)≤x):Qu.loc R x=none:=by
 cases e:Qu.loc R x with
 | none=>rfl
 | some k =>
  obtain ⟨h1,h2⟩:=Qu.vI e;have:=I.bound x (Qu.p6 h1 h2);omega
theorem jH (T:List (Int × Int × Int)) (i:Nat) (t:Int × Int × Int):(T.set i t).map bO=(T.map bO).set i (bO t):=List.map_set
theorem AB (p:Value) (n:Nat) (R:List (List Int)) (S:List Nat) (k x:Int):an Tryz.prog 109 [.c (.v p),.c (nI k),.c (nI x)] [aM (tQ p n R) S] (fun _:Unit=>(.c (bI (Qu.push n R k x).2),[aM (tQ p n (Qu.push n R k x).1) S])):=by
 refine Az (fun I=>Qu.Oa I k x) fun b u v e I=>?_
 subst e;have CL:=DL b n u v R k;have tl:=kP n R;have ja:=I.ja;obtain ⟨x0,t0⟩:∃ y,decide (x < 0)=y:=⟨_,rfl⟩
 obtain ⟨x1,t1⟩:∃ y,decide (x ≥ (((Qu.th n R).map bO).length:Int))=y:=⟨_,rfl⟩
 have no:(Qu.line R k && decide (0≤x) && decide (x < n) && (Qu.loc R x).isNone)=false→Qu.push n R k x=(R,false):=fun h=>by unfold Qu.push;rw [h];rfl
 cases hl:Qu.line R k with
 | false =>
  rw [no (by rw [hl];rfl)];rw [hl] at CL;refine an.intro Tryz.func109 rfl rfl rfl (fun ok e=>?_)
  repeat (first | (refine K.call ?_;refine JO.ld (Ld.fj (CL) (qb rfl) rfl (by (exact aJ.cons .refl (.cons .refl .nil)))) rfl ?_;intro _) | refine gn ?_)
  (exact J.bN Tryz.func109 rfl (.cons (.tmp rfl) .nil) () (by exact .refl) rfl)
 | true =>
 rw [hl] at CL
 cases x0 with
 | true =>
  rw [no (by rw [decide_eq_false (show ¬ 0≤x by simp at t0;omega)];simp)];refine an.intro Tryz.func109 rfl rfl rfl (fun ok e=>?_)
  repeat (first | (refine K.call ?_;refine JO.ld (Ld.fj (CL) (qb rfl) rfl (by (exact aJ.cons .refl (.cons .refl .nil)))) rfl ?_;intro _) | refine gn ?_)
  (exact J.bN Tryz.func109 rfl (.cons (.tmp rfl) .nil) () (by exact .refl) rfl)
 | false =>
 have h0:0≤x:=by simpa using t0
 cases x1 with
 | true =>
  rw [no (by rw [decide_eq_false (show ¬ x < (n:Int) by have:=of_decide_eq_true t1;omega)];simp)];refine an.intro Tryz.func109 rfl rfl rfl (fun ok e=>?_)
  repeat (first | (refine K.call ?_;refine JO.ld (Ld.fj (CL) (qb rfl) rfl (by (exact aJ.cons .refl (.cons .refl .nil)))) rfl ?_;intro _) | refine gn ?_)
  (exact J.bN Tryz.func109 rfl (.cons (.tmp rfl) .nil) () (by exact .refl) rfl)
 | false =>
 have h1:x < (n:Int):=by have:=of_decide_eq_false t1;omega
 have kM:x < (((Qu.th n R).map bO).length:Int):=by rw [tl];exact h1
 have TX:=rz (R:=R) h0 h1
 cases hc:Qu.loc R x with
 | some q =>
  rw [no (by rw [hc];simp)];have tx:Qu.tc R x=((q:Int),Qu.fy (R.getD q []) x,Qu.gX (R.getD q []) x):=by unfold Qu.tc;rw [hc]
  rw [tx] at TX;have t2:((q:Int) != -1)=true:=bne_iff_ne.2 (by omega);refine an.intro Tryz.func109 rfl rfl rfl (fun ok e=>?_)
  repeat (first | (refine K.load ?_;refine jq rfl rfl rfl (Qt.aL rfl TX rfl) ?_) | (refine K.indexAddr ?_;refine jq rfl rfl rfl (Qt.aI rfl rfl h0 kM) ?_) | (refine K.call ?_;refine JO.ld (Ld.fj (CL) (qb rfl) rfl (by (exact aJ.cons .refl (.cons .refl .nil)))) rfl ?_;intro _) | refine gn ?_)
  (exact J.bN Tryz.func109 rfl (.cons (.tmp rfl) .nil) () (by exact .refl) rfl)
 | none =>
 rw [Qu.Au hc] at TX;obtain ⟨j,rfl,hj⟩:=Qu.Ax hl;have B0:=AA hj;have i0:=Int.natCast_nonneg j;have i1:(j:Int) < ((Qu.ln R).map bO).length:=by rw [yu];omega
 have jn:((j:Int)).toNat < ((Qu.ln R).map bO).length:=by omega
 have xn:x.toNat < ((Qu.th n R).map bO).length:=by omega
 rw [show Qu.push n R (j:Int) x=(R.set j (R.getD j [] ++ [x]),true) by
  unfold Qu.push;rw [hl,hc,decide_eq_true h0,decide_eq_true h1,Qu.Ay hj];rfl]
 dsimp only;have eT:=Qu.N3 I hj h0 h1 hc;have eN:=Qu.Hx R j (R.getD j [] ++ [x]);have hb:∀ y,y∈R.getD j []→0≤y∧y < (n:Int)∧y≠x:=fun y hy=>by
  have m:=Qu.p6 hj hy;have:=I.bound y m;exact ⟨this.1,this.2,fun e=>Qu.p5.1 hc (e ▸ m)⟩
 have kQ:=fun y=>Qu.vK I hj (y:=y)
 have cl:((R.getD j []).length:Int) < 1000:=by
  have:=Qu.Aw (l:=R.getD j []) (n:=n) (fun a=>Nat.le_trans (Qu.count_le hj a) (I.one a)) fun a ha=>⟨(hb a ha).1,(hb a ha).2.1⟩
  omega
 generalize R.getD j []=l at B0 eT eN hb kQ cl ⊢;rw [eT,eN]
 cases l with
 | nil =>
  rw [if_pos rfl];unfold LQ;rw [jH,jH];have P1:∀ a:List A,(((Qu.ln R).map bO).set ((j:Int)).toNat a)[((j:Int)).toNat]?=some a:=fun a=>List.getElem?_set_self jn
  have P2:∀ a a':List A,((((Qu.ln R).map bO).set ((j:Int)).toNat a).set ((j:Int)).toNat a')[((j:Int)).toNat]?=some a':=fun a a'=>List.getElem?_set_self (by simpa using jn)
  have B1:=P1 [nI x,nI (-1),nI 0];have B2:=P2 [nI x,nI (-1),nI 0] [nI x,nI x,nI 0];have eF:((Qu.ln R).map bO).set j (bO (Qu.lc ([] ++ [x])))=((((Qu.ln R).map bO).set ((j:Int)).toNat [nI x,nI (-1),nI 0]).set ((j:Int)).toNat [nI x,nI x,nI 0]).set ((j:Int)).toNat [nI x,nI x,nI 1]:=by
   rw [List.set_set,List.set_set,Int.toNat_natCast];rfl
  rw [eF];have B0:((Qu.ln R).map bO)[((j:Int)).toNat]?=some [nI (-1),nI (-1),nI 0]:=B0;refine an.intro Tryz.func109 rfl rfl rfl (fun ok e=>?_)
  repeat (first | (refine K.load ?_;refine jq rfl rfl rfl (Qt.aL rfl TX rfl) ?_) | (refine K.indexAddr ?_;first | refine jq rfl rfl rfl (Qt.aI rfl rfl h0 kM) ?_ | refine jq rfl rfl rfl (Qt.aI rfl rfl i0 i1) ?_) | (refine K.call ?_;refine JO.ld (Ld.fj (CL) (qb rfl) rfl (by (exact aJ.cons .refl (.cons .refl .nil)))) rfl ?_;intro _) | refine gn ?_)
  refine J.draw (by kernel_rfl) rfl ?_;refine JW.base (some 12) ?_;refine tk 0 ?_;refine tk 1 ?_;refine tk 2 ?_;refine tk 3 ?_;refine tk 4 ?_;refine tk 5 ?_;refine tk 6 ?_;refine tk 7 ?_;refine tk 8 ?_;refine JD.take 9 rfl rfl (by kernel_rfl) rfl (qb rfl) (Qt.aL rfl B0 rfl) rfl ?_;refine tk 10 ?_;refine JD.take 11 rfl rfl (by kernel_rfl) rfl (qb rfl) (Qt.aI rfl rfl h0 kM) rfl ?_;refine jt 12 rfl rfl (Ld.eK rfl rfl rfl rfl xn) (fun _=>?_);refine bR ?_
  repeat (first | (refine K.load ?_;first | refine jq rfl rfl rfl (Qt.aL rfl B0 rfl) ?_ | refine jq rfl rfl rfl (Qt.aL rfl B2 rfl) ?_) | (refine K.store ?_;first | refine JO.ld (Ld.bL rfl rfl (by exact rfl) (B0)) rfl (fun _=>?_) | refine JO.ld (Ld.bL rfl rfl (by exact rfl) (B1)) rfl (fun _=>?_) | refine JO.ld (Ld.bL rfl rfl (by exact rfl) (B2)) rfl (fun _=>?_)) | refine gn ?_)
  (exact J.bN Tryz.func109 rfl (.cons (.tmp rfl) .nil) () (by exact .refl) rfl)
 | cons a r =>
  rw [if_neg (by simp)] at eT ⊢;unfold LQ;have lm:=Qu.DJ (a:=a :: r) (by simp);obtain ⟨l0,l1,lx⟩:=hb _ lm;have AD:=kQ _ lm;have Om:Qu.lc (a :: r ++ [x])=(a,x,((a :: r).length:Int) + 1):=by
   unfold Qu.lc;rw [List.getLastD_concat,List.length_append];rfl
  rw [Om];have B0:((Qu.ln R).map bO)[((j:Int)).toNat]?=some [nI a,nI ((a :: r).getLastD (-1)),nI (a :: r).length]:=B0;generalize (a :: r).getLastD (-1)=la at l0 l1 lx AD B0 ⊢;generalize Qu.gX (a :: r) la=pv at AD ⊢;generalize Qu.fy (a :: r) la=nx at AD;generalize (a :: r).length=c at B0 cl ⊢;rw [jH,jH,jH];have TL:(((Qu.th n R).map bO).set x.toNat (bO ((j:Int),-1,la)))[la.toNat]?=some (bO ((j:Int),nx,pv)):=by
   rw [List.getElem?_set_ne (by omega),← AD];exact rz l0 l1
  have ll:la < ((((Qu.th n R).map bO).set x.toNat (bO ((j:Int),-1,la))).length:Int):=by rw [List.length_set];omega
  have B1:(((Qu.ln R).map bO).set ((j:Int)).toNat [nI a,nI x,nI c])[((j:Int)).toNat]?=some [nI a,nI x,nI c]:=List.getElem?_set_self jn;have t4:(la == -1)=false:=beq_eq_false_iff_ne.2 (by omega);rw [show ((Qu.ln R).map bO).set j (bO (a,x,(c:Int) + 1))=(((Qu.ln R).map bO).set ((j:Int)).toNat [nI a,nI x,nI c]).set ((j:Int)).toNat [nI a,nI x,nI ((c:Int) + 1)] by rw [List.set_set,Int.toNat_natCast];rfl];refine an.intro Tryz.func109 rfl rfl rfl (fun ok e=>?_)
  repeat (first | (refine K.load ?_;refine jq rfl rfl rfl (Qt.aL rfl TX rfl) ?_) | (refine K.indexAddr ?_;first | refine jq rfl rfl rfl (Qt.aI rfl rfl h0 kM) ?_ | refine jq rfl rfl rfl (Qt.aI rfl rfl i0 i1) ?_) | (refine K.call ?_;refine JO.ld (Ld.fj (CL) (qb rfl) rfl (by (exact aJ.cons .refl (.cons .refl .nil)))) rfl ?_;intro _) | refine gn ?_)
  refine J.draw (by kernel_rfl) rfl ?_;refine JW.base (some 12) ?_;refine tk 0 ?_;refine tk 1 ?_;refine tk 2 ?_;refine tk 3 ?_;refine tk 4 ?_;refine tk 5 ?_;refine tk 6 ?_;refine tk 7 ?_;refine tk 8 ?_;refine JD.take 9 rfl rfl (by kernel_rfl) rfl (qb rfl) (Qt.aL rfl B0 rfl) rfl ?_;refine tk 10 ?_;refine JD.take 11 rfl rfl (by kernel_rfl) rfl (qb rfl) (Qt.aI rfl rfl h0 kM) rfl ?_;refine jt 12 rfl rfl (Ld.eK rfl rfl rfl rfl xn) (fun _=>?_);refine bR ?_
  repeat (first | (refine K.load ?_;refine jq rfl rfl rfl (Qt.aL rfl B0 rfl) ?_) | refine gn ?_)
  refine J.draw (by kernel_rfl) rfl ?_;refine JW.base (some 11) ?_;refine tk 0 ?_;refine tk 1 ?_;refine tk 2 ?_;refine tk 3 ?_;refine tk 4 ?_;refine tk 5 ?_;refine tk 6 ?_;refine JD.take 7 rfl rfl (by kernel_rfl) rfl (qb rfl) (Qt.aL rfl B0 rfl) rfl ?_;refine tk 8 ?_;refine JD.bz 9 rfl rfl (by kernel_rfl) rfl (qb rfl) (Qt.aI rfl rfl l0 ll) rfl ?_;refine tk 10 ?_;refine jt 11 rfl rfl (Ld.bL rfl rfl (by exact rfl) TL) (fun _=>?_);refine bR ?_
  repeat (first | (refine K.load ?_;refine jq rfl rfl rfl (Qt.aL rfl B1 rfl) ?_) | (refine K.store ?_;first | refine JO.ld (Ld.bL rfl rfl (by exact rfl) (B0)) rfl (fun _=>?_) | refine JO.ld (Ld.bL rfl rfl (by exact rfl) (B1)) rfl (fun _=>?_)) | refine gn ?_)
  (exact J.bN Tryz.func109 rfl (.cons (.tmp rfl) .nil) () (by exact .refl) rfl)
theorem On (b n:Nat) (u v:Value) (R:List (List Int)) (x:Int) (I:Qu.Inv n R) :
  an Tryz.prog 186 [.c (.v (pt b)),.c (nI x)] (LQ b u v (Qu.th n R) (Qu.ln R)) (fun _:Unit=>(.bp [.c (nI (Qu.ue R x).1),.c (bI (Qu.ue R x).2)],LQ b u v (Qu.th n R) (Qu.ln R))):=by
 have tl:=kP n R;unfold Qu.ue LQ;obtain ⟨x0,t0⟩:∃ y,decide (x < 0)=y:=⟨_,rfl⟩
 obtain ⟨x1,t1⟩:∃ y,decide (x ≥ (((Qu.th n R).map bO).length:Int))=y:=⟨_,rfl⟩
 refine an.intro Tryz.func186 rfl rfl rfl (fun ok e=>?_)
 cases x0 with
 | true =>
  rw [H7 I (.inl (of_decide_eq_true t0))];dsimp only
  repeat (refine gn ?_)
  (exact J.bN Tryz.func186 rfl (.cons (.tmp rfl) (.cons (.tmp rfl) .nil)) () (by exact .refl) rfl)
 | false =>
 have h0:0≤x:=by simpa using t0
 cases x1 with
 | true =>
  rw [H7 I (.inr (by have:=of_decide_eq_true t1;omega))];dsimp only
  repeat (refine gn ?_)
  (exact J.bN Tryz.func186 rfl (.cons (.tmp rfl) (.cons (.tmp rfl) .nil)) () (by exact .refl) rfl)
 | false =>
 have h1:x < (n:Int):=by have:=of_decide_eq_false t1;omega
 have kM:x < (((Qu.th n R).map bO).length:Int):=by rw [tl];exact h1
 have TX:=rz (R:=R) h0 h1
 cases hc:Qu.loc R x with
 | none =>
  rw [Qu.Au hc] at TX;dsimp only
  repeat (first | (refine K.load ?_;refine jq rfl rfl rfl (Qt.aL rfl TX rfl) ?_) | (refine K.indexAddr ?_;refine jq rfl rfl rfl (Qt.aI rfl rfl h0 kM) ?_) | refine gn ?_)
  (exact J.bN Tryz.func186 rfl (.cons (.tmp rfl) (.cons (.tmp rfl) .nil)) () (by exact .refl) rfl)
 | some q =>
  have tx:Qu.tc R x=((q:Int),Qu.fy (R.getD q []) x,Qu.gX (R.getD q []) x):=by unfold Qu.tc;rw [hc]
  rw [tx] at TX;have t2:((q:Int) == -1)=false:=beq_eq_false_iff_ne.2 (by omega);dsimp only
  repeat (first | (refine K.load ?_;refine jq rfl rfl rfl (Qt.aL rfl TX rfl) ?_) | (refine K.indexAddr ?_;refine jq rfl rfl rfl (Qt.aI rfl rfl h0 kM) ?_) | refine gn ?_)
  (exact J.bN Tryz.func186 rfl (.cons (.tmp rfl) (.cons (.tmp rfl) .nil)) () (by exact .refl) rfl)
theorem Oo (p:Value) (n:Nat) (R:List (List Int)) (S:List Nat) (x:Int):an Tryz.prog 123 [.c (.v p),.c (nI x)] [aM (tQ p n R) S] (fun _:Unit=>(.c (bI (Qu.drop R x).2),[aM (tQ p n (Qu.drop R x).1) S])):=by
 refine Az (fun I=>Qu.Of I x) fun b0 u v e I=>?_
 subst e;have CI:=On b0 n u v R x I;have tl:=kP n R;have ja:=I.ja
 cases hc:Qu.loc R x with
 | none =>
  rw [show Qu.ue R x=(0,false) by unfold Qu.ue;rw [hc]] at CI;rw [show Qu.drop R x=(R,false) by unfold Qu.drop;rw [hc]];dsimp only at CI ⊢;refine an.intro Tryz.func123 rfl rfl rfl (fun ok e=>?_)
  repeat (first | (refine K.call ?_;refine JO.ld (Ld.fj (CI) (qb rfl) rfl (by (exact aJ.cons .refl (.cons .refl .nil)))) rfl ?_;intro _) | refine gn ?_)
  (exact J.bN Tryz.func123 rfl (.cons (.tmp rfl) .nil) () (by exact .refl) rfl)
 | some j =>
 rw [show Qu.ue R x=((j:Int),true) by unfold Qu.ue;rw [hc]] at CI;obtain ⟨a,b,hj,hl,eD⟩:=Qu.HY I hc;have F:=Qu.Od I hj hl;rw [eD];dsimp only at CI ⊢;have eT:=Qu.N6 I hj hl;rw [Qu.Hx R j (a ++ b)];have TX:=rz (R:=R) F.x0.1 F.x0.2;rw [F.tx] at TX;have B0:=AA hj;rw [hl] at B0;have i0:=Int.natCast_nonneg j;have i1:(j:Int) < ((Qu.ln R).map bO).length:=by rw [yu];omega
 have jn:((j:Int)).toNat < ((Qu.ln R).map bO).length:=by omega
 have h0:=F.x0.1;have kM:x < (((Qu.th n R).map bO).length:Int):=by rw [tl];exact F.x0.2
 have t5:((j:Int) == -1)=false:=beq_eq_false_iff_ne.2 (by omega);have xn:x.toNat < ((Qu.th n R).map bO).length:=by omega
 have XH:=F.len;obtain ⟨xa,ta⟩:∃ y,(a.getLastD (-1) == -1)=y:=⟨_,rfl⟩
 obtain ⟨xb,tb⟩:∃ y,(b.headD (-1) == -1)=y:=⟨_,rfl⟩
 refine an.intro Tryz.func123 rfl rfl rfl (fun ok e=>?_)
 repeat (first | (refine K.load ?_;refine jq rfl rfl rfl (Qt.C8 rfl TX rfl) ?_) | (refine K.store ?_;refine JO.ld (Ld.bq rfl rfl rfl (by exact rfl) (by exact rfl)) rfl (fun _=>?_)) | (refine K.indexAddr ?_;first | refine jq rfl rfl rfl (Qt.aI rfl rfl h0 kM) ?_ | refine jq rfl rfl rfl (Qt.aI rfl rfl i0 i1) ?_) | (refine K.call ?_;refine JO.ld (Ld.fj (CI) (qb rfl) rfl (by (exact aJ.cons .refl (.cons .refl .nil)))) rfl ?_;intro _) | refine ay ?_ | intro _)
 rename_i bt;have P1:∀ a:List A,(((Qu.ln R).map bO).set ((j:Int)).toNat a)[((j:Int)).toNat]?=some a:=fun a=>List.getElem?_set_self jn
 have P2:∀ a a':List A,((((Qu.ln R).map bO).set ((j:Int)).toNat a).set ((j:Int)).toNat a')[((j:Int)).toNat]?=some a':=fun a a'=>List.getElem?_set_self (by simpa using jn)
 cases a with
 | nil =>
  obtain rfl:xa=true:=by rw [← ta];rfl
  cases b with
  | nil =>
   obtain rfl:xb=true:=by rw [← tb];rfl
   rw [eT,if_pos rfl,if_pos rfl];have e0:Qu.lc (([]:List Int) ++ x :: [])=(x,x,((([]:List Int) ++ x :: []).length:Int)):=rfl;have e1:Qu.lc (([]:List Int) ++ [])=((-1),(-1),((([]:List Int) ++ x :: []).length:Int) - 1):=rfl;rw [e0] at B0;rw [e1];have lb:0≤((([]:List Int) ++ x :: []).length:Int)∧((([]:List Int) ++ x :: []).length:Int)≤64:=⟨Int.natCast_nonneg _,by omega⟩
   generalize ((([]:List Int) ++ x :: []).length:Int)=c at B0 lb ⊢;have xl:x.toNat < ((Qu.th n R).map bO).length:=by simpa using xn
   have xi:x < (((Qu.th n R).map bO).length:Int):=by omega
   have B0:((Qu.ln R).map bO)[((j:Int)).toNat]?=some [nI x,nI x,nI c]:=B0;have B1:=P1 [nI (-1),nI x,nI c];have B2:=P2 [nI (-1),nI x,nI c] [nI (-1),nI (-1),nI c];unfold LQ;rw [jH,jH];rw [show ((Qu.ln R).map bO).set j (bO ((-1),(-1),c - 1))=(((((Qu.ln R).map bO).set ((j:Int)).toNat [nI (-1),nI x,nI c]).set ((j:Int)).toNat [nI (-1),nI (-1),nI c]).set ((j:Int)).toNat [nI (-1),nI (-1),nI (c - 1)]) by rw [List.set_set,List.set_set,Int.toNat_natCast];rfl]
   repeat (first | (refine K.store ?_;first | refine JO.ld (Ld.bL rfl rfl (by exact rfl) (B0)) rfl (fun _=>?_) | refine JO.ld (Ld.bL rfl rfl (by exact rfl) (B1)) rfl (fun _=>?_)) | refine gn ?_)
   repeat (first | (refine K.load ?_;refine jq rfl rfl rfl (Qt.aL rfl B2 rfl) ?_) | (refine K.store ?_;first | refine JO.ld (Ld.bL rfl rfl (by exact rfl) (B2)) rfl (fun _=>?_) | refine JO.ld (Ld.eK rfl rfl rfl (by exact rfl) (by exact xl)) rfl (fun _=>?_)) | (refine K.indexAddr ?_;refine jq rfl rfl rfl (Qt.aI rfl rfl h0 xi) ?_) | refine gn ?_)
   (exact J.fC [_] rfl Tryz.func123 rfl (.cons (.tmp rfl) .nil) () (by exact .refl) rfl)
  | cons b1 br =>
   obtain rfl:xb=false:=by rw [← tb];exact beq_eq_false_iff_ne.2 (by have q0:0≤b1:=(F.hb (by simp)).1;show b1≠-1;omega)
   rw [eT,if_neg (by simp),if_pos rfl];obtain ⟨q0,q1,qx,uh⟩:=F.hb (by simp);have q0:0≤b1:=q0;have q1:b1 < (n:Int):=q1;have qx:b1≠x:=qx;have uh:Qu.tc R b1=((j:Int),Qu.fy (b1 :: br) b1,x):=uh;have e0:Qu.lc (([]:List Int) ++ x :: b1 :: br)=(x,((b1 :: br).getLastD (-1)),((([]:List Int) ++ x :: b1 :: br).length:Int)):=by unfold Qu.lc;rw [List.nil_append,Qu.H6 (by simp)];rfl
   have e1:Qu.lc (([]:List Int) ++ b1 :: br)=(b1,((b1 :: br).getLastD (-1)),((([]:List Int) ++ x :: b1 :: br).length:Int) - 1):=by unfold Qu.lc;exact Prod.ext rfl (Prod.ext rfl (by simp <;> omega))
   rw [e0] at B0;rw [e1];have lb:0≤((([]:List Int) ++ x :: b1 :: br).length:Int)∧((([]:List Int) ++ x :: b1 :: br).length:Int)≤64:=⟨Int.natCast_nonneg _,by omega⟩
   generalize (b1 :: br).getLastD (-1)=lz at *;generalize ((([]:List Int) ++ x :: b1 :: br).length:Int)=c at B0 lb ⊢;have TQ:((Qu.th n R).map bO)[b1.toNat]?=some (bO ((j:Int),Qu.fy (b1 :: br) b1,x)):=by rw [← uh];exact rz q0 q1
   have ql:b1 < (((Qu.th n R).map bO).length:Int):=by rw [tl];exact q1
   have xl:x.toNat < (((Qu.th n R).map bO).set b1.toNat (bO ((j:Int),Qu.fy (b1 :: br) b1,(-1)))).length:=by simpa using xn
   have xi:x < ((((Qu.th n R).map bO).set b1.toNat (bO ((j:Int),Qu.fy (b1 :: br) b1,(-1)))).length:Int):=by omega
   have B0:((Qu.ln R).map bO)[((j:Int)).toNat]?=some [nI x,nI lz,nI c]:=B0;have B1:=P1 [nI b1,nI lz,nI c];unfold LQ;rw [jH,jH,jH];rw [show ((Qu.ln R).map bO).set j (bO (b1,lz,c - 1))=((((Qu.ln R).map bO).set ((j:Int)).toNat [nI b1,nI lz,nI c]).set ((j:Int)).toNat [nI b1,nI lz,nI (c - 1)]) by rw [List.set_set,Int.toNat_natCast];rfl]
   repeat (first | (refine K.store ?_;refine JO.ld (Ld.bL rfl rfl (by exact rfl) (B0)) rfl (fun _=>?_)) | refine gn ?_)
   refine J.draw (by kernel_rfl) rfl ?_;refine JW.base (some 10) ?_;refine tk 0 ?_;refine tk 1 ?_;refine tk 2 ?_;refine tk 3 ?_;refine tk 4 ?_;refine tk 5 ?_;refine tk 6 ?_;refine tk 7 ?_;refine JD.bz 8 rfl rfl (by kernel_rfl) rfl (qb rfl) (Qt.aI rfl rfl q0 ql) rfl ?_;refine tk 9 ?_;refine jt 10 rfl rfl (Ld.bL rfl rfl (by exact rfl) TQ) (fun _=>?_);refine bR ?_
   repeat (first | (refine K.load ?_;refine jq rfl rfl rfl (Qt.aL rfl B1 rfl) ?_) | (refine K.store ?_;first | refine JO.ld (Ld.bL rfl rfl (by exact rfl) (B1)) rfl (fun _=>?_) | refine JO.ld (Ld.eK rfl rfl rfl (by exact rfl) (by exact xl)) rfl (fun _=>?_)) | (refine K.indexAddr ?_;refine jq rfl rfl rfl (Qt.aI rfl rfl h0 xi) ?_) | refine gn ?_)
   (exact J.fC [_] rfl Tryz.func123 rfl (.cons (.tmp rfl) .nil) () (by exact .refl) rfl)
 | cons a0 ar =>
  obtain rfl:xa=false:=by rw [← ta];exact beq_eq_false_iff_ne.2 (by have:=(F.pa (by simp)).1;omega)
  cases b with
  | nil =>
   obtain rfl:xb=true:=by rw [← tb];rfl
   rw [eT,if_pos rfl,if_neg (by simp)];obtain ⟨p0,p1,px,DM⟩:=F.pa (by simp);have e0:Qu.lc (a0 :: ar ++ x :: [])=(a0,x,((a0 :: ar ++ x :: []).length:Int)):=by unfold Qu.lc;rw [List.getLastD_concat];rfl
   have e1:Qu.lc (a0 :: ar ++ [])=(a0,((a0 :: ar).getLastD (-1)),((a0 :: ar ++ x :: []).length:Int) - 1):=by rw [List.append_nil];unfold Qu.lc;exact Prod.ext rfl (Prod.ext rfl (by simp <;> omega))
   rw [e0] at B0;rw [e1];have lb:0≤((a0 :: ar ++ x :: []).length:Int)∧((a0 :: ar ++ x :: []).length:Int)≤64:=⟨Int.natCast_nonneg _,by omega⟩
   generalize (a0 :: ar).getLastD (-1)=la at *;generalize ((a0 :: ar ++ x :: []).length:Int)=c at B0 lb ⊢;have TP:((Qu.th n R).map bO)[la.toNat]?=some (bO ((j:Int),x,Qu.gX (a0 :: ar) la)):=by rw [← DM];exact rz p0 p1
   have pl:la < (((Qu.th n R).map bO).length:Int):=by rw [tl];exact p1
   have xl:x.toNat < (((Qu.th n R).map bO).set la.toNat (bO ((j:Int),(-1),Qu.gX (a0 :: ar) la))).length:=by simpa using xn
   have xi:x < ((((Qu.th n R).map bO).set la.toNat (bO ((j:Int),(-1),Qu.gX (a0 :: ar) la))).length:Int):=by omega
   have B0:((Qu.ln R).map bO)[((j:Int)).toNat]?=some [nI a0,nI x,nI c]:=B0;have B1:=P1 [nI a0,nI la,nI c];unfold LQ;rw [jH,jH,jH];rw [show ((Qu.ln R).map bO).set j (bO (a0,la,c - 1))=((((Qu.ln R).map bO).set ((j:Int)).toNat [nI a0,nI la,nI c]).set ((j:Int)).toNat [nI a0,nI la,nI (c - 1)]) by rw [List.set_set,Int.toNat_natCast];rfl]
   repeat ((refine J.fT rfl ?_))
   refine J.draw (by kernel_rfl) rfl ?_;refine JW.base (some 10) ?_;refine tk 0 ?_;refine tk 1 ?_;refine tk 2 ?_;refine tk 3 ?_;refine tk 4 ?_;refine tk 5 ?_;refine tk 6 ?_;refine tk 7 ?_;refine JD.bz 8 rfl rfl (by kernel_rfl) rfl (qb rfl) (Qt.aI rfl rfl p0 pl) rfl ?_;refine tk 9 ?_;refine jt 10 rfl rfl (Ld.bL rfl rfl (by exact rfl) TP) (fun _=>?_);refine bR ?_
   repeat (first | (refine K.store ?_;refine JO.ld (Ld.bL rfl rfl (by exact rfl) (B0)) rfl (fun _=>?_)) | refine gn ?_)
   repeat (first | (refine K.load ?_;refine jq rfl rfl rfl (Qt.aL rfl B1 rfl) ?_) | (refine K.store ?_;first | refine JO.ld (Ld.bL rfl rfl (by exact rfl) (B1)) rfl (fun _=>?_) | refine JO.ld (Ld.eK rfl rfl rfl (by exact rfl) (by exact xl)) rfl (fun _=>?_)) | (refine K.indexAddr ?_;refine jq rfl rfl rfl (Qt.aI rfl rfl h0 xi) ?_) | refine gn ?_)
   (exact J.fC [_] rfl Tryz.func123 rfl (.cons (.tmp rfl) .nil) () (by exact .refl) rfl)
  | cons b1 br =>
   obtain rfl:xb=false:=by rw [← tb];exact beq_eq_false_iff_ne.2 (by have q0:0≤b1:=(F.hb (by simp)).1;show b1≠-1;omega)
   rw [eT,if_neg (by simp),if_neg (by simp)];obtain ⟨p0,p1,px,DM⟩:=F.pa (by simp);obtain ⟨q0,q1,qx,uh⟩:=F.hb (by simp);have q0:0≤b1:=q0;have q1:b1 < (n:Int):=q1;have qx:b1≠x:=qx;have uh:Qu.tc R b1=((j:Int),Qu.fy (b1 :: br) b1,x):=uh;have pq:(a0 :: ar).getLastD (-1)≠b1:=F.ab (by simp) (by simp);have e0:Qu.lc (a0 :: ar ++ x :: b1 :: br)=(a0,((b1 :: br).getLastD (-1)),((a0 :: ar ++ x :: b1 :: br).length:Int)):=by unfold Qu.lc;rw [Qu.HZ (by simp),Qu.H6 (by simp)];rfl
   have e1:Qu.lc (a0 :: ar ++ b1 :: br)=(a0,((b1 :: br).getLastD (-1)),((a0 :: ar ++ x :: b1 :: br).length:Int) - 1):=by unfold Qu.lc;rw [Qu.HZ (by simp)];exact Prod.ext rfl (Prod.ext rfl (by simp <;> omega))
   rw [e0] at B0;rw [e1];have lb:0≤((a0 :: ar ++ x :: b1 :: br).length:Int)∧((a0 :: ar ++ x :: b1 :: br).length:Int)≤64:=⟨Int.natCast_nonneg _,by omega⟩
   generalize (a0 :: ar).getLastD (-1)=la at *;generalize (b1 :: br).getLastD (-1)=lz at *;generalize ((a0 :: ar ++ x :: b1 :: br).length:Int)=c at B0 lb ⊢;have TP:((Qu.th n R).map bO)[la.toNat]?=some (bO ((j:Int),x,Qu.gX (a0 :: ar) la)):=by rw [← DM];exact rz p0 p1
   have pl:la < (((Qu.th n R).map bO).length:Int):=by rw [tl];exact p1
   have TQ:(((Qu.th n R).map bO).set la.toNat (bO ((j:Int),b1,Qu.gX (a0 :: ar) la)))[b1.toNat]?=some (bO ((j:Int),Qu.fy (b1 :: br) b1,x)):=by rw [List.getElem?_set_ne (by omega),← uh];exact rz q0 q1
   have ql:b1 < ((((Qu.th n R).map bO).set la.toNat (bO ((j:Int),b1,Qu.gX (a0 :: ar) la))).length:Int):=by rw [List.length_set,tl];exact q1
   have xl:x.toNat < ((((Qu.th n R).map bO).set la.toNat (bO ((j:Int),b1,Qu.gX (a0 :: ar) la))).set b1.toNat (bO ((j:Int),Qu.fy (b1 :: br) b1,la))).length:=by simpa using xn
   have xi:x < (((((Qu.th n R).map bO).set la.toNat (bO ((j:Int),b1,Qu.gX (a0 :: ar) la))).set b1.toNat (bO ((j:Int),Qu.fy (b1 :: br) b1,la))).length:Int):=by omega
   have B0:((Qu.ln R).map bO)[((j:Int)).toNat]?=some [nI a0,nI lz,nI c]:=B0;unfold LQ;rw [jH,jH,jH,jH];rw [show ((Qu.ln R).map bO).set j (bO (a0,lz,c - 1))=(((Qu.ln R).map bO).set ((j:Int)).toNat [nI a0,nI lz,nI (c - 1)]) by rw [Int.toNat_natCast];rfl]
   repeat ((refine J.fT rfl ?_))
   refine J.draw (by kernel_rfl) rfl ?_;refine JW.base (some 10) ?_;refine tk 0 ?_;refine tk 1 ?_;refine tk 2 ?_;refine tk 3 ?_;refine tk 4 ?_;refine tk 5 ?_;refine tk 6 ?_;refine tk 7 ?_;refine JD.bz 8 rfl rfl (by kernel_rfl) rfl (qb rfl) (Qt.aI rfl rfl p0 pl) rfl ?_;refine tk 9 ?_;refine jt 10 rfl rfl (Ld.bL rfl rfl (by exact rfl) TP) (fun _=>?_);refine bR ?_
   repeat (refine gn ?_)
   refine J.draw (by kernel_rfl) rfl ?_;refine JW.base (some 10) ?_;refine tk 0 ?_;refine tk 1 ?_;refine tk 2 ?_;refine tk 3 ?_;refine tk 4 ?_;refine tk 5 ?_;refine tk 6 ?_;refine tk 7 ?_;refine JD.bz 8 rfl rfl (by kernel_rfl) rfl (qb rfl) (Qt.aI rfl rfl q0 ql) rfl ?_;refine tk 9 ?_;refine jt 10 rfl rfl (Ld.bL rfl rfl (by exact rfl) TQ) (fun _=>?_);refine bR ?_
   repeat (first | (refine K.load ?_;refine jq rfl rfl rfl (Qt.aL rfl B0 rfl) ?_) | (refine K.store ?_;first | refine JO.ld (Ld.bL rfl rfl (by exact rfl) (B0)) rfl (fun _=>?_) | refine JO.ld (Ld.eK rfl rfl rfl (by exact rfl) (by exact xl)) rfl (fun _=>?_)) | (refine K.indexAddr ?_;refine jq rfl rfl rfl (Qt.aI rfl rfl h0 xi) ?_) | refine gn ?_)
   (exact J.fC [_] rfl Tryz.func123 rfl (.cons (.tmp rfl) .nil) () (by exact .refl) rfl)
theorem H8 (p:Value) (n:Nat) (R:List (List Int)) (S:List Nat) (k:Int):an Tryz.prog 62 [.c (.v p),.c (nI k)] [aM (tQ p n R) S] (fun _:Unit=>(.c (ints (Qu.row R k)),[aM (tQ p n R) S])):=by
 refine Az id fun b u v e I=>?_
 subst e;have CL:=DL b n u v R k;have tl:=kP n R
 cases hl:Qu.line R k with
 | false =>
  rw [show Qu.row R k=[] by unfold Qu.row;rw [hl];rfl];rw [hl] at CL;refine an.intro Tryz.func62 rfl rfl rfl (fun ok e=>?_)
  repeat (first | (refine K.call ?_;refine JO.ld (Ld.fj (CL) (qb rfl) rfl (by (exact aJ.cons .refl (.cons .refl .nil)))) rfl ?_;intro _) | refine gn ?_)
  (exact J.bN Tryz.func62 rfl (.cons (.tmp rfl) .nil) () (.c .nil) rfl)
 | true =>
 obtain ⟨j,rfl,hj⟩:=Qu.Ax hl;have A:=AA hj;have i0:=Int.natCast_nonneg j;have i1:(j:Int) < ((Qu.ln R).map bO).length:=by rw [yu];omega
 rw [hl] at CL;rw [Qu.Ay hj];have ho:∀ a,(R.getD j []).count a≤1:=fun a=>Nat.le_trans (Qu.count_le hj a) (I.one a)
 have hb:∀ y,y∈R.getD j []→0≤y∧y < (n:Int):=fun y hy=>I.bound y (Qu.p6 hj hy)
 have kQ:=fun y=>Qu.vK I hj (y:=y)
 have ja:=I.ja;have cl:=Qu.Aw ho hb;have nx:=fun i hi=>Qu.Og ho (i:=i) hi
 generalize R.getD j []=l at A ho hb kQ cl nx ⊢;refine an.intro Tryz.func62 rfl rfl rfl (fun ok e=>?_)
 repeat (first | (refine K.load ?_;refine jq rfl rfl rfl (Qt.aL rfl A rfl) ?_) | (refine K.indexAddr ?_;refine jq rfl rfl rfl (Qt.aI rfl rfl i0 i1) ?_) | (refine K.call ?_;refine JO.ld (Ld.fj (CL) (qb rfl) rfl (by (exact aJ.cons .refl (.cons .refl .nil)))) rfl ?_;intro _) | (refine K.make ?_;refine JO.ld (Ld.Dv (l.length) (qb rfl) rfl rfl (by (rfl)) (by omega)) rfl (fun _=>?_)) | refine gn ?_)
 rename_i w;have DN:(Qu.lc l).fst=l.getD 0 (-1):=by cases l <;> rfl
 rw [DN];refine J.loop (ι:={ q:Nat × Value // q.1≤l.length }) (fun q=>[(6,.c (nI (l.getD q.1.1 (-1)))),(5,.c (.v q.1.2)),(0,.c (.v (pt b)))]) (fun q=>.row q.1.2 3 1 (aF (l.take q.1.1)) :: LQ b u v (Qu.th n R) (Qu.ln R)) (fun q=>l.length - q.1.1) ⟨(0,_),Nat.zero_le _⟩ (fun X h=>h.aW ⟨rfl,rfl,rfl,trivial⟩) (fun q ih=>?_);obtain ⟨⟨i,z⟩,hi⟩:=q;simp only at hi ih ⊢
 by_cases dM:i < l.length
 ·obtain ⟨y,hy⟩:∃ y,l[i]?=some y:=⟨_,List.getElem?_eq_getElem dM⟩
  have ey:l.getD i (-1)=y:=by rw [List.getD_eq_getElem?_getD,hy];rfl
  have ym:=List.mem_of_getElem? hy;obtain ⟨y0,y1⟩:=hb y ym;have TY:=rz (R:=R) y0 y1;have en:=nx i dM;rw [ey] at en;rw [kQ y ym,en] at TY;rw [ey];have yl:y < (((Qu.th n R).map bO).length:Int):=by rw [tl];exact y1
  have t1:(y != -1)=true:=bne_iff_ne.2 (by omega);have hlen:(aF (l.take i)).length=i:=by rw [c7,List.length_take];omega
  repeat (first | (refine K.load ?_;refine jq rfl rfl rfl (Qt.aL rfl TY rfl) ?_) | (refine K.indexAddr ?_;refine jq rfl rfl rfl (Qt.aI rfl rfl y0 yl) ?_) | (refine K.lit ?_;refine JO.ld (Ld.jS (qb rfl) rfl rfl rfl rfl rfl) rfl (fun _=>?_)) | (refine K.bi ?_;refine JO.ld (Ld.cy (qb rfl) rfl rfl .read (by (simp;omega))) rfl (fun _=>?_)) | refine gn ?_)
  refine J.dN ?_ ((ih ⟨(i + 1,_),by simp only;omega⟩ (by simp only;omega)).aW ⟨rfl,rfl,rfl,trivial⟩);rw [List.take_add_one,hy];unfold aF;rw [List.map_append];rfl
 ·obtain rfl:i=l.length:=by omega
  have ey:l.getD l.length (-1)=-1:=by rw [List.getD_eq_getElem?_getD,List.getElem?_eq_none (Nat.le_refl _)];rfl
  rw [ey,List.take_of_length_le (Nat.le_refl _)]
  repeat (refine gn ?_)
  refine J.ji 4 rfl ?_
  (exact J.bN Tryz.func62 rfl (.cons (.tmp rfl) .nil) () (by exact .refl) rfl)
def jU (a:Int × Int × Int) (N k:Nat):List (Int × Int × Int):=List.replicate k a ++ List.replicate (N - k) (0,0,0)
theorem Oq (n m:Nat) (h1:n≤64) (h2:m≤64):an Tryz.prog 47 [.c (nI n),.c (nI m)] [] (fun x:Value × List Nat=>(.bp [.c (.v x.1),.c (nI 0)],[aM (tQ x.1 n (List.replicate m [])) x.2])):=by
 refine an.x8 (Y:=Value) (d:=fun p=>.bp [.c (.v p),.c (nI 0)]) (κ:=fun p=>{ x:Nat × Value × Value // p=pt x.1∧Qu.Inv n (List.replicate m []) }) (N:=fun p x=>mQ p n (List.replicate m []) x) (fun p x=>mQ.fl x) (Z:=Nat × Value × Value) (fun z=>⟨pt z.1,⟨z,rfl,Qu.Oh n m h1 h2⟩⟩) ?_;unfold mQ LQ;rw [Qu.Oi,Qu.Oj];have t1:decide ((n:Int) < 0)=false:=decide_eq_false (by omega);have t2:decide ((n:Int) > 64)=false:=decide_eq_false (by omega);have t3:decide ((m:Int) < 0)=false:=decide_eq_false (by omega);have t4:decide ((m:Int) > 64)=false:=decide_eq_false (by omega);refine an.intro Tryz.func47 rfl rfl rfl (fun ok e=>?_)
 repeat (refine gn ?_)
 refine J.join (ι:=Nat × Nat × Nat) (fun x=>[(6,.c (.v (pt x.1)))]) (fun x=>[.box x.1 134 [.v (.slice (some ⟨x.2.1,0,none⟩) n n),.v (.slice (some ⟨x.2.2,0,none⟩) m m)],.row (.slice (some ⟨x.2.1,0,none⟩) n n) 136 3 (List.replicate n (vs [.int .i64 0,.int .i64 0,.int .i64 0])),.row (.slice (some ⟨x.2.2,0,none⟩) m m) 138 3 (List.replicate m (vs [.int .i64 0,.int .i64 0,.int .i64 0]))]) (fun x=>?_) (fun rest=>?_)
 rotate_left
 ·
  refine J.draw (by kernel_rfl) rfl ?_;refine JW.base none ?_;refine tk 0 ?_;refine tk 2 ?_;refine JD.cU (i:=1) (j:=3) (by kernel_rfl) ?_ ?_;refine JS.bZ rfl rfl rfl (qb rfl) (Ld.make n (qb rfl) rfl rfl rfl (by omega)) .none (fun _=>?_);refine jl 3 rfl rfl rfl rfl (Ld.make m (qb rfl) rfl rfl rfl (by omega)) .none (fun _=>?_);refine jk 4 rfl rfl rfl rfl (Qt.build rfl (by kernel_rfl)) ?_;refine jl 5 rfl rfl rfl rfl (Ld.box (qb rfl) rfl rfl) .none (fun _=>?_);refine jk 6 rfl rfl rfl rfl (Qt.assign rfl) ?_;refine bE ?_
  rotate_left
  refine JS.bZ rfl rfl rfl (qb rfl) (Ld.make m (qb rfl) rfl rfl rfl (by omega)) .none (fun _=>?_);refine jl 1 rfl rfl rfl rfl (Ld.make n (qb rfl) rfl rfl rfl (by omega)) .none (fun _=>?_);refine jk 4 rfl rfl rfl rfl (Qt.build rfl (by kernel_rfl)) ?_;refine jl 5 rfl rfl rfl rfl (Ld.box (qb rfl) rfl rfl) .none (fun _=>?_);refine jk 6 rfl rfl rfl rfl (Qt.assign rfl) ?_;refine bE ?_
  rotate_left
  all_goals first | exact (rest (_,_,_)).aW ⟨rfl,trivial⟩ | exact J.perm ((List.Perm.swap _ _ _).cons _) ((rest (_,_,_)).aW ⟨rfl,trivial⟩)
 obtain ⟨b,gu,gv⟩:=x;simp only;have z0:∀ N:Nat,List.replicate N (vs [.int .i64 0,.int .i64 0,.int .i64 0])=(List.replicate N ((0,0,0):Int × Int × Int)).map bO:=fun N=>by rw [List.map_replicate];rfl
 rw [z0,z0];have fl:∀ (a:Int × Int × Int) (N k:Nat),k≤N→((jU a N k).map bO).length=N:=fun a N k h=>by unfold jU;simp;omega
 repeat (refine gn ?_)
 refine J.loop (ι:={ k:Nat // k≤n }) (fun q=>[(34,.c (nI q.1)),(33,.c (nI n)),(6,.c (.v (pt b)))]) (fun q=>[.box b 134 [.v (.slice (some ⟨gu,0,none⟩) n n),.v (.slice (some ⟨gv,0,none⟩) m m)],.row (.slice (some ⟨gu,0,none⟩) n n) 136 3 ((jU (-1,-1,-1) n q.1).map bO),.row (.slice (some ⟨gv,0,none⟩) m m) 138 3 ((List.replicate m ((0,0,0):Int × Int × Int)).map bO)]) (fun q=>n - q.1) ⟨0,Nat.zero_le _⟩ (fun X h=>h.aW ⟨rfl,rfl,rfl,trivial⟩) (fun q ih=>?_);obtain ⟨k,hk⟩:=q;simp only at hk ih ⊢
 by_cases bF:k < n
 ·have s1:decide ((k:Int) < (n:Int))=true:=decide_eq_true (by omega);have i0:=Int.natCast_nonneg k;have i1:(k:Int) < (((jU (-1,-1,-1) n k).map bO).length:Int):=by rw [fl _ _ _ hk];omega
  have iq:((k:Int)).toNat < ((jU (-1,-1,-1) n k).map bO).length:=by omega
  have fP:=ih ⟨k + 1,by omega⟩ (by simp only;omega);simp only at fP;rw [show (jU (-1,-1,-1) n (k + 1)).map bO=((jU (-1,-1,-1) n k).map bO).set ((k:Int)).toNat (bO (-1,-1,-1)) by rw [← jH,Int.toNat_natCast];unfold jU;rw [yt _ _ _ _ bF]] at fP
  repeat (first | (refine K.store ?_;refine JO.ld (Ld.eK rfl rfl rfl (by exact rfl) (by exact iq)) rfl (fun _=>?_)) | (refine K.indexAddr ?_;refine jq rfl rfl rfl (Qt.aI rfl rfl i0 i1) ?_) | refine gn ?_)
  exact fP.aW ⟨rfl,rfl,rfl,trivial⟩
 obtain rfl:k=n:=by omega
 rw [show jU (-1,-1,-1) k k=List.replicate k (-1,-1,-1) by unfold jU;simp];have s1:decide ((k:Int) < (k:Int))=false:=decide_eq_false (by omega)
 repeat (refine gn ?_)
 refine J.loop (ι:={ j:Nat // j≤m }) (fun q=>[(50,.c (nI q.1)),(49,.c (nI m)),(6,.c (.v (pt b)))]) (fun q=>[.box b 134 [.v (.slice (some ⟨gu,0,none⟩) k k),.v (.slice (some ⟨gv,0,none⟩) m m)],.row (.slice (some ⟨gu,0,none⟩) k k) 136 3 ((List.replicate k ((-1,-1,-1):Int × Int × Int)).map bO),.row (.slice (some ⟨gv,0,none⟩) m m) 138 3 ((jU (-1,-1,0) m q.1).map bO)]) (fun q=>m - q.1) ⟨0,Nat.zero_le _⟩ (fun X h=>h.aW ⟨rfl,rfl,rfl,trivial⟩) (fun q lE=>?_);obtain ⟨j,hj⟩:=q;simp only at hj lE ⊢
 by_cases ff:j < m
 ·have s1:decide ((j:Int) < (m:Int))=true:=decide_eq_true (by omega);have i0:=Int.natCast_nonneg j;have i1:(j:Int) < (((jU (-1,-1,0) m j).map bO).length:Int):=by rw [fl _ _ _ hj];omega
  have iq:((j:Int)).toNat < ((jU (-1,-1,0) m j).map bO).length:=by omega
  have fP:=lE ⟨j + 1,by omega⟩ (by simp only;omega);simp only at fP;rw [show (jU (-1,-1,0) m (j + 1)).map bO=((jU (-1,-1,0) m j).map bO).set ((j:Int)).toNat (bO (-1,-1,0)) by rw [← jH,Int.toNat_natCast];unfold jU;rw [yt _ _ _ _ ff]] at fP
  repeat (first | (refine K.store ?_;refine JO.ld (Ld.eK rfl rfl rfl (by exact rfl) (by exact iq)) rfl (fun _=>?_)) | (refine K.indexAddr ?_;refine jq rfl rfl rfl (Qt.aI rfl rfl i0 i1) ?_) | refine gn ?_)
  exact fP.aW ⟨rfl,rfl,rfl,trivial⟩
 obtain rfl:j=m:=by omega
 rw [show jU (-1,-1,0) j j=List.replicate j (-1,-1,0) by unfold jU;simp];have s1:decide ((j:Int) < (j:Int))=false:=decide_eq_false (by omega)
 repeat (refine gn ?_)
 (exact J.bN Tryz.func47 rfl (.cons (.tmp rfl) (.cons (.tmp rfl) .nil)) (b,.slice (some ⟨gu,0,none⟩) k k,.slice (some ⟨gv,0,none⟩) j j) (by exact .refl) rfl)
end Fl
namespace Bc
def has (l:List (Int × Bool)) (g:Int):Bool:=decide (0≤g) && decide (g < l.length)
def mem (l:List (Int × Bool)) (g:Int):Int × Bool:=l.getD g.toNat (0,false)
def status (l:List (Int × Bool)) (g:Int):Int:=if has l g then (mem l g).1 else 2
def token (l:List (Int × Bool)) (g:Int):Bool:=has l g && (mem l g).2
def DO (l:List (Int × Bool)) (g:Int):Bool:=(status l g == 0) && !(mem l g).2
def DP (l:List (Int × Bool)) (g:Int):List (Int × Bool):=if status l g=0 then (if (mem l g).2 then l.set g.toNat (0,false) else l.set g.toNat (1,false)) else l
def H9 (l:List (Int × Bool)) (g:Int):Bool:=(status l g == 1) || ((status l g == 0) && !(mem l g).2)
def AE (l:List (Int × Bool)) (g:Int):List (Int × Bool):=if status l g=1 then l.set g.toNat (0,(mem l g).2) else if status l g=0 then l.set g.toNat (0,true) else l
def vL (l:List (Int × Bool)) (g s:Int):Bool:=has l g && decide (0≤s) && decide (s≤2)
def AF (l:List (Int × Bool)) (g s:Int) (t:Bool):List (Int × Bool):=if vL l g s then l.set g.toNat (s,t) else l
def oL (n:Int):List (Int × Bool):=List.replicate (max 0 (min n 4096)).toNat (0,false)
end Bc
open Go.RowKit
namespace Fl
open Sx
set_option maxRecDepth 100000
def p9 (o:Int × Bool):List A:=[nI o.1,bI o.2]
abbrev LB (b:Nat) (v:Value) (l:List (Int × Bool)):List aj:=[.box b 126 [.v v],.row v 143 2 (l.map p9)]
def mB (p:Value) (l:List (Int × Bool)) (x:{ x:Nat × Value // p=pt x.1 }):List aj:=LB x.1.1 x.1.2 l
def tB (p:Value) (l:List (Int × Bool)):World→List Nat→Prop:=dP (mB p l)
theorem Ot (l:List (Int × Bool)):(l.map p9).all (·.all mW)=true:=List.all_eq_true.2 fun x hx=>by
 obtain ⟨n,_,rfl⟩:=List.mem_map.1 hx;rfl
theorem mB.fl {p:Value} {l:List (Int × Bool)} (x:{ x:Nat × Value // p=pt x.1 }):(mB p l x).all mX=true:=by
 unfold mB LB;simp only [List.all_cons,List.all_nil,mX,Ot];rfl
theorem yw {F:FuncId} {ds:List D} {p:Value} {l l':List (Int × Bool)} {d:D} {S:List Nat} (h:∀ b v,p=pt b→an Tryz.prog F ds (LB b v l) (fun _:Unit=>(d,LB b v l'))) :
  an Tryz.prog F ds [aM (tB p l) S] (fun _:Unit=>(d,[aM (tB p l') S])) :=
 an.vz mB.fl fun x=>⟨Unit,fun _=>x,fun _=>rfl,h x.1.1 x.1.2 x.2⟩
theorem vN {l:List (Int × Bool)} {g:Int} (h:Bc.has l g=true):(l.map p9)[g.toNat]?=some (p9 (Bc.mem l g))∧0≤g∧g < ((l.map p9).length:Int)∧g.toNat < (l.map p9).length:=by
 unfold Bc.has at h;simp only [Bool.and_eq_true,decide_eq_true_eq] at h;have h3:g.toNat < l.length:=by omega
 refine ⟨?_,h.1,by rw [List.length_map];exact h.2,by rw [List.length_map];exact h3⟩;unfold Bc.mem;rw [List.getElem?_map,List.getD_eq_getElem?_getD,List.getElem?_eq_getElem h3];rfl
theorem yx (l:List (Int × Bool)) (i:Nat) (o:Int × Bool):(l.set i o).map p9=(l.map p9).set i (p9 o):=List.map_set
theorem DQ (b:Nat) (v:Value) (l:List (Int × Bool)) (g:Int):an Tryz.prog 106 [.c (.v (pt b)),.c (nI g)] (LB b v l) (fun _:Unit=>(.c (bI (Bc.has l g)),LB b v l)):=by
 have ln:(l.map p9).length=l.length:=List.length_map ..;unfold Bc.has LB;rw [← ln];refine an.intro Tryz.func106 rfl rfl rfl (fun ok e=>?_)
 cases x0:decide (g ≥ 0)
 all_goals
  repeat (refine gn ?_)
  (exact J.bN Tryz.func106 rfl (.cons (.tmp rfl) .nil) () (by exact .refl) rfl)
theorem DR (b:Nat) (v:Value) (l:List (Int × Bool)) (g:Int):an Tryz.prog 56 [.c (.v (pt b)),.c (nI g)] (LB b v l) (fun _:Unit=>(.c (nI (Bc.status l g)),LB b v l)):=by
 have CT:=DQ b v l g;unfold Bc.status
 cases hs:Bc.has l g with
 | false =>
  rw [hs] at CT;rw [if_neg (by simp)];refine an.intro Tryz.func56 rfl rfl rfl (fun ok e=>?_)
  repeat (first | (refine K.call ?_;refine JO.ld (Ld.fj (CT) (qb rfl) rfl (by (exact aJ.cons .refl (.cons .refl .nil)))) rfl ?_;intro _) | refine gn ?_)
  (exact J.bN Tryz.func56 rfl (.cons (.tmp rfl) .nil) () (by exact .refl) rfl)
 | true =>
  rw [hs] at CT;obtain ⟨A,i0,i1,_⟩:=vN hs;rw [if_pos rfl];refine an.intro Tryz.func56 rfl rfl rfl (fun ok e=>?_)
  repeat (first | (refine K.load ?_;refine jq rfl rfl rfl (Qt.aL rfl A rfl) ?_) | (refine K.indexAddr ?_;refine jq rfl rfl rfl (Qt.aI rfl rfl i0 i1) ?_) | (refine K.call ?_;refine JO.ld (Ld.fj (CT) (qb rfl) rfl (by (exact aJ.cons .refl (.cons .refl .nil)))) rfl ?_;intro _) | refine gn ?_)
  (exact J.bN Tryz.func56 rfl (.cons (.tmp rfl) .nil) () (by exact .refl) rfl)
theorem Ou (p:Value) (l:List (Int × Bool)) (S:List Nat) (i:Int):an Tryz.prog 56 [.c (.v p),.c (nI i)] [aM (tB p l) S] (fun _:Unit=>(.c (nI (Bc.status l i)),[aM (tB p l) S])) :=
 yw fun b v e=>by subst e;exact DR b v l i
theorem Ov (p:Value) (l:List (Int × Bool)) (S:List Nat) (i:Int):an Tryz.prog 57 [.c (.v p),.c (nI i)] [aM (tB p l) S] (fun _:Unit=>(.c (bI (Bc.token l i)),[aM (tB p l) S])):=by
 refine yw fun b v e=>?_
 subst e;have CT:=DQ b v l i;unfold Bc.token
 cases hs:Bc.has l i with
 | false =>
  rw [hs] at CT;refine an.intro Tryz.func57 rfl rfl rfl (fun ok e=>?_)
  repeat (first | (refine K.call ?_;refine JO.ld (Ld.fj (CT) (qb rfl) rfl (by (exact aJ.cons .refl (.cons .refl .nil)))) rfl ?_;intro _) | refine gn ?_)
  (exact J.bN Tryz.func57 rfl (.cons (.tmp rfl) .nil) () (by exact .refl) rfl)
 | true =>
  rw [hs] at CT;obtain ⟨A,i0,i1,_⟩:=vN hs;rw [Bool.true_and];refine an.intro Tryz.func57 rfl rfl rfl (fun ok e=>?_)
  repeat (first | (refine K.load ?_;refine jq rfl rfl rfl (Qt.aL rfl A rfl) ?_) | (refine K.indexAddr ?_;refine jq rfl rfl rfl (Qt.aI rfl rfl i0 i1) ?_) | (refine K.call ?_;refine JO.ld (Ld.fj (CT) (qb rfl) rfl (by (exact aJ.cons .refl (.cons .refl .nil)))) rfl ?_;intro _) | refine gn ?_)
  (exact J.bN Tryz.func57 rfl (.cons (.tmp rfl) .nil) () (by exact .refl) rfl)
theorem Ow {l:List (Int × Bool)} {g:Int} (h:Bc.has l g=false):Bc.status l g=2:=by unfold Bc.status;rw [h];rfl
theorem Ia {l:List (Int × Bool)} {g:Int} (h:Bc.has l g=true):Bc.status l g=(Bc.mem l g).1:=by unfold Bc.status;rw [h];rfl
theorem DS {l:List (Int × Bool)} {g:Int} (h:Bc.status l g≠2):Bc.has l g=true:=by
 cases e:Bc.has l g
 ·exact absurd (Ow e) h
 ·rfl
theorem Ox (p:Value) (l:List (Int × Bool)) (S:List Nat) (i:Int):an Tryz.prog 116 [.c (.v p),.c (nI i)] [aM (tB p l) S] (fun _:Unit=>(.c (bI (Bc.DO l i)),[aM (tB p (Bc.DP l i)) S])):=by
 refine yw fun b v e=>?_
 subst e;have CT:=DR b v l i;unfold Bc.DO Bc.DP
 by_cases z:Bc.status l i=0
 ·have hs:=DS (l:=l) (g:=i) (by omega);obtain ⟨A,i0,i1,iq⟩:=vN hs;have e0:(Bc.mem l i).1=0:=by rw [← Ia hs];exact z
  rw [z] at CT ⊢;rw [if_pos rfl];generalize Bc.mem l i=m at A e0 ⊢;obtain ⟨m1,m2⟩:=m;simp only at e0;subst e0
  cases m2 with
  | true =>
   rw [if_pos rfl];unfold LB;rw [yx];refine an.intro Tryz.func116 rfl rfl rfl (fun ok e=>?_)
   repeat (first | (refine K.load ?_;refine jq rfl rfl rfl (Qt.aL rfl A rfl) ?_) | (refine K.store ?_;refine JO.ld (Ld.bL rfl rfl (by exact rfl) (A)) rfl (fun _=>?_)) | (refine K.indexAddr ?_;refine jq rfl rfl rfl (Qt.aI rfl rfl i0 i1) ?_) | (refine K.call ?_;refine JO.ld (Ld.fj (CT) (qb rfl) rfl (by (exact aJ.cons .refl (.cons .refl .nil)))) rfl ?_;intro _) | refine gn ?_)
   (exact J.bN Tryz.func116 rfl (.cons (.tmp rfl) .nil) () (by exact .refl) rfl)
  | false =>
   rw [if_neg (by simp)];unfold LB;rw [yx];refine an.intro Tryz.func116 rfl rfl rfl (fun ok e=>?_)
   repeat (first | (refine K.load ?_;refine jq rfl rfl rfl (Qt.aL rfl A rfl) ?_) | (refine K.store ?_;refine JO.ld (Ld.bL rfl rfl (by exact rfl) (A)) rfl (fun _=>?_)) | (refine K.indexAddr ?_;refine jq rfl rfl rfl (Qt.aI rfl rfl i0 i1) ?_) | (refine K.call ?_;refine JO.ld (Ld.fj (CT) (qb rfl) rfl (by (exact aJ.cons .refl (.cons .refl .nil)))) rfl ?_;intro _) | refine gn ?_)
   (exact J.bN Tryz.func116 rfl (.cons (.tmp rfl) .nil) () (by exact .refl) rfl)
 ·have t1:(Bc.status l i != 0)=true:=bne_iff_ne.2 z;rw [if_neg z,show (Bc.status l i == 0)=false from beq_eq_false_iff_ne.2 z];refine an.intro Tryz.func116 rfl rfl rfl (fun ok e=>?_)
  repeat (first | (refine K.call ?_;refine JO.ld (Ld.fj (CT) (qb rfl) rfl (by (exact aJ.cons .refl (.cons .refl .nil)))) rfl ?_;intro _) | refine gn ?_)
  (exact J.bN Tryz.func116 rfl (.cons (.tmp rfl) .nil) () (by exact .refl) rfl)
theorem Oy (p:Value) (l:List (Int × Bool)) (S:List Nat) (i:Int):an Tryz.prog 119 [.c (.v p),.c (nI i)] [aM (tB p l) S] (fun _:Unit=>(.c (bI (Bc.H9 l i)),[aM (tB p (Bc.AE l i)) S])):=by
 refine yw fun b v e=>?_
 subst e;have CT:=DR b v l i;unfold Bc.H9 Bc.AE
 by_cases z1:Bc.status l i=1
 ·have hs:=DS (l:=l) (g:=i) (by omega);obtain ⟨A,i0,i1,iq⟩:=vN hs;rw [z1] at CT ⊢;rw [if_pos rfl];generalize Bc.mem l i=m at A ⊢;obtain ⟨m1,m2⟩:=m;unfold LB;rw [yx];refine an.intro Tryz.func119 rfl rfl rfl (fun ok e=>?_)
  repeat (first | (refine K.store ?_;refine JO.ld (Ld.bL rfl rfl (by exact rfl) (A)) rfl (fun _=>?_)) | (refine K.indexAddr ?_;refine jq rfl rfl rfl (Qt.aI rfl rfl i0 i1) ?_) | (refine K.call ?_;refine JO.ld (Ld.fj (CT) (qb rfl) rfl (by (exact aJ.cons .refl (.cons .refl .nil)))) rfl ?_;intro _) | refine gn ?_)
  (exact J.bN Tryz.func119 rfl (.cons (.tmp rfl) .nil) () (by exact .refl) rfl)
 have t1:(Bc.status l i == 1)=false:=beq_eq_false_iff_ne.2 z1;rw [t1,if_neg z1,Bool.false_or]
 by_cases z:Bc.status l i=0
 ·have hs:=DS (l:=l) (g:=i) (by omega);obtain ⟨A,i0,i1,iq⟩:=vN hs;have e0:(Bc.mem l i).1=0:=by rw [← Ia hs];exact z
  have es:Bc.mem l i=(0,true)→l.set i.toNat (0,true)=l:=fun h=>by
   rw [← h];unfold Bc.mem;have iq:i.toNat < l.length:=by simpa using iq
   rw [List.getD_eq_getElem?_getD,List.getElem?_eq_getElem iq];exact List.set_getElem_self iq
  rw [z] at CT ⊢;rw [if_pos rfl];generalize Bc.mem l i=m at A e0 es ⊢;obtain ⟨m1,m2⟩:=m;simp only at e0;subst e0
  cases m2 with
  | true =>
   rw [es rfl];refine an.intro Tryz.func119 rfl rfl rfl (fun ok e=>?_)
   repeat (first | (refine K.load ?_;refine jq rfl rfl rfl (Qt.aL rfl A rfl) ?_) | (refine K.indexAddr ?_;refine jq rfl rfl rfl (Qt.aI rfl rfl i0 i1) ?_) | (refine K.call ?_;refine JO.ld (Ld.fj (CT) (qb rfl) rfl (by (exact aJ.cons .refl (.cons .refl .nil)))) rfl ?_;intro _) | refine gn ?_)
   (exact J.bN Tryz.func119 rfl (.cons (.tmp rfl) .nil) () (by exact .refl) rfl)
  | false =>
   unfold LB;rw [yx];refine an.intro Tryz.func119 rfl rfl rfl (fun ok e=>?_)
   repeat (first | (refine K.load ?_;refine jq rfl rfl rfl (Qt.aL rfl A rfl) ?_) | (refine K.store ?_;refine JO.ld (Ld.bL rfl rfl (by exact rfl) (A)) rfl (fun _=>?_)) | (refine K.indexAddr ?_;refine jq rfl rfl rfl (Qt.aI rfl rfl i0 i1) ?_) | (refine K.call ?_;refine JO.ld (Ld.fj (CT) (qb rfl) rfl (by (exact aJ.cons .refl (.cons .refl .nil)))) rfl ?_;intro _) | refine gn ?_)
   (exact J.bN Tryz.func119 rfl (.cons (.tmp rfl) .nil) () (by exact .refl) rfl)
 ·have t0:(Bc.status l i == 0)=false:=beq_eq_false_iff_ne.2 z;rw [if_neg z,t0];refine an.intro Tryz.func119 rfl rfl rfl (fun ok e=>?_)
  repeat (first | (refine K.call ?_;refine JO.ld (Ld.fj (CT) (qb rfl) rfl (by (exact aJ.cons .refl (.cons .refl .nil)))) rfl ?_;intro _) | refine gn ?_)
  (exact J.bN Tryz.func119 rfl (.cons (.tmp rfl) .nil) () (by exact .refl) rfl)
theorem Oz (p:Value) (l:List (Int × Bool)) (S:List Nat) (i s:Int) (t:Bool):an Tryz.prog 50 [.c (.v p),.c (nI i),.c (nI s),.c (bI t)] [aM (tB p l) S] (fun _:Unit=>(.c (bI (Bc.vL l i s)),[aM (tB p (Bc.AF l i s t)) S])):=by
 refine yw fun b v e=>?_
 subst e;have CT:=DQ b v l i;obtain ⟨x0,t0⟩:∃ y,decide (s < 0)=y:=⟨_,rfl⟩
 obtain ⟨x1,t1⟩:∃ y,decide (s > 2)=y:=⟨_,rfl⟩
 have ek:Bc.vL l i s=(Bc.has l i && !x0 && !x1):=by
  unfold Bc.vL;rw [← t0,← t1,← decide_not,← decide_not];simp only [Int.not_lt,gt_iff_lt]
 unfold Bc.AF;rw [ek]
 cases hs:Bc.has l i with
 | false =>
  rw [hs] at CT;refine an.intro Tryz.func50 rfl rfl rfl (fun ok e=>?_)
  repeat (first | (refine K.call ?_;refine JO.ld (Ld.fj (CT) (qb rfl) rfl (by (exact aJ.cons .refl (.cons .refl .nil)))) rfl ?_;intro _) | refine gn ?_)
  (exact J.bN Tryz.func50 rfl (.cons (.tmp rfl) .nil) () (by exact .refl) rfl)
 | true =>
 rw [hs] at CT;obtain ⟨A,i0,i1,iq⟩:=vN hs
 cases x0 with
 | true =>
  refine an.intro Tryz.func50 rfl rfl rfl (fun ok e=>?_)
  repeat (first | (refine K.call ?_;refine JO.ld (Ld.fj (CT) (qb rfl) rfl (by (exact aJ.cons .refl (.cons .refl .nil)))) rfl ?_;intro _) | refine gn ?_)
  (exact J.bN Tryz.func50 rfl (.cons (.tmp rfl) .nil) () (by exact .refl) rfl)
 | false =>
 cases x1 with
 | true =>
  refine an.intro Tryz.func50 rfl rfl rfl (fun ok e=>?_)
  repeat (first | (refine K.call ?_;refine JO.ld (Ld.fj (CT) (qb rfl) rfl (by (exact aJ.cons .refl (.cons .refl .nil)))) rfl ?_;intro _) | refine gn ?_)
  (exact J.bN Tryz.func50 rfl (.cons (.tmp rfl) .nil) () (by exact .refl) rfl)
 | false =>
  rw [if_pos (by rfl)];unfold LB;rw [yx];refine an.intro Tryz.func50 rfl rfl rfl (fun ok e=>?_)
  repeat (first | (refine K.store ?_;refine JO.ld (Ld.eK rfl rfl rfl (by exact rfl) (by exact iq)) rfl (fun _=>?_)) | (refine K.indexAddr ?_;refine jq rfl rfl rfl (Qt.aI rfl rfl i0 i1) ?_) | (refine K.call ?_;refine JO.ld (Ld.fj (CT) (qb rfl) rfl (by (exact aJ.cons .refl (.cons .refl .nil)))) rfl ?_;intro _) | refine gn ?_)
  (exact J.bN Tryz.func50 rfl (.cons (.tmp rfl) .nil) () (by exact .refl) rfl)
theorem OA (n:Int):an Tryz.prog 44 [.c (nI n)] [] (fun x:Value × List Nat=>(.c (.v x.1),[aM (tB x.1 (Bc.oL n)) x.2])):=by
 refine an.x8 (Y:=Value) (d:=fun p=>.c (.v p)) (κ:=fun p=>{ x:Nat × Value // p=pt x.1 }) (N:=fun p x=>mB p (Bc.oL n) x) (fun p x=>mB.fl x) (Z:=Nat × Value) (fun z=>⟨pt z.1,⟨z,rfl⟩⟩) ?_;unfold Bc.oL mB;obtain ⟨m,hm⟩:∃ m:Nat,max 0 (min n 4096)=(m:Int):=⟨(max 0 (min n 4096)).toNat,by omega⟩
 have m4:m≤4096:=by omega
 rw [hm,Int.toNat_natCast];have m1:(if 4096 < n then 4096 else n)=min n 4096:=by omega
 have m2:(if min n 4096 > 0 then min n 4096 else 0)=(m:Int):=by omega
 unfold LB;rw [List.map_replicate];refine an.intro Tryz.func44 rfl rfl rfl (fun ok e=>?_)
 repeat (first | (refine K.bi ?_;first | refine jq rfl rfl rfl (Qt.min rfl rfl m1) ?_ | refine jq rfl rfl rfl (Qt.max rfl rfl m2) ?_) | (refine K.make ?_;refine JO.ld (Ld.make m (qb rfl) rfl rfl rfl (by omega)) rfl (fun _=>?_)) | refine ay ?_ | intro _)
 rename_i v b
 (exact J.bN Tryz.func44 rfl (.cons (.tmp rfl) .nil) (b,.slice (some ⟨v,0,none⟩) m m) (by exact .refl) rfl)
end Fl
namespace Rn
def gq (ps:List Int) (f c:Nat):List Int:=(List.range c).map fun i=>ps.getD ((f + i) % ps.length) 0
theorem OB (ps:List Int) (f c:Nat):(gq ps f c).length=c:=by simp [gq]
theorem Ib (N f i c:Nat) (hi:i < c) (hc:c < N):(f + i) % N≠(f + c) % N:=by
 intro h;have h1:=Nat.div_add_mod (f + i) N;have h2:=Nat.div_add_mod (f + c) N;rw [h] at h1;have h3:N * ((f + c) / N)=N * ((f + i) / N) + (c - i):=by omega
 have h4:(f + c) / N=(f + i) / N∨(f + i) / N + 1≤(f + c) / N:=by
  rcases Nat.lt_or_ge ((f + i) / N) ((f + c) / N) with h | h
  ·right;omega
  ·left
   have:=Nat.div_le_div_right (c:=N) (show f + i≤f + c by omega);omega
 rcases h4 with h4 | h4
 ·rw [h4] at h3;omega
 ·have:=Nat.mul_le_mul_left N h4;rw [Nat.mul_add] at this;omega
theorem getD_set_ne (l:List Int) (i j:Nat) (v:Int) (h:i≠j):(l.set i v).getD j 0=l.getD j 0:=by
 simp [List.getD,h]
theorem OD (l:List Int) (i:Nat) (v:Int) (h:i < l.length):(l.set i v).getD i 0=v:=by
 simp [List.getD,h]
theorem put (ps:List Int) (f c:Nat) (v:Int) (h:c < ps.length):gq (ps.set ((f + c) % ps.length) v) f (c + 1)=gq ps f c ++ [v]:=by
 have hp:0 < ps.length:=by omega
 unfold gq;rw [List.range_succ,List.map_append]
 congr 1
 ·apply List.map_congr_left;intro i hi;have uU:i < c:=by simpa using hi
  rw [List.length_set,getD_set_ne _ _ _ _ (fun e=>Ib ps.length f i c uU h e.symm)]
 ·simp only [List.map_cons,List.map_nil,List.length_set];rw [OD _ _ _ (Nat.mod_lt _ hp)]
theorem get (ps:List Int) (f c:Nat) (h:0 < c):gq ps ((f + 1) % ps.length) (c - 1)=(gq ps f c).tail:=by
 apply List.ext_getElem
 ·simp [gq]
 ·intro i h1 h2;simp only [gq,List.getElem_map,List.getElem_range,List.getElem_tail]
  congr 1
  rw [show f + (i + 1)=(f + 1) + i by omega,Nat.add_mod,Nat.mod_mod,← Nat.add_mod]
theorem OE (ps qs:List Int) (f c:Nat) (hl:ps.length=qs.length) (h:∀ i,i < c→ps.getD ((f + i) % ps.length) 0=qs.getD ((f + i) % ps.length) 0):gq ps f c=gq qs f c:=by
 unfold gq;apply List.map_congr_left;intro i hi;rw [h i (by simpa using hi),hl]
theorem pass (ps:List Int) (f:Nat) (v:Int) (h:0 < ps.length) (hf:f < ps.length):gq (ps.set f v) ((f + 1) % ps.length) ps.length=(gq ps f ps.length).tail ++ [v]:=by
 have e1:gq (ps.set f v) ((f + 1) % ps.length) ps.length=gq ((ps.set f v).set (((f + 1) % ps.length + (ps.length - 1)) % ps.length) v) ((f + 1) % ps.length) (ps.length - 1 + 1):=by
  have hq:((f + 1) % ps.length + (ps.length - 1)) % ps.length=f:=by
   rw [Nat.add_mod,Nat.mod_mod,← Nat.add_mod,show f + 1 + (ps.length - 1)=f + ps.length by omega,Nat.add_mod_right,Nat.mod_eq_of_lt hf]
  rw [hq,List.set_set,show ps.length - 1 + 1=ps.length by omega]
 have hl:(ps.set f v).length=ps.length:=by simp
 have e2:=put (ps.set f v) ((f + 1) % ps.length) (ps.length - 1) v (by rw [hl];omega);rw [hl] at e2;rw [e1,e2]
 congr 1
 have e3:=get ps f ps.length h;rw [← e3];apply OE
 ·simp
 ·intro i hi;rw [hl];apply getD_set_ne;intro e;have:(f + 1 + i) % ps.length=f % ps.length:=by
   rw [Nat.mod_eq_of_lt hf];rw [Nat.add_mod,Nat.mod_mod,← Nat.add_mod] at e;exact e.symm
  have h2:=Ib ps.length f 0 (i + 1) (by omega) (by omega);apply h2;rw [Nat.add_zero,← this,show f + (i + 1)=f + 1 + i by omega]
theorem start (l:List Int) (N:Nat) (h:l.length≤N):gq (l ++ List.replicate (N - l.length) 0) 0 l.length=l:=by
 apply List.ext_getElem
 ·simp [gq]
 ·intro i h1 h2;simp only [gq,List.getElem_map,List.getElem_range,List.length_append,List.length_replicate];rw [Nat.zero_add,Nat.mod_eq_of_lt (by omega)];rw [List.getD_eq_getElem?_getD,List.getElem?_append_left h2];simp [h2]
theorem head (ps:List Int) (f c:Nat) (h:0 < c) (hf:f < ps.length):(gq ps f c).headD 0=ps.getD f 0:=by
 obtain ⟨k,rfl⟩:∃ k,c=k + 1:=⟨c - 1,by omega⟩
 unfold gq;rw [List.range_succ_eq_map];simp [Nat.mod_eq_of_lt hf]
def hd (l:List Int):Int:=l.headD 0
def nR (N:Nat) (l:List Int):Bool:=decide (l.length=N) && !l.isEmpty
def yy (N:Nat) (l:List Int):Int:=if nR N l then hd l else 0
def yz (N:Nat) (l:List Int) (v:Int):List Int:=if nR N l then l.tail ++ [v] else l
def yA (N:Nat) (l:List Int) (v:Int):List Int:=if l.length < N then l ++ [v] else l
end Rn
open Go.RowKit
namespace Fl
open Sx
set_option maxRecDepth 100000
abbrev LR (b:Nat) (v:Value) (ps:List Int) (f c:Nat):List aj:=[.box b 148 [.v v,nI f,nI c],.row v 2 1 (aF ps)]
structure vO (N:Nat) (l ps:List Int) (f:Nat):Prop where
 pl:ps.length=N
 ja:N≤64
 lv:l=Rn.gq ps f l.length
 ll:l.length≤N
 fN:f < N∨(N=0∧f=0)
def mR (p:Value) (N:Nat) (l:List Int) (x:{ x:Nat × Value × List Int × Nat // p=pt x.1∧vO N l x.2.2.1 x.2.2.2 }):List aj:=LR x.1.1 x.1.2.1 x.1.2.2.1 x.1.2.2.2 l.length
theorem mR.fl {p:Value} {N:Nat} {l:List Int} (x:{ x:Nat × Value × List Int × Nat // p=pt x.1∧vO N l x.2.2.1 x.2.2.2 }):(mR p N l x).all mX=true:=by
 unfold mR LR;simp only [List.all_cons,List.all_nil,mX,Ar];rfl
def Rg (w:World) (p:Value) (N:Nat) (l:List Int) (S:List Nat):Prop:=dP (mR p N l) w S
theorem Rg.iO {w w':World} {p:Value} {N:Nat} {l:List Int} {S T:List Nat} (h:Rg w p N l S) (k:aP T w w') (hn:∀ x∈S,x∉T):Rg w' p N l S:=dP.ok.iO h k hn
theorem Rg.lt {w:World} {p:Value} {N:Nat} {l:List Int} {S:List Nat} (h:Rg w p N l S):∀ x∈S,x < w.heap.size:=dP.ok.lt h
theorem rg_of {F:FuncId} {ds:List D} {p:Value} {N:Nat} {l l':List Int} {d:D} {S:List Nat} (h:∀ b v ps f,p=pt b→vO N l ps f→∃ AG f',vO N l' AG f'∧an Tryz.prog F ds (LR b v ps f l.length) (fun _:Unit=>(d,LR b v AG f' l'.length))) :
  an Tryz.prog F ds [aM (dP (mR p N l)) S] (fun _:Unit=>(d,[aM (dP (mR p N l')) S])) :=
 an.vz mR.fl fun x=>by
  obtain ⟨⟨b,v,ps,f⟩,e,h1⟩:=x;obtain ⟨AG,f',h2,h3⟩:=h b v ps f e h1;exact ⟨Unit,fun _=>⟨(b,v,AG,f'),e,h2⟩,fun _=>rfl,h3⟩
theorem OF (p:Value) (N:Nat) (l:List Int) (S:List Nat):an Tryz.prog 59 [.c (.v p)] [aM (dP (mR p N l)) S] (fun _:Unit=>(.c (nI N),[aM (dP (mR p N l)) S])):=by
 refine rg_of fun b v ps f e R=>⟨ps,f,R,?_⟩
 subst e;rw [show N=(aF ps).length by rw [c7,R.pl]];refine an.intro Tryz.func59 rfl rfl rfl (fun ok e=>?_)
 repeat (refine gn ?_)
 (exact J.bN Tryz.func59 rfl (.cons (.tmp rfl) .nil) () (by exact .refl) rfl)
theorem Ic (b:Nat) (v:Value) (ps:List Int) (f c:Nat):an Tryz.prog 243 [.c (.v (pt b))] (LR b v ps f c) (fun _:Unit=>(.c (bI (decide (c=ps.length))),LR b v ps f c)):=by
 have t1:((c:Int) == ((aF ps).length:Int))=decide (c=ps.length):=by
  rw [c7]
  by_cases h:c=ps.length
  ·rw [h,decide_eq_true rfl];simp
  ·rw [decide_eq_false h];exact beq_eq_false_iff_ne.2 (by omega)
 refine an.intro Tryz.func243 rfl rfl rfl (fun ok e=>?_)
 repeat (refine gn ?_)
 refine J.draw (by kernel_rfl) rfl ?_;refine JW.base none ?_;refine tk 0 ?_;refine tk 1 ?_;refine tk 2 ?_;refine tk 3 ?_;refine tk 4 ?_;refine tk 5 ?_;refine tk 6 ?_;refine tk 7 ?_;refine tk 8 ?_;refine JD.take 9 rfl rfl (by kernel_rfl) rfl (qb rfl) (Qt.cmp rfl rfl (congrArg some t1)) rfl ?_;refine tk 10 ?_;refine bE ?_
 (exact J.bN Tryz.func243 rfl (.cons (.tmp rfl) .nil) () (by exact .refl) rfl)
theorem AI (b:Nat) (v:Value) (ps:List Int) (f c i:Nat) (h:0 < ps.length) (hb:f + i≤1000):an Tryz.prog 111 [.c (.v (pt b)),.c (nI i)] (LR b v ps f c) (fun _:Unit=>(.c (nI ((f + i) % ps.length:Nat)),LR b v ps f c)):=by
 have w1:IntKind.i64.wrap ((f:Int) + (i:Int))=((f + i:Nat):Int):=by rw [dJ (by omega) (by omega)];omega
 refine an.intro Tryz.func111 rfl rfl rfl (fun ok e=>?_);have r1:((f + i:Nat):Int).tmod ((aF ps).length:Int)=(((f + i) % ps.length:Nat):Int):=by rw [c7];rfl
 have n0:((aF ps).length:Int)≠0:=by rw [c7];omega
 repeat (refine gn ?_)
 refine J.draw (by kernel_rfl) rfl ?_;refine JW.base none ?_;refine tk 0 ?_;refine tk 1 ?_;refine tk 2 ?_;refine tk 3 ?_;refine tk 4 ?_;refine JD.take 5 rfl rfl (by kernel_rfl) rfl (qb rfl) (Qt.cJ rfl rfl rfl w1) rfl ?_;refine tk 6 ?_;refine tk 7 ?_;refine tk 8 ?_;refine tk 9 ?_;refine tk 10 ?_;refine JD.take 11 rfl rfl (by kernel_rfl) rfl (qb rfl) (Qt.rem rfl rfl n0 r1) rfl ?_;refine tk 12 ?_;refine bE ?_
 (exact J.bN Tryz.func111 rfl (.cons (.tmp rfl) .nil) () (by exact .refl) rfl)
theorem OG (p:Value) (N:Nat) (l:List Int) (S:List Nat) (v:Int):an Tryz.prog 197 [.c (.v p),.c (nI v)] [aM (dP (mR p N l)) S] (fun _:Unit=>(.c (bI (decide (l.length < N))),[aM (dP (mR p N (Rn.yA N l v))) S])):=by
 refine rg_of fun b z ps f e R=>?_
 subst e;have CF:=Ic b z ps f l.length;obtain ⟨pl,ja,lv,ll,fN⟩:=R;subst pl;unfold Rn.yA
 by_cases h:l.length < ps.length
 ·rw [if_pos h,decide_eq_true h];rw [decide_eq_false (by omega)] at CF;refine ⟨ps.set ((f + l.length) % ps.length) v,f,⟨by simp,ja,?_,by simp;omega,fN⟩,?_⟩
  ·rw [List.length_append,List.length_singleton,Rn.put ps f l.length v h,← lv]
  have CA:=AI b z ps f l.length l.length (by omega) (by omega);have hm:=Nat.mod_lt (f + l.length) (show 0 < ps.length by omega);have i0:=Int.natCast_nonneg ((f + l.length) % ps.length);have i1:(((f + l.length) % ps.length:Nat):Int) < ((aF ps).length:Int):=by rw [c7];omega
  have A:=rj (l:=ps) i0 (by omega);unfold LR;rw [List.length_append,List.length_singleton,← yb];rw [show nI ((l.length + 1:Nat):Int)=nI ((l.length:Int) + 1) from rfl];refine an.intro Tryz.func197 rfl rfl rfl (fun ok e=>?_)
  repeat (first | (refine K.call ?_;refine JO.ld (Ld.fj (CF) (qb rfl) rfl (aJ.cons .refl .nil)) rfl ?_;intro _) | refine gn ?_)
  refine J.draw (by kernel_rfl) rfl ?_;refine JW.ya (some 12) ?_;refine tk 0 ?_;refine tk 1 ?_;refine tk 2 ?_;refine tk 4 ?_;refine tk 5 ?_;refine tk 6 ?_;refine tk 7 ?_;refine tk 10 ?_;refine JD.cU (i:=3) (j:=8) (by kernel_rfl) ?_ ?_
  (refine JS.q rfl rfl rfl (qb rfl) (Qt.hJ rfl (by exact rfl)) ?_)
  refine jk 8 rfl rfl rfl rfl (Qt.hJ rfl (by exact rfl)) ?_;refine JD.gU (i:=9) (by kernel_rfl) ?_;refine JS.kA rfl rfl rfl (qb rfl) (Ld.fj CA (qb rfl) rfl (.cons .refl (.cons .refl .nil))) (iA.bu) (fun _=>?_);refine jk 11 rfl rfl rfl rfl (Qt.aI rfl rfl i0 i1) ?_;refine jt 12 rfl rfl (Ld.bL rfl rfl (by exact rfl) A) (fun _=>?_);refine bR ?_
  rotate_left
  (refine JS.q rfl rfl rfl (qb rfl) (Qt.hJ rfl (by exact rfl)) ?_)
  refine JD.cU (i:=3) (j:=9) (by kernel_rfl) ?_ ?_
  (refine JS.q rfl rfl rfl (qb rfl) (Qt.hJ rfl (by exact rfl)) ?_)
  refine JD.gU (i:=9) (by kernel_rfl) ?_;refine JS.kA rfl rfl rfl (qb rfl) (Ld.fj CA (qb rfl) rfl (.cons .refl (.cons .refl .nil))) (iA.bu) (fun _=>?_);refine jk 11 rfl rfl rfl rfl (Qt.aI rfl rfl i0 i1) ?_;refine jt 12 rfl rfl (Ld.bL rfl rfl (by exact rfl) A) (fun _=>?_);refine bR ?_
  rotate_left
  refine JS.kA rfl rfl rfl (qb rfl) (Ld.fj CA (qb rfl) rfl (.cons .refl (.cons .refl .nil))) (iA.bu) (fun _=>?_);refine jk 3 rfl rfl rfl rfl (Qt.hJ rfl (by exact rfl)) ?_;refine jk 11 rfl rfl rfl rfl (Qt.aI rfl rfl i0 i1) ?_;refine jt 12 rfl rfl (Ld.bL rfl rfl (by exact rfl) A) (fun _=>?_);refine bR ?_
  rotate_left
  all_goals
   repeat (refine gn ?_)
   (exact J.bN Tryz.func197 rfl (.cons (.tmp rfl) .nil) () (by exact .refl) rfl)
 ·rw [if_neg h,decide_eq_false h];rw [decide_eq_true (by omega)] at CF;refine ⟨ps,f,⟨rfl,ja,lv,ll,fN⟩,?_⟩;refine an.intro Tryz.func197 rfl rfl rfl (fun ok e=>?_)
  repeat (first | (refine K.call ?_;refine JO.ld (Ld.fj (CF) (qb rfl) rfl (aJ.cons .refl .nil)) rfl ?_;intro _) | refine gn ?_)
  (exact J.bN Tryz.func197 rfl (.cons (.tmp rfl) .nil) () (by exact .refl) rfl)
theorem OH (p:Value) (N:Nat) (l:List Int) (S:List Nat):an Tryz.prog 196 [.c (.v p)] [aM (dP (mR p N l)) S] (fun _:Unit=>(.bp [.c (nI (Rn.hd l)),.c (bI (!l.isEmpty))],[aM (dP (mR p N l.tail)) S])):=by
 refine rg_of fun b z ps f e R=>?_
 subst e;obtain ⟨pl,ja,lv,ll,fN⟩:=R;subst pl
 by_cases h:l=[]
 ·subst h;refine ⟨ps,f,⟨rfl,ja,rfl,by simp,fN⟩,?_⟩;refine an.intro Tryz.func196 rfl rfl rfl (fun ok e=>?_)
  repeat (refine gn ?_)
  (exact J.bN Tryz.func196 rfl (.cons (.tmp rfl) (.cons (.tmp rfl) .nil)) () (by exact .refl) rfl)
 ·have hl:0 < l.length:=List.length_pos_iff.2 h;have hf:f < ps.length:=by omega
  have eh:Rn.hd l=ps.getD f 0:=by unfold Rn.hd;rw [lv];exact Rn.head ps f l.length hl hf
  have et:l.tail=Rn.gq ps ((f + 1) % ps.length) l.tail.length:=by rw [List.length_tail,Rn.get ps f l.length hl,← lv]
  have el:l.isEmpty=false:=by cases l with | nil=>exact absurd rfl h | cons a r=>rfl
  have hm:=Nat.mod_lt (f + 1) (show 0 < ps.length by omega);refine ⟨ps,(f + 1) % ps.length,⟨rfl,ja,et,by rw [List.length_tail];omega,.inl hm⟩,?_⟩;rw [eh,el];have CA:=AI b z ps f l.length 1 (by omega) (by omega);have t1:((l.length:Int) == 0)=false:=beq_eq_false_iff_ne.2 (by omega);have f0:=Int.natCast_nonneg f;have f1:(f:Int) < ((aF ps).length:Int):=by rw [c7];omega
  have A:=rj (l:=ps) f0 (by omega);rw [Int.toNat_natCast] at A;have hb:(l.length:Int)≤64:=by omega
  unfold LR;rw [show (l.tail.length:Int)=(l.length:Int) - 1 by rw [List.length_tail];omega];refine an.intro Tryz.func196 rfl rfl rfl (fun ok e=>?_)
  repeat (refine gn ?_)
  refine J.draw (by kernel_rfl) rfl ?_;refine JW.base none ?_;refine tk 0 ?_;refine tk 1 ?_;refine tk 2 ?_;refine tk 3 ?_;refine tk 4 ?_;refine tk 5 ?_;refine tk 6 ?_;refine tk 7 ?_;refine JD.take 8 rfl rfl (by kernel_rfl) rfl (qb rfl) (Qt.aI rfl rfl f0 f1) rfl ?_;refine JD.take 9 rfl rfl (by kernel_rfl) rfl (qb rfl) (Qt.aL rfl A rfl) rfl ?_;refine tk 10 ?_;refine bE ?_
  repeat (first | (refine K.call ?_;refine JO.ld (Ld.fj (CA) (qb rfl) rfl (by (exact aJ.cons .refl (.cons .refl .nil)))) rfl ?_;intro _) | refine gn ?_)
  (exact J.bN Tryz.func196 rfl (.cons (.tmp rfl) (.cons (.tmp rfl) .nil)) () (by exact .refl) rfl)
theorem OI (p:Value) (N:Nat) (l:List Int) (S:List Nat) (v:Int):an Tryz.prog 195 [.c (.v p),.c (nI v)] [aM (dP (mR p N l)) S] (fun _:Unit=>(.bp [.c (nI (Rn.yy N l)),.c (bI (Rn.nR N l))],[aM (dP (mR p N (Rn.yz N l v))) S])):=by
 refine rg_of fun b z ps f e R=>?_
 subst e;have CF:=Ic b z ps f l.length;obtain ⟨pl,ja,lv,ll,fN⟩:=R;subst pl;unfold Rn.yy Rn.yz
 by_cases h:l=[]
 ·have ek:Rn.nR ps.length l=false:=by unfold Rn.nR;subst h;simp
  rw [ek];refine ⟨ps,f,⟨rfl,ja,lv,ll,fN⟩,?_⟩;subst h;refine an.intro Tryz.func195 rfl rfl rfl (fun ok e=>?_)
  repeat (refine gn ?_)
  (exact J.bN Tryz.func195 rfl (.cons (.tmp rfl) (.cons (.tmp rfl) .nil)) () (by exact .refl) rfl)
 have el:l.isEmpty=false:=by cases l with | nil=>exact absurd rfl h | cons a r=>rfl
 have hl:0 < l.length:=List.length_pos_iff.2 h;have t1:((l.length:Int) == 0)=false:=beq_eq_false_iff_ne.2 (by omega)
 by_cases hN:l.length=ps.length
 ·have ek:Rn.nR ps.length l=true:=by unfold Rn.nR;rw [el,decide_eq_true hN];rfl
  rw [decide_eq_true hN] at CF;rw [ek,if_pos rfl,if_pos rfl];have hf:f < ps.length:=by omega
  have eh:Rn.hd l=ps.getD f 0:=by unfold Rn.hd;rw [lv];exact Rn.head ps f l.length hl hf
  have hm:=Nat.mod_lt (f + 1) (show 0 < ps.length by omega);have et:l.tail ++ [v]=Rn.gq (ps.set f v) ((f + 1) % ps.length) (l.tail ++ [v]).length:=by
   rw [List.length_append,List.length_tail,List.length_singleton,show l.length - 1 + 1=ps.length by omega,Rn.pass ps f v (by omega) hf,← hN,← lv]
  refine ⟨ps.set f v,(f + 1) % ps.length,⟨by simp,ja,et,by rw [List.length_append,List.length_tail,List.length_singleton];omega,.inl hm⟩,?_⟩;have CA:=AI b z (ps.set f v) f l.length 1 (by rw [List.length_set];omega) (by omega);rw [List.length_set] at CA;have f0:=Int.natCast_nonneg f;have f1:(f:Int) < ((aF ps).length:Int):=by rw [c7];omega
  have A:=rj (l:=ps) f0 (by omega);rw [Int.toNat_natCast] at A;rw [eh,show (l.tail ++ [v]).length=l.length by rw [List.length_append,List.length_tail,List.length_singleton];omega];unfold LR at CA ⊢;rw [← yb] at CA ⊢;refine an.intro Tryz.func195 rfl rfl rfl (fun ok e=>?_)
  repeat (first | (refine K.call ?_;refine JO.ld (Ld.fj (CF) (qb rfl) rfl (aJ.cons .refl .nil)) rfl ?_;intro _) | refine gn ?_)
  refine J.draw (by kernel_rfl) rfl ?_;refine JW.base none ?_;refine tk 0 ?_;refine tk 1 ?_;refine tk 2 ?_;refine tk 3 ?_;refine tk 4 ?_;refine tk 5 ?_;refine tk 6 ?_;refine tk 7 ?_;refine JD.take 8 rfl rfl (by kernel_rfl) rfl (qb rfl) (Qt.aI rfl rfl f0 f1) rfl ?_;refine JD.take 9 rfl rfl (by kernel_rfl) rfl (qb rfl) (Qt.aL rfl A rfl) rfl ?_;refine tk 10 ?_;refine bE ?_
  repeat ((refine J.seq ?_))
  refine J.draw (by kernel_rfl) rfl ?_;refine JW.base (some 10) ?_;refine tk 0 ?_;refine tk 1 ?_;refine tk 2 ?_;refine tk 3 ?_;refine tk 4 ?_;refine tk 5 ?_;refine tk 6 ?_;refine tk 7 ?_;refine tk 8 ?_;refine JD.take 9 rfl rfl (by kernel_rfl) rfl (qb rfl) (Qt.aI rfl rfl f0 f1) rfl ?_;refine jt 10 rfl rfl (Ld.bL rfl rfl (by exact rfl) A) (fun _=>?_);refine bR ?_
  repeat (first | (refine K.call ?_;refine JO.ld (Ld.fj (CA) (qb rfl) rfl (by (exact aJ.cons .refl (.cons .refl .nil)))) rfl ?_;intro _) | refine gn ?_)
  (exact J.bN Tryz.func195 rfl (.cons (.tmp rfl) (.cons (.tmp rfl) .nil)) () (by exact .refl) rfl)
 ·have ek:Rn.nR ps.length l=false:=by unfold Rn.nR;rw [decide_eq_false hN];rfl
  rw [decide_eq_false hN] at CF;rw [ek];refine ⟨ps,f,⟨rfl,ja,lv,ll,fN⟩,?_⟩;refine an.intro Tryz.func195 rfl rfl rfl (fun ok e=>?_)
  repeat (first | (refine K.call ?_;refine JO.ld (Ld.fj (CF) (qb rfl) rfl (aJ.cons .refl .nil)) rfl ?_;intro _) | refine gn ?_)
  (exact J.bN Tryz.func195 rfl (.cons (.tmp rfl) (.cons (.tmp rfl) .nil)) () (by exact .refl) rfl)
theorem OJ (ps:List Int) (f i:Nat):Rn.gq ps f (i + 1)=Rn.gq ps f i ++ [ps.getD ((f + i) % ps.length) 0]:=by
 unfold Rn.gq;rw [List.range_succ,List.map_append];rfl
theorem OL (p:Value) (N:Nat) (l:List Int) (S:List Nat):an Tryz.prog 60 [.c (.v p)] [aM (dP (mR p N l)) S] (fun _:Unit=>(.c (ints l),[aM (dP (mR p N l)) S])):=by
 refine rg_of fun b z ps f e R=>⟨ps,f,R,?_⟩
 subst e;obtain ⟨pl,ja,lv,ll,fN⟩:=R;subst pl;generalize l.length=c at lv ll ⊢;subst lv;refine an.intro Tryz.func60 rfl rfl rfl (fun ok e=>?_)
 repeat (first | (refine K.make ?_;refine JO.ld (Ld.Dv (c) (qb rfl) rfl rfl (by (rfl)) (by omega)) rfl (fun _=>?_)) | refine gn ?_)
 refine J.loop (ι:={ q:Nat × Value // q.1≤c }) (fun q=>[(14,.c (nI q.1.1)),(13,.c (nI c)),(3,.c (.v q.1.2)),(0,.c (.v (pt b)))]) (fun q=>.row q.1.2 2 1 (aF (Rn.gq ps f q.1.1)) :: LR b z ps f c) (fun q=>c - q.1.1) ⟨(0,_),Nat.zero_le _⟩ (fun X h=>h.aW ⟨rfl,rfl,rfl,rfl,trivial⟩) (fun q ih=>?_);obtain ⟨⟨i,y⟩,hi⟩:=q;simp only at hi ih ⊢
 by_cases dM:i < c
 ·have t1:decide ((i:Int) < (c:Int))=true:=decide_eq_true (by omega);have CA:=AI b z ps f c i (by omega) (by omega);have hm:=Nat.mod_lt (f + i) (show 0 < ps.length by omega);have i0:=Int.natCast_nonneg ((f + i) % ps.length);have i1:(((f + i) % ps.length:Nat):Int) < ((aF ps).length:Int):=by rw [c7];omega
  have A:=rj (l:=ps) i0 (by omega);rw [Int.toNat_natCast] at A;have hlen:(aF (Rn.gq ps f i)).length=i:=by rw [c7,Rn.OB]
  repeat (refine gn ?_)
  refine J.draw (by kernel_rfl) rfl ?_;refine JW.ya none ?_;refine tk 0 ?_;refine tk 1 ?_;refine tk 2 ?_;refine tk 3 ?_;refine tk 5 ?_;refine tk 6 ?_;refine JD.cU (i:=4) (j:=7) (by kernel_rfl) ?_ ?_
  (refine JS.q rfl rfl rfl (qb rfl) (Qt.hJ rfl (by exact rfl)) ?_)
  refine JD.gU (i:=7) (by kernel_rfl) ?_;refine JS.kA rfl rfl rfl (qb rfl) (Ld.aY CA (qb rfl) rfl (.cons .refl (.cons .refl .nil))) (iA.bu) (fun _=>?_);refine jk 8 rfl rfl rfl rfl (Qt.aI rfl rfl i0 i1) ?_;refine jk 9 rfl rfl rfl rfl (Qt.aL rfl A rfl) ?_;refine JD.gU (i:=10) (by kernel_rfl) ?_;refine JS.kA rfl rfl rfl (qb rfl) (Ld.jS (qb rfl) rfl rfl rfl rfl rfl) (iA.nil) (fun _=>?_);refine JD.gU (i:=11) (by kernel_rfl) ?_;refine JS.kA rfl rfl rfl (qb rfl) (Ld.cy (qb rfl) rfl rfl .read (by (simp;omega))) (iA.row) (fun _=>?_);refine jk 12 rfl rfl rfl rfl (Qt.assign rfl) ?_;refine bE ?_
  rotate_left
  refine JS.kA rfl rfl rfl (qb rfl) (Ld.aY CA (qb rfl) rfl (.cons .refl (.cons .refl .nil))) (iA.bu) (fun _=>?_);refine jk 4 rfl rfl rfl rfl (Qt.hJ rfl (by exact rfl)) ?_;refine jk 8 rfl rfl rfl rfl (Qt.aI rfl rfl i0 i1) ?_;refine jk 9 rfl rfl rfl rfl (Qt.aL rfl A rfl) ?_;refine JD.gU (i:=10) (by kernel_rfl) ?_;refine JS.kA rfl rfl rfl (qb rfl) (Ld.jS (qb rfl) rfl rfl rfl rfl rfl) (iA.nil) (fun _=>?_);refine JD.gU (i:=11) (by kernel_rfl) ?_;refine JS.kA rfl rfl rfl (qb rfl) (Ld.cy (qb rfl) rfl rfl .read (by (simp;omega))) (iA.row) (fun _=>?_);refine jk 12 rfl rfl rfl rfl (Qt.assign rfl) ?_;refine bE ?_
  rotate_left
  all_goals
   repeat (refine gn ?_)
   refine J.dN ?_ ((ih ⟨(i + 1,_),by simp only;omega⟩ (by simp only;omega)).aW ⟨rfl,rfl,rfl,rfl,trivial⟩);rw [OJ];unfold aF;rw [List.map_append];rfl
 ·obtain rfl:i=c:=by omega
  have t1:decide ((i:Int) < (i:Int))=false:=decide_eq_false (by omega)
  repeat (refine gn ?_)
  refine J.ji 2 rfl ?_
  (exact J.bN Tryz.func60 rfl (.cons (.tmp rfl) .nil) () (by exact .refl) rfl)
theorem OM (room:Int) (l:List Int) (h:0≤room∧room≤64∧(l.length:Int)≤room):an Tryz.prog 107 [.c (nI room),.c (ints l)] [] (fun x:Value × List Nat=>(.bp [.c (.v x.1),.c (nI 0)],[aM (dP (mR x.1 room.toNat l)) x.2])):=by
 obtain ⟨h0,h1,h2⟩:=h;obtain ⟨N,rfl⟩:=Int.eq_ofNat_of_zero_le h0;rw [Int.toNat_natCast];have hN:l.length≤N:=by omega
 have OK:vO N l (l ++ List.replicate (N - l.length) 0) 0:=⟨by simp;omega,by omega,(Rn.start l N hN).symm,hN,by omega⟩
 refine an.x8 (Y:=Value) (d:=fun p=>.bp [.c (.v p),.c (nI 0)]) (κ:=fun p=>{ x:Nat × Value × List Int × Nat // p=pt x.1∧vO N l x.2.2.1 x.2.2.2 }) (N:=fun p x=>mR p N l x) (fun p x=>mR.fl x) (Z:=Nat × Value) (fun z=>⟨pt z.1,⟨(z.1,z.2,l ++ List.replicate (N - l.length) 0,0),rfl,OK⟩⟩) ?_;unfold mR;dsimp only;unfold LR;have t1:decide ((N:Int) < 0)=false:=decide_eq_false (by omega);have t2:decide ((N:Int) > 64)=false:=decide_eq_false (by omega);have t3:decide ((l.length:Int) > (N:Int))=false:=decide_eq_false (by omega);have eF:aF (l ++ List.replicate (N - l.length) 0)=aF l ++ (List.replicate N (vs [Value.int .i64 0])).drop (aF l).length:=by
  rw [c7,List.drop_replicate];unfold aF;rw [List.map_append,List.map_replicate];rfl
 rw [eF];refine an.intro Tryz.func107 rfl rfl rfl (fun ok e=>?_)
 repeat (first | (refine K.bi ?_;refine JO.ld (Ld.NU (qb rfl) rfl rfl (by rw [List.length_replicate];exact (c7 l).symm ▸ hN)) rfl (fun _=>?_)) | (refine K.make ?_;refine JO.ld (Ld.make (N) (qb rfl) rfl rfl (by (rfl)) (by omega)) rfl (fun _=>?_)) | refine ay ?_ | intro _)
 rename_i v b _
 (exact J.bN Tryz.func107 rfl (.cons (.tmp rfl) (.cons (.tmp rfl) .nil)) (b,.slice (some ⟨v,0,none⟩) N N) (by exact .refl) rfl)
def tR (l:List (Value × Nat × List Int)) (w:World) (S:List Nat):Prop :=
 ∃ Ss:List (List Nat),Ss.length=l.length∧S=Ss.flatten∧Ss.Pairwise (fun A B=>∀ x∈A,x∉B)∧∀ (i:Nat) x Si,l[i]?=some x→Ss[i]?=some Si→Rg w x.1 x.2.1 x.2.2 Si
theorem p6 {Ss:List (List Nat)} {i:Nat} {Si:List Nat} (h:Ss[i]?=some Si) {x:Nat} (hx:x∈Si):x∈Ss.flatten:=List.mem_flatten.2 ⟨Si,List.mem_of_getElem? h,hx⟩
theorem tR.ok {l:List (Value × Nat × List Int)}:vw (tR l):=by
 refine ⟨?_,?_⟩
 ·rintro w w' S T ⟨Ss,h1,rfl,h3,h4⟩ k hn
  exact ⟨Ss,h1,rfl,h3,fun i x Si hi hs=>(h4 i x Si hi hs).iO k fun y hy=>hn y (p6 hs hy)⟩
 ·rintro w S ⟨Ss,h1,rfl,h3,h4⟩ x hx
  obtain ⟨Si,hs,hx⟩:=List.mem_flatten.1 hx;obtain ⟨i,hi⟩:=List.getElem?_of_mem hs;have hl:i < l.length:=by rw [← h1];exact (List.getElem?_eq_some_iff.1 hi).1
  exact (h4 i _ Si (List.getElem?_eq_getElem hl) hi).lt x hx
theorem ON {Ss:List (List Nat)} (h:Ss.Pairwise (fun A B=>∀ x∈A,x∉B)) {i j:Nat} {A B:List Nat} (hi:Ss[i]?=some A) (hj:Ss[j]?=some B) (bV:i≠j):∀ x∈B,x∉A:=by
 intro x hx hy;obtain ⟨eJ,dM⟩:=List.getElem?_eq_some_iff.1 hi;obtain ⟨w7,ff⟩:=List.getElem?_eq_some_iff.1 hj;rcases Nat.lt_or_gt_of_ne bV with c | c
 ·have:=List.pairwise_iff_getElem.1 h i j eJ w7 c x (dM ▸ hy);exact this (ff ▸ hx)
 ·have:=List.pairwise_iff_getElem.1 h j i w7 eJ c x (ff ▸ hx);exact this (dM ▸ hy)
theorem tR.at_ {l:List (Value × Nat × List Int)} {w:World} {S:List Nat} (h:tR l w S) {i:Nat} {p:Value} {N:Nat} {b:List Int} (hi:l[i]?=some (p,N,b)) :
  ∃ Si,Rg w p N b Si∧(∀ x∈Si,x∈S)∧∀ w' b',aP Si w w'→Rg w' p N b' Si→tR (l.set i (p,N,b')) w' S:=by
 obtain ⟨Ss,h1,rfl,h3,h4⟩:=h;have hl:=(List.getElem?_eq_some_iff.1 hi).1;have hs:=List.getElem?_eq_getElem (show i < Ss.length by omega);refine ⟨Ss[i]'(by omega),h4 i _ _ hi hs,fun x hx=>p6 hs hx,fun w' b' k hr=>⟨Ss,by simp [h1],rfl,h3,fun j x Sj hj AJ=>?_⟩⟩
 by_cases e:i=j
 ·subst e;rw [List.getElem?_set_self hl] at hj
  cases hj;rw [hs] at AJ;cases AJ;exact hr
 ·rw [List.getElem?_set_ne e] at hj;exact (h4 j x Sj hj AJ).iO k (ON h3 hs AJ e)
theorem AK (l:List (Value × Nat × List Int)) (S:List Nat) {i:Nat} {p:Value} {N:Nat} {b b':List Int} (hi:l[i]?=some (p,N,b)) {F:FuncId} {ds:List D} {d:D} (h:∀ S1,an Tryz.prog F ds [aM (dP (mR p N b)) S1] (fun _:Unit=>(d,[aM (dP (mR p N b')) S1]))) :
  an Tryz.prog F ds [aM (tR l) S] (fun _:Unit=>(d,[aM (tR (l.set i (p,N,b'))) S])):=⟨fun ok e xs hd hr ha hn=>by
 have h0:=(aM.holds tR.ok).1 (hr _ (List.mem_singleton.2 rfl));rw [ic] at hn;obtain ⟨Si,h1,h2,h3⟩:=h0.at_ hi;refine ((h Si).go ok e xs hd (fun r hr=>by rw [List.mem_singleton.1 hr];exact (aM.holds dP.ok).2 h1) (List.pairwise_singleton _ _) (by rw [ic];exact fun x hx=>hn x (h2 x hx))).mono ?_
 rintro en w' ⟨_,y,rfl,kp,hs,_,hh,hx⟩
 rw [ic] at kp;have k2:dP (mR p N b') w' Si:=(aM.holds dP.ok).1 (hh _ (List.mem_singleton.2 rfl));refine ⟨(),y,rfl,by rw [ic];exact kp.mono (fun x hx=>.inl (h2 x hx)),by rw [ic,ic];exact fun _ z=>.inl z,List.pairwise_singleton _ _,fun r hr=>?_,?_⟩
 ·rw [List.mem_singleton.1 hr];exact (aM.holds tR.ok).2 (h3 _ _ kp k2)
 ·refine RD.cO ⟨Nat.le_refl _,fun g hg ho=>⟨?_,rfl⟩⟩ _ _ hx;unfold gL at ho ⊢;rw [ic,ic] at ho ⊢;obtain ⟨o1,o2⟩:=ho;rcases o1 with o1 | o1 | o1
  ·exact ⟨.inl o1,fun z=>hn g z o1⟩
  ·exact absurd o1 o2
  ·exact ⟨.inr (.inr o1),fun z=>by have:=tR.ok.lt h0 g z;omega⟩⟩
theorem Ie (l:List (Value × Nat × List Int)) (S:List Nat) {i:Nat} {p:Value} {N:Nat} {b:List Int} (hi:l[i]?=some (p,N,b)) {F:FuncId} {ds:List D} {d:D} (h:∀ S1,an Tryz.prog F ds [aM (dP (mR p N b)) S1] (fun _:Unit=>(d,[aM (dP (mR p N b)) S1]))) :
  an Tryz.prog F ds [aM (tR l) S] (fun _:Unit=>(d,[aM (tR l) S])):=by
 have:=AK l S hi h;rw [show l.set i (p,N,b)=l by
  obtain ⟨h1,h2⟩:=List.getElem?_eq_some_iff.1 hi;rw [← h2];exact List.set_getElem_self h1] at this
 exact this
theorem OO (l:List (Value × Nat × List Int)) (S:List Nat) {i:Nat} {p:Value} {N:Nat} {b:List Int} (hi:l[i]?=some (p,N,b)) (v:Int):an Tryz.prog 197 [.c (.v p),.c (nI v)] [aM (tR l) S] (fun _:Unit=>(.c (bI (decide (b.length < N))),[aM (tR (l.set i (p,N,Rn.yA N b v))) S])):=AK l S hi fun S1=>OG p N b S1 v
theorem OP (l:List (Value × Nat × List Int)) (S:List Nat) {i:Nat} {p:Value} {N:Nat} {b:List Int} (hi:l[i]?=some (p,N,b)):an Tryz.prog 196 [.c (.v p)] [aM (tR l) S] (fun _:Unit=>(.bp [.c (nI (Rn.hd b)),.c (bI (!b.isEmpty))],[aM (tR (l.set i (p,N,b.tail))) S])):=AK l S hi fun S1=>OH p N b S1
theorem OQ (l:List (Value × Nat × List Int)) (S:List Nat) {i:Nat} {p:Value} {N:Nat} {b:List Int} (hi:l[i]?=some (p,N,b)) (v:Int):an Tryz.prog 195 [.c (.v p),.c (nI v)] [aM (tR l) S] (fun _:Unit=>(.bp [.c (nI (Rn.yy N b)),.c (bI (Rn.nR N b))],[aM (tR (l.set i (p,N,Rn.yz N b v))) S])):=AK l S hi fun S1=>OI p N b S1 v
theorem Ig (l:List (Value × Nat × List Int)) (S:List Nat) {i:Nat} {p:Value} {N:Nat} {b:List Int} (hi:l[i]?=some (p,N,b)):an Tryz.prog 59 [.c (.v p)] [aM (tR l) S] (fun _:Unit=>(.c (nI N),[aM (tR l) S])):=Ie l S hi fun S1=>OF p N b S1
theorem OS (l:List (Value × Nat × List Int)) (S:List Nat) {i:Nat} {p:Value} {N:Nat} {b:List Int} (hi:l[i]?=some (p,N,b)):an Tryz.prog 60 [.c (.v p)] [aM (tR l) S] (fun _:Unit=>(.c (ints b),[aM (tR l) S])):=Ie l S hi fun S1=>OL p N b S1
theorem OT (room:Int) (l:List Int) (h:0≤room∧room≤64∧(l.length:Int)≤room):an Tryz.prog 107 [.c (nI room),.c (ints l)] [] (fun x:Value × List Nat=>(.bp [.c (.v x.1),.c (nI 0)],[aM (tR [(x.1,room.toNat,l)]) x.2])):=⟨fun ok e xs hd hr ha hn=>by
 refine ((OM room l h).go ok e xs hd hr ha hn).mono ?_
 rintro en w' ⟨x,y,rfl,kp,hs,_,hh,hx⟩
 have g:dP (mR x.1 room.toNat l) w' x.2:=(aM.holds dP.ok).1 (hh _ (List.mem_singleton.2 rfl));refine ⟨x,y,rfl,kp,by rw [ic] at hs ⊢;exact hs,List.pairwise_singleton _ _,fun q hq=>?_,?_⟩
 ·rw [List.mem_singleton.1 hq];refine (aM.holds tR.ok).2 ⟨[x.2],rfl,by simp,List.pairwise_singleton _ _,fun i x' Si hi hs=>?_⟩
  cases i with
  | zero=>simp at hi hs;subst hi hs;exact g
  | succ i=>simp at hi
 ·have eq:gL ok e [] [aM (tR [(x.1,room.toNat,l)]) x.2]=gL ok e [] [aM (dP (mR x.1 room.toNat l)) x.2]:=by
   funext k;unfold gL;rw [ic,ic]
  rw [eq];exact hx⟩
end Fl
open Go.RowKit
namespace Fl
open Sx
set_option maxRecDepth 100000
theorem J.Ih {P:Program} {c:Cx} {k:List Item} {f:Fm} {L:List aj} {I:Item} {ι:Type} (f':ι→Fm) (L':ι→List aj) (rest:∀ x,J P c k (f' x) (L' x)) (h:∀ K,(∀ x,J P c K (f' x) (L' x))→J P c (I :: K) f L):J P c (I :: k) f L:=h k rest
theorem an.re {P:Program} {F:FuncId} {ds:List D} {L:List aj} {ι κ:Type} {post:κ→D × List aj} (e:ι→κ) (h:an P F ds L (fun i=>post (e i))):an P F ds L post:=⟨fun ok w xs hd hr ha hn=>(h.go ok w xs hd hr ha hn).mono fun en w' ⟨z,q⟩=>⟨e z,q⟩⟩
def oM (l:List Bool):List (List A):=l.map fun x=>[bI x]
abbrev sl (b o n cap:Nat):Value:=.slice (some ⟨b,o,none⟩) n cap
theorem yB {α:Type} {l:List α} {i:Nat} {a:α} (h:l[i]?=some a):l.set i a=l:=by
 obtain ⟨h1,h2⟩:=List.getElem?_eq_some_iff.1 h;rw [← h2];exact List.set_getElem_self h1
theorem AM (l:List Bool):(oM l).length=l.length:=List.length_map ..
theorem AN {l:List Bool} {i:Int} (h0:0≤i) (h:i < l.length):(oM l)[i.toNat]?=some [bI (l.getD i.toNat false)]:=by
 unfold oM;rw [List.getElem?_map,List.getD_eq_getElem?_getD,List.getElem?_eq_getElem (show i.toNat < l.length by omega)];rfl
theorem DT (l:List Bool) (i:Nat) (x:Bool):(oM l).set i [bI x]=oM (l.set i x):=by unfold oM;rw [List.map_set]
theorem OU {l:List Int} {i:Nat} (h:i < l.length):(aF l)[((i:Nat):Int).toNat]?=some [nI (l.getD i 0)]:=rj (Int.natCast_nonneg i) (by omega)
theorem DU {l:List Int} (h:l≠[]):(aF l)[(((aF l).length:Int) - 1).toNat]?=some [nI (l.getLastD 0)]:=by
 have:0 < l.length:=List.length_pos_iff.2 h;rw [c7];unfold aF;rw [show ((l.length:Int) - 1).toNat=l.length - 1 by omega,List.getElem?_map,← List.getLast?_eq_getElem?,List.getLastD_eq_getLast?,List.getLast?_eq_some_getLast h];rfl
theorem DV (l:List Int):((aF l).take (((aF l).length:Int) - 1).toNat).drop (0:Int).toNat=aF l.dropLast:=by
 rw [c7]
 show ((aF l).take _)=_;unfold aF;rw [List.dropLast_eq_take,List.map_take];congr 1;omega
theorem DW (l:List Int) (x:Int):aF l ++ [[nI x]]=aF (l ++ [x]):=by unfold aF;rw [List.map_append];rfl
abbrev LS (b:Nat) (vc vm vh:Value) (size most f:Nat) (H:List Bool) (R:List aj:=[]):List aj:=.box b 140 [nI size,nI most,.v vc,.v vm,nI f,.v vh] :: .row vh 4 1 (oM H) :: R
abbrev LV (b:Nat) (vc vm vh:Value) (size most f:Nat) (V:List (List A)) (H:List Bool):List aj:=.row vc 28 1 V :: LS b vc vm vh size most f H
abbrev LP (b:Nat) (vc vm vh y:Value) (size most f:Nat) (V:List (List A)) (M:List Int) (H:List Bool) (c:List Int):List aj:=.row y 3 1 (aF c) :: .row vm 3 1 (aF M) :: LV b vc vm vh size most f V H
section
variable (b:Nat) (vc vm vh y:Value) (size most f:Nat) (V:List (List A)) (M c:List Int) (H:List Bool)
theorem yC (x:Int) (hf:f≤H.length) (R:List aj:=[]):an Tryz.prog 184 [.c (.v (pt b)),.c (nI x)] (LS b vc vm vh size most f H R) (fun _:Unit=>(.c (bI (Po.live f H x)),LS b vc vm vh size most f H R)):=by
 have lh:=AM H;unfold Po.live;refine an.intro Tryz.func184 rfl rfl rfl (fun ok e=>?_)
 cases t1:decide (0≤x) with
 | false =>
  repeat (refine gn ?_)
  (exact J.bN Tryz.func184 rfl (.cons (.tmp rfl) .nil) () (by exact .refl) rfl)
 | true =>
 cases t2:decide (x < (f:Int)) with
 | false =>
  repeat (refine gn ?_)
  (exact J.bN Tryz.func184 rfl (.cons (.tmp rfl) .nil) () (by exact .refl) rfl)
 | true =>
  have h0:0≤x:=by simpa using t1
  have h1:x < (f:Int):=by simpa using t2
  have A:=AN (l:=H) h0 (by omega);have h2:x < ((oM H).length:Int):=by omega
  repeat (first | (refine K.load ?_;refine jq rfl rfl rfl (Qt.aL rfl A rfl) ?_) | (refine K.indexAddr ?_;refine jq rfl rfl rfl (Qt.aI rfl rfl (by omega) (by omega)) ?_) | refine gn ?_)
  (exact J.bN Tryz.func184 rfl (.cons (.tmp rfl) .nil) () (by exact .refl) rfl)
theorem DX (g:Nat) (hg:g < V.length):an Tryz.prog 110 [.c (.v (pt b)),.c (nI g)] (LV b vc vm vh size most f V H) (fun _:Unit=>(.c (bI true),LV b vc vm vh size most f V H)):=by
 have t1:decide ((g:Int) ≥ 0)=true:=decide_eq_true (by omega);have t2:decide ((g:Int) < (V.length:Int))=true:=decide_eq_true (by omega);refine an.intro Tryz.func110 rfl rfl rfl (fun ok e=>?_)
 repeat (refine gn ?_)
 (exact J.bN Tryz.func110 rfl (.cons (.tmp rfl) .nil) () (by exact .refl) rfl)
theorem OV (g:Nat) (hg:V[g]?=some [.v y]) (hc:c.length≤1000):an Tryz.prog 58 [.c (.v (pt b)),.c (nI g)] (LP b vc vm vh y size most f V M H c) (fun _:Unit=>(.c (ints c),LP b vc vm vh y size most f V M H c)):=by
 have gl:=(List.getElem?_eq_some_iff.1 hg).1;have CT:=DX b vc vm vh size most f V H g gl;have HV:V[((g:Nat):Int).toNat]?=some [.v y]:=hg;have g1:(g:Int) < (V.length:Int):=by omega
 have lc:=c7 c;refine an.intro Tryz.func58 rfl rfl rfl (fun ok e=>?_)
 repeat (first | (refine K.load ?_;refine jq rfl rfl rfl (Qt.aL rfl HV rfl) ?_) | (refine K.indexAddr ?_;refine jq rfl rfl rfl (Qt.aI rfl rfl (by omega) (by omega)) ?_) | (refine K.call ?_;refine JO.ld (Ld.aY (CT) (qb rfl) rfl (by (exact aJ.cons .refl (.cons .refl .nil)))) rfl ?_;intro _) | (refine K.bi ?_;refine JO.ld (Ld.iI (l2:=aF c) (qb rfl) rfl rfl .dj (by rw [c7];omega)) rfl (fun _=>?_)) | refine gn ?_)
 (exact J.bN Tryz.func58 rfl (.cons (.tmp rfl) .nil) () (by exact .refl) rfl)
theorem OX (hc:M.length≤1000):an Tryz.prog 53 [.c (.v (pt b))] (.row vm 3 1 (aF M) :: LV b vc vm vh size most f V H) (fun _:Unit=>(.c (ints M),.row vm 3 1 (aF M) :: LV b vc vm vh size most f V H)):=by
 have lc:=c7 M;refine an.intro Tryz.func53 rfl rfl rfl (fun ok e=>?_)
 repeat (first | (refine K.bi ?_;refine JO.ld (Ld.iI (l2:=aF M) (qb rfl) rfl rfl .dj (by rw [c7];omega)) rfl (fun _=>?_)) | refine gn ?_)
 (exact J.bN Tryz.func53 rfl (.cons (.tmp rfl) .nil) () (by exact .refl) rfl)
theorem OY:an Tryz.prog 54 [.c (.v (pt b))] (.row vm 3 1 (aF M) :: LV b vc vm vh size most f V H) (fun _:Unit=>(.c (nI f),.row vm 3 1 (aF M) :: LV b vc vm vh size most f V H)):=by
 refine an.intro Tryz.func54 rfl rfl rfl (fun ok e=>?_)
 repeat (refine gn ?_)
 (exact J.bN Tryz.func54 rfl (.cons (.tmp rfl) .nil) () (by exact .refl) rfl)
theorem OZ (g:Nat) (hg:V[g]?=some [.v y]) (m1:1≤most) (m2:most≤16) (hM:M.length≤64) (hf:f≤64) (hx:Po.own most c M≠[]→0≤(Po.own most c M).getLastD 0∧(Po.own most c M).getLastD 0 < H.length) (hc:c.length≤most) (T:Po.St × Int × Bool) (hT:T=Po.take size most ⟨[c],M,f,H⟩ 0) :
  an Tryz.prog 148 [.c (.v (pt b)),.c (nI g)] (LP b vc vm vh y size most f V M H c) (fun z:Value × Value=>(.bp [.c (nI T.2.1),.c (bI T.2.2)],LP b vc z.1 vh z.2 size most T.1.f (V.set g [.v z.2]) T.1.M T.1.H (T.1.C.getD 0 []))):=by
 have gl:=(List.getElem?_eq_some_iff.1 hg).1;have CT:=DX b vc vm vh size most f V H g gl;have HV:V[((g:Nat):Int).toNat]?=some [.v y]:=hg;have g1:(g:Int) < (V.length:Int):=by omega
 have g0:(0:Int)≤(g:Int):=Int.natCast_nonneg g;have lH:=AM H;have lI:T=if Po.own most c M=[] then (if f < size then (⟨[c],M,f + 1,H⟩,(f:Int),true) else (⟨[c],M,f,H⟩,0,false)) else (⟨[(Po.own most c M).dropLast],Po.bH most c M,f,H.set ((Po.own most c M).getLastD 0).toNat false⟩,(Po.own most c M).getLastD 0,true):=by
  rw [hT];rfl
 clear hT;refine an.intro Tryz.func148 rfl rfl rfl (fun ok e=>?_)
 repeat (first | (refine K.load ?_;refine jq rfl rfl rfl (Qt.aL rfl HV rfl) ?_) | (refine K.indexAddr ?_;refine jq rfl rfl rfl (Qt.aI rfl rfl (by omega) (by omega)) ?_) | (refine K.call ?_;refine JO.ld (Ld.aY (CT) (qb rfl) rfl (by (exact aJ.cons .refl (.cons .refl .nil)))) rfl ?_;intro _) | refine gn ?_)
 refine J.perm (List.Perm.swap _ _ _) ?_;have hO:Po.own most c M=[]→c=[]∧Po.bH most c M=M:=fun h=>by
  obtain ⟨rfl,rfl⟩:=Po.Dw m1 h;exact ⟨rfl,by unfold Po.bH;simp⟩
 refine J.Ih (ι:={ z:Value × Value // Po.own most c M=[]→z=(vm,y) }) (fun z=>[(6,.c (.v z.1.2)),(0,.c (.v (pt b))),(1,.c (nI g))]) (fun z=>.row z.1.1 3 1 (aF (Po.bH most c M)) :: .row z.1.2 3 1 (aF (Po.own most c M)) :: LV b vc z.1.1 vh size most f V H) (fun z=>?_) (fun KK rest=>?_)
 ·obtain ⟨⟨vm,z⟩,hz⟩:=z;simp only at hz ⊢;have ol:=Po.Hg m1 (M:=M) hc;generalize Po.own most c M=o at hx lI hO hz ol;generalize Po.bH most c M=m at lI hO;have lo:=c7 o
  by_cases ho:o=[]
  ·obtain ⟨rfl,rfl⟩:=hO ho;have hz:=hz ho;simp only [Prod.mk.injEq] at hz;obtain ⟨rfl,rfl⟩:=hz;subst ho;rw [if_pos rfl] at lI;have t1:decide (((aF ([]:List Int)).length:Int) - 1 ≥ 0)=false:=rfl;have hV:V.set g [.v z]=V:=yB hg;refine J.perm (List.Perm.swap _ _ _) ?_
   cases t3:decide ((f:Int) < (size:Int)) with
   | true =>
    rw [if_pos (by have:=of_decide_eq_true t3;omega)] at lI;subst lI;simp only;rw [show nI ((f:Nat):Int)=nI ((f:Int) + 1 - 1) by rw [Int.add_sub_cancel]]
    repeat (refine gn ?_)
    refine J.draw (by kernel_rfl) rfl ?_;refine JW.base none ?_;refine tk 0 ?_;refine tk 1 ?_;refine tk 2 ?_;refine tk 3 ?_;refine tk 4 ?_;refine tk 5 ?_;refine tk 6 ?_;refine tk 7 ?_;refine JD.take 8 rfl rfl (by kernel_rfl) rfl (qb rfl) (Qt.cmp rfl rfl (congrArg some t3)) rfl ?_;refine bE ?_
    repeat (first | (refine K.store ?_;refine JO.ld (Ld.cY rfl rfl (by exact rfl)) rfl (fun _=>?_)) | refine gn ?_)
    refine J.dN (L':=LP b vc vm vh z size most (f + 1) (V.set g [.v z]) m H []) (by rw [hV];rfl) ?_
    (exact J.bN Tryz.func148 rfl (.cons (.tmp rfl) (.cons (.tmp rfl) .nil)) (vm,z) (by exact .refl) rfl)
   | false =>
    rw [if_neg (by have:=of_decide_eq_false t3;omega)] at lI;subst lI;simp only
    repeat (refine gn ?_)
    refine J.draw (by kernel_rfl) rfl ?_;refine JW.base none ?_;refine tk 0 ?_;refine tk 1 ?_;refine tk 2 ?_;refine tk 3 ?_;refine tk 4 ?_;refine tk 5 ?_;refine tk 6 ?_;refine tk 7 ?_;refine JD.take 8 rfl rfl (by kernel_rfl) rfl (qb rfl) (Qt.cmp rfl rfl (congrArg some t3)) rfl ?_;refine bE ?_
    repeat (refine gn ?_)
    refine J.dN (L':=LP b vc vm vh z size most f (V.set g [.v z]) m H []) (by rw [hV]) ?_
    (exact J.bN Tryz.func148 rfl (.cons (.tmp rfl) (.cons (.tmp rfl) .nil)) (vm,z) (by exact .refl) rfl)
  ·rw [if_neg ho] at lI;have op:=List.length_pos_iff.2 ho;have t1:decide (((aF o).length:Int) - 1 ≥ 0)=true:=decide_eq_true (by omega);have AL:=DU ho;obtain ⟨x0,x1⟩:=hx ho;have AH:=AN x0 x1;have nc:=DV o;generalize o.getLastD 0=x at x0 x1 AL AH lI;subst lI;simp only;have o0:(0:Int)≤((aF o).length:Int) - 1:=by omega
   have o1:((aF o).length:Int) - 1≤((aF o).length:Int):=by omega
   repeat (first | (refine K.load ?_;refine jq rfl rfl rfl (Qt.aL rfl AL rfl) ?_) | (refine K.indexAddr ?_;refine jq rfl rfl rfl (Qt.aI rfl rfl (by omega) (by omega)) ?_) | refine gn ?_)
   refine J.draw (by kernel_rfl) rfl ?_;refine JW.sv (some 9) (.tmp 6) rfl ?_;refine tk 0 ?_;refine tk 1 ?_;refine tk 2 ?_;refine tk 3 ?_;refine tk 4 ?_;refine tk 5 ?_;refine tk 6 ?_;refine jl 7 rfl rfl rfl rfl (xR (qb rfl) rfl rfl rfl (Int.le_refl 0) o0 o1 nc) (.pW rfl) (fun _=>?_);refine jk 8 rfl rfl rfl rfl (Qt.aI rfl rfl g0 g1) ?_;refine jt 9 rfl rfl (Ld.bL rfl rfl (by exact rfl) HV) (fun _=>?_);refine bR ?_
   repeat (first | (refine K.store ?_;refine JO.ld (Ld.bL rfl rfl (by exact rfl) (AH)) rfl (fun _=>?_)) | (refine K.indexAddr ?_;refine jq rfl rfl rfl (Qt.aI rfl rfl (by omega) (by omega)) ?_) | refine gn ?_)
   rename_i z2 _ _;refine J.dN (L':=LP b vc vm vh z2 size most f (V.set g [.v z2]) m (H.set x.toNat false) o.dropLast) (by unfold LP LV LS;rw [← DT];rfl) ?_
   (exact J.bN Tryz.func148 rfl (.cons (.tmp rfl) (.cons (.tmp rfl) .nil)) (vm,z2) (by exact .refl) rfl)
 ·by_cases oN:c=[]
  ·subst oN;have t1:(((aF ([]:List Int)).length:Int) == 0)=true:=rfl;have q1:IntKind.i64.wrap ((most:Int).tdiv 2)=((most / 2:Nat):Int):=by rw [Int.tdiv_eq_ediv_of_nonneg (by omega),dJ (by omega) (by omega)];omega
   have x1:(if ((most / 2:Nat):Int) > 1 then ((most / 2:Nat):Int) else 1)=(Po.room most:Int):=by unfold Po.room;split <;> omega
   obtain ⟨N,hN⟩:∃ N,min (Po.room most) M.length=N:=⟨_,rfl⟩
   have eo:∀ m o:List Int,m ++ o.reverse=M→o.length=N→Po.own most [] M=o∧Po.bH most [] M=m:=fun m o e l=>by
    unfold Po.own Po.bH Po.nM;rw [if_pos rfl,hN,← e,← l];refine ⟨?_,?_⟩
    ·simp
    ·simp
   rw [t1]
   repeat (refine gn ?_)
   refine J.loop (ι:={ q:Value × Value × List Int × List Int // q.2.2.1 ++ q.2.2.2.reverse=M∧q.2.2.2.length≤N∧(q.2.2.2=[]→q.1=vm∧q.2.1=y) }) (fun q=>[(6,.c (.v q.1.2.1)),(0,.c (.v (pt b))),(1,.c (nI g))]) (fun q=>.row q.1.1 3 1 (aF q.1.2.2.1) :: .row q.1.2.1 3 1 (aF q.1.2.2.2) :: LV b vc q.1.1 vh size most f V H) (fun q=>N - q.1.2.2.2.length) ⟨(vm,y,M,[]),by simp,Nat.zero_le _,fun _=>⟨rfl,rfl⟩⟩ (fun X h=>h.aW ⟨rfl,rfl,rfl,trivial⟩) (fun q ih=>?_);obtain ⟨⟨DY,y',m,o⟩,qe,ql,qz⟩:=q;simp only at qe ql qz ih ⊢;have lm:=c7 m;have lo:=c7 o;have ml:m.length + o.length=M.length:=by simpa using congrArg List.length qe
   by_cases hk:o.length < N
   ·have hm:m≠[]:=by
     rintro rfl
     simp at ml;omega
    have mp:=List.length_pos_iff.2 hm;have t2:decide (((aF m).length:Int) > 0)=true:=decide_eq_true (by omega);have t3:decide (((aF o).length:Int) < (Po.room most:Int))=true:=decide_eq_true (by omega);have AL:=DU hm;have nc:=DV m;have nb:((aF o).length + 1) * 8≤140737488355328:=by unfold Po.room at hN;omega
    repeat (first | (refine K.load ?_;refine jq rfl rfl rfl (Qt.aL rfl AL rfl) ?_) | (refine K.store ?_;refine JO.ld (Ld.cY rfl rfl (by exact rfl)) rfl (fun _=>?_)) | (refine K.indexAddr ?_;refine jq rfl rfl rfl (Qt.aI rfl rfl (by omega) (by omega)) ?_) | (refine K.binOp ?_;refine jq rfl rfl rfl (Qt.quo rfl rfl (by decide) (q1)) ?_) | (refine K.lit ?_;refine JO.ld (Ld.jS (qb rfl) rfl rfl rfl rfl rfl) rfl (fun _=>?_)) | (refine K.slice ?_;refine JO.ld (xR (qb rfl) rfl rfl rfl (by (omega)) (by (omega)) (by (omega)) (nc)) rfl (fun _=>?_)) | (refine K.bi ?_;first | refine jq rfl rfl rfl (Qt.max rfl rfl x1) ?_ | ((refine JO.ld (Ld.cy (qb rfl) rfl rfl .read ((by omega))) rfl (fun _=>?_)))) | refine gn ?_)
    rename_i y2 uj _;refine J.dN (L':=.row uj 3 1 (aF m.dropLast) :: .row y2 3 1 (aF (o ++ [m.getLastD 0])) :: LV b vc uj vh size most f V H) (by rw [← DW];rfl) ((ih ⟨(uj,y2,m.dropLast,o ++ [m.getLastD 0]),?_,?_,?_⟩ ?_).aW ⟨rfl,rfl,rfl,trivial⟩)
    ·simp only;have:=Po.xU hm;rw [List.reverse_append,← List.append_assoc]
     show (m.dropLast ++ [m.getLastD 0]) ++ o.reverse=M;rw [← this];exact qe
    ·simp only [List.length_append,List.length_singleton];omega
    ·intro h;simp at h
    ·simp only [List.length_append,List.length_singleton];omega
   ·have bF:o.length=N:=by omega
    obtain ⟨e1,e2⟩:=eo m o qe bF;have hr:=rest ⟨(DY,y'),by rw [e1];intro h;rw [(qz h).1,(qz h).2]⟩;simp only at hr;rw [e1,e2] at hr
    cases t2:decide (((aF m).length:Int) > 0) with
    | false =>
     repeat (refine gn ?_)
     exact hr.aW ⟨rfl,rfl,rfl,trivial⟩
    | true =>
     have t3:decide (((aF o).length:Int) < (Po.room most:Int))=false:=decide_eq_false (by
      have:=of_decide_eq_true t2;omega)
     repeat (first | (refine K.binOp ?_;refine jq rfl rfl rfl (Qt.quo rfl rfl (by decide) (q1)) ?_) | (refine K.bi ?_;refine jq rfl rfl rfl (Qt.max rfl rfl x1) ?_) | refine gn ?_)
     exact hr.aW ⟨rfl,rfl,rfl,trivial⟩
  ·have t1:(((aF c).length:Int) == 0)=false:=beq_eq_false_iff_ne.2 (by have:=List.length_pos_iff.2 oN;rw [c7];omega);have e1:Po.own most c M=c:=by unfold Po.own Po.nM;rw [if_neg oN];simp
   have e2:Po.bH most c M=M:=by unfold Po.bH Po.nM;rw [if_neg oN];simp
   have hr:=rest ⟨(vm,y),fun _=>rfl⟩;simp only at hr;rw [e1,e2] at hr;rw [t1]
   repeat (refine gn ?_)
   exact hr.aW ⟨rfl,rfl,rfl,trivial⟩
theorem O0 (g:Nat) (x:Int) (hg:V[g]?=some [.v y]) (m1:1≤most) (m2:most≤16) (hM:M.length≤64) (hf:f≤H.length) (hc:c.length≤most) (T:Po.St × Bool) (hT:T=Po.cz most ⟨[c],M,f,H⟩ 0 x) :
  an Tryz.prog 117 [.c (.v (pt b)),.c (nI g),.c (nI x)] (LP b vc vm vh y size most f V M H c) (fun z:Value × Value=>(.c (bI T.2),LP b vc z.1 vh z.2 size most T.1.f (V.set g [.v z.2]) T.1.M T.1.H (T.1.C.getD 0 []))):=by
 have gl:=(List.getElem?_eq_some_iff.1 hg).1;have CT:=DX b vc vm vh size most f V H g gl;have CL:=yC b vc vm vh size most f H x hf;have HV:V[((g:Nat):Int).toNat]?=some [.v y]:=hg;have g1:(g:Int) < (V.length:Int):=by omega
 have g0:(0:Int)≤(g:Int):=Int.natCast_nonneg g;have lH:=AM H;have lc:=c7 c;have lI:T=if Po.live f H x then (⟨[c.take (c.length - Po.ez most c) ++ [x]],M ++ c.reverse.take (Po.ez most c),f,H.set x.toNat true⟩,true) else (⟨[c],M,f,H⟩,false):=by
  rw [hT];rfl
 clear hT
 cases hl:Po.live f H x with
 | false =>
  rw [hl] at CL;rw [hl,if_neg (by simp)] at lI;subst lI;simp only;refine an.intro Tryz.func117 rfl rfl rfl (fun ok e=>?_)
  repeat (first | (refine K.call ?_;first | (refine JO.ld (Ld.aY (CT) (qb rfl) rfl (by (exact aJ.cons .refl (.cons .refl .nil)))) rfl ?_;intro _) | (refine JO.ld (Ld.aY (CL) (qb rfl) rfl (by (exact aJ.cons .refl (.cons .refl .nil)))) rfl ?_;intro _)) | refine gn ?_)
  refine J.dN (L':=LP b vc vm vh y size most f (V.set g [.v y]) M H c) (by rw [yB hg]) ?_
  (exact J.bN Tryz.func117 rfl (.cons (.tmp rfl) .nil) (vm,y) (by exact .refl) rfl)
 | true =>
 rw [hl] at CL;rw [hl,if_pos rfl] at lI;subst lI;simp only;have x0:0≤x∧x < (f:Int):=by unfold Po.live at hl;simp only [Bool.and_eq_true,decide_eq_true_eq] at hl;exact hl.1
 have AH:=AN x0.1 (show x < H.length by omega);refine an.intro Tryz.func117 rfl rfl rfl (fun ok e=>?_)
 repeat (first | (refine K.load ?_;refine jq rfl rfl rfl (Qt.aL rfl HV rfl) ?_) | (refine K.indexAddr ?_;refine jq rfl rfl rfl (Qt.aI rfl rfl (by omega) (by omega)) ?_) | (refine K.call ?_;first | (refine JO.ld (Ld.aY (CT) (qb rfl) rfl (by (exact aJ.cons .refl (.cons .refl .nil)))) rfl ?_;intro _) | (refine JO.ld (Ld.aY (CL) (qb rfl) rfl (by (exact aJ.cons .refl (.cons .refl .nil)))) rfl ?_;intro _)) | refine gn ?_)
 refine J.Ih (ι:=Value × Value) (fun z=>[(7,.c (.v z.2)),(0,.c (.v (pt b))),(1,.c (nI g)),(2,.c (nI x))]) (fun z=>.row z.2 3 1 (aF (c.take (c.length - Po.ez most c))) :: .row z.1 3 1 (aF (M ++ c.reverse.take (Po.ez most c))) :: LV b vc z.1 vh size most f V H) (fun z=>?_) (fun KK rest=>?_)
 ·obtain ⟨vm,z⟩:=z;simp only;have lt:(aF (c.take (c.length - Po.ez most c))).length≤16:=by rw [c7,List.length_take];omega
  generalize c.take (c.length - Po.ez most c)=o at lt;generalize M ++ c.reverse.take (Po.ez most c)=m
  repeat ((refine J.seq ?_))
  refine J.draw (by kernel_rfl) rfl ?_;refine JW.sv (some 10) (.tmp 7) rfl ?_;refine tk 0 ?_;refine tk 1 ?_;refine tk 2 ?_;refine tk 3 ?_;refine tk 4 ?_;refine tk 5 ?_;refine tk 6 ?_;refine jl 7 rfl rfl rfl rfl (Ld.jS (qb rfl) rfl rfl rfl rfl rfl) .none (fun _=>?_);refine jl 8 rfl rfl rfl rfl (Ld.cy (qb rfl) rfl rfl .read (by simp only [List.length_singleton];omega)) (.pW rfl) (fun _=>?_);refine jk 9 rfl rfl rfl rfl (Qt.aI rfl rfl g0 g1) ?_;refine jt 10 rfl rfl (Ld.bL rfl rfl (by exact rfl) HV) (fun _=>?_);refine bR ?_
  repeat (first | (refine K.store ?_;refine JO.ld (Ld.bL rfl rfl (by exact rfl) (AH)) rfl (fun _=>?_)) | (refine K.indexAddr ?_;refine jq rfl rfl rfl (Qt.aI rfl rfl (by omega) (by omega)) ?_) | refine gn ?_)
  rename_i z2 _ _;refine J.dN (L':=LP b vc vm vh z2 size most f (V.set g [.v z2]) m (H.set x.toNat true) (o ++ [x])) (by unfold LP LV LS;rw [← DT,← DW];rfl) ?_
  (exact J.bN Tryz.func117 rfl (.cons (.tmp rfl) .nil) (vm,z2) (by exact .refl) rfl)
 ·by_cases hf:c.length=most
  ·have t1:(((aF c).length:Int) == (most:Int))=true:=beq_iff_eq.2 (by omega);have q1:IntKind.i64.wrap ((most:Int).tdiv 2)=((most / 2:Nat):Int):=by rw [Int.tdiv_eq_ediv_of_nonneg (by omega),dJ (by omega) (by omega)];omega
   have ep:Po.ez most c=c.length - most / 2:=if_pos hf;rw [t1]
   repeat (refine gn ?_)
   refine J.loop (ι:={ q:Value × Value × List Int × List Int // q.2.2.1 ++ q.2.2.2.reverse=c∧q.2.2.2.length≤c.length - most / 2 }) (fun q=>[(7,.c (.v q.1.2.1)),(0,.c (.v (pt b))),(1,.c (nI g)),(2,.c (nI x))]) (fun q=>.row q.1.2.1 3 1 (aF q.1.2.2.1) :: .row q.1.1 3 1 (aF (M ++ q.1.2.2.2)) :: LV b vc q.1.1 vh size most f V H) (fun q=>q.1.2.2.1.length) ⟨(vm,y,c,[]),by simp,Nat.zero_le _⟩ (fun X h=>J.dN (by simp only [List.append_nil]) (h.aW ⟨rfl,rfl,rfl,rfl,trivial⟩)) (fun q ih=>?_);obtain ⟨⟨DY,y',o,m⟩,qe,ql⟩:=q;simp only at qe ql ih ⊢;have lo:=c7 o;have lm:=c7 (M ++ m);rw [List.length_append] at lm;have ml:o.length + m.length=c.length:=by simpa using congrArg List.length qe
   by_cases hk:m.length < c.length - most / 2
   ·have ho:o≠[]:=by rintro rfl;simp at ml;omega
    have op:=List.length_pos_iff.2 ho;have t2:decide (((aF o).length:Int) > ((most / 2:Nat):Int))=true:=decide_eq_true (by omega);have AL:=DU ho;have nc:=DV o;have o0:(0:Int)≤((aF o).length:Int) - 1:=by omega
    have o1:((aF o).length:Int) - 1 < ((aF o).length:Int):=by omega
    repeat (first | (refine K.binOp ?_;refine jq rfl rfl rfl (Qt.quo rfl rfl (by decide) (q1)) ?_) | refine gn ?_)
    refine J.draw (by kernel_rfl) rfl ?_;refine JW.iZ [1] (some 13) ?_;refine tk 0 ?_;refine tk 1 ?_;refine tk 2 ?_;refine tk 3 ?_;refine tk 4 ?_;refine tk 5 ?_;refine tk 6 ?_;refine JD.take 7 rfl rfl (by kernel_rfl) rfl (qb rfl) (Qt.aI rfl rfl o0 o1) rfl ?_;refine JD.take 8 rfl rfl (by kernel_rfl) rfl (qb rfl) (Qt.aL rfl AL rfl) rfl ?_;refine jl 9 rfl rfl rfl rfl (Ld.jS (qb rfl) rfl rfl rfl rfl rfl) .none (fun _=>?_);refine jl 10 rfl rfl rfl rfl (Ld.cy (qb rfl) rfl rfl .read (by simp only [List.length_singleton];omega)) (.pW rfl) (fun _=>?_);refine jk 11 rfl rfl rfl rfl (Qt.nilCheck rfl rfl) ?_;refine jk 12 rfl rfl rfl rfl (Qt.fieldAddr rfl rfl) ?_;refine jt 13 rfl rfl (Ld.cY rfl rfl (by exact rfl)) (fun _=>?_);refine bR ?_
    repeat (first | (refine K.slice ?_;refine JO.ld (xR (qb rfl) rfl rfl rfl (by (omega)) (by (omega)) (by (omega)) (nc)) rfl (fun _=>?_)) | refine gn ?_)
    rename_i uj _ y2;refine J.dN (L':=.row y2 3 1 (aF o.dropLast) :: .row uj 3 1 (aF (M ++ (m ++ [o.getLastD 0]))) :: LV b vc uj vh size most f V H) (by rw [← List.append_assoc,← DW];rfl) ((ih ⟨(uj,y2,o.dropLast,m ++ [o.getLastD 0]),?_,?_⟩ ?_).aW ⟨rfl,rfl,rfl,rfl,trivial⟩)
    ·simp only;have:=Po.xU ho;rw [List.reverse_append,← List.append_assoc]
     show (o.dropLast ++ [o.getLastD 0]) ++ m.reverse=c;rw [← this];exact qe
    ·simp only [List.length_append,List.length_singleton];omega
    ·simp only [List.length_dropLast];omega
   ·have bF:m.length=c.length - most / 2:=by omega
    have t2:decide (((aF o).length:Int) > ((most / 2:Nat):Int))=false:=decide_eq_false (by omega);have e1:c.take (c.length - Po.ez most c)=o:=by rw [ep,← bF,← qe];simp
    have e2:c.reverse.take (Po.ez most c)=m:=by rw [ep,← bF,← qe];simp
    repeat (first | (refine K.binOp ?_;refine jq rfl rfl rfl (Qt.quo rfl rfl (by decide) (q1)) ?_) | refine gn ?_)
    exact J.dN (by simp only;rw [e1,e2]) ((rest (DY,y')).aW ⟨rfl,rfl,rfl,rfl,trivial⟩)
  ·have t1:(((aF c).length:Int) == (most:Int))=false:=beq_eq_false_iff_ne.2 (by omega);have ep:Po.ez most c=0:=if_neg hf;rw [t1]
   repeat (refine gn ?_)
   exact J.dN (by simp only;rw [ep,Nat.sub_zero,List.take_length,List.take_zero,List.append_nil]) ((rest (vm,y)).aW ⟨rfl,rfl,rfl,rfl,trivial⟩)
theorem Ii (l:List Int) (hl:l.length≤1000) (hf:f≤H.length) (R:List aj) (r:List Bool) (hr:Po.settle f H l=(r,true)) :
  an Tryz.prog 104 [.c (.v (pt b)),.c (ints l)] (LS b vc vm vh size most f H R) (fun _:Unit=>(.c (bI true),LS b vc vm vh size most f r R)):=by
 refine an.intro Tryz.func104 rfl rfl rfl (fun ok e=>?_)
 repeat (refine gn ?_)
 refine J.loop (ι:={ q:Nat × List Bool // q.1≤l.length∧q.2.length=H.length∧Po.settle f q.2 (l.drop q.1)=(r,true) }) (fun q=>[(9,.c (nI q.1.1)),(8,.c (nI l.length)),(7,.c (ints l)),(0,.c (.v (pt b)))]) (fun q=>LS b vc vm vh size most f q.1.2 R) (fun q=>l.length - q.1.1) ⟨(0,H),Nat.zero_le _,rfl,hr⟩ (fun X h=>h.aW ⟨rfl,rfl,rfl,rfl,trivial⟩) (fun q ih=>?_);obtain ⟨⟨k,G⟩,qk,qg,qs⟩:=q;simp only at qk qg qs ih ⊢
 by_cases hk:k < l.length
 ·have t1:decide ((k:Int) < (l.length:Int))=true:=decide_eq_true (by omega);have AX:=OU hk;rw [Po.NL l k hk,Po.xW] at qs;generalize l.getD k 0=x at AX qs;have CL:=yC b vc vm vh size most f G x (by omega) R
  cases hv:Po.live f G x with
  | false=>rw [hv,if_neg (by simp)] at qs;cases qs
  | true =>
   rw [hv,if_pos rfl] at qs;rw [hv] at CL;have x0:0≤x∧x < (f:Int):=by unfold Po.live at hv;simp only [Bool.and_eq_true,decide_eq_true_eq] at hv;exact hv.1
   have AH:=AN x0.1 (show x < G.length by omega);have lG:=AM G
   repeat (first | (refine K.store ?_;refine JO.ld (Ld.bL rfl rfl (by exact rfl) (AH)) rfl (fun _=>?_)) | (refine K.indexAddr ?_;refine jq rfl rfl rfl (Qt.aI rfl rfl (by omega) (by omega)) ?_) | (refine K.call ?_;refine JO.ld (Ld.fj (CL) (qb rfl) rfl (by (exact aJ.cons .refl (.cons .refl .nil)))) rfl ?_;intro _) | refine gn ?_)
   exact J.dN (by simp only;unfold LS;rw [← DT];rfl) ((ih ⟨(k + 1,G.set x.toNat true),by simp only;omega,by simp only [List.length_set];exact qg,qs⟩ (by simp only;omega)).aW ⟨rfl,rfl,rfl,rfl,trivial⟩)
 ·have t1:decide ((k:Int) < (l.length:Int))=false:=decide_eq_false (by omega);rw [List.drop_eq_nil_of_le (by omega)] at qs;obtain rfl:G=r:=by cases qs;rfl
  repeat (refine gn ?_)
  (exact J.bN Tryz.func104 rfl (.cons (.tmp rfl) .nil) () (by exact .refl) rfl)
end
theorem O1 (size dX most:Int):Pure Tryz.prog 183 [.c (nI size),.c (nI dX),.c (nI most)] (.c (bI (Po.fits size dX most))):=by
 obtain ⟨x1,t1⟩:∃ x,decide (size ≥ 0)=x:=⟨_,rfl⟩
 obtain ⟨x2,t2⟩:∃ x,decide (size≤64)=x:=⟨_,rfl⟩
 obtain ⟨x3,t3⟩:∃ x,decide (dX ≥ 0)=x:=⟨_,rfl⟩
 obtain ⟨x4,t4⟩:∃ x,decide (dX≤8)=x:=⟨_,rfl⟩
 obtain ⟨x5,t5⟩:∃ x,decide (most ≥ 1)=x:=⟨_,rfl⟩
 obtain ⟨x6,t6⟩:∃ x,decide (most≤16)=x:=⟨_,rfl⟩
 have e:Po.fits size dX most=(x1 && x2 && x3 && x4 && x5 && x6):=by
  rw [← t1,← t2,← t3,← t4,← t5,← t6];unfold Po.fits;simp only [ge_iff_le,Bool.decide_and,Bool.and_assoc]
 rw [e];refine an.intro Tryz.func183 rfl rfl rfl (fun ok e=>?_)
 cases x1
 case' true=>cases x2
 case' true.true=>cases x3
 case' true.true.true=>cases x4
 case' true.true.true.true=>cases x5
 all_goals
  repeat (refine gn ?_)
  exact aD Tryz.func183
section
variable {P:Program} {c:Cx} {k:List Item} {f:Fm} {L:List aj}
theorem St.mg {e sz:Nat} {a:Act} {w:World} (s:St c f L a w):St c f (.row (.slice none 0 0) e sz [] :: L) a w:=by
 have hf:bu (.row (.slice none 0 0) e sz [] :: L)=bu L:=by simp [bu,aj.cA,cX]
 have ho:bM c (.row (.slice none 0 0) e sz [] :: L)=bM c L:=by funext x;unfold bM;rw [hf]
 refine ⟨s.kp,s.size,s.jO,fun q hq=>?_,fun x hx=>s.fL x (hf ▸ hx),List.pairwise_cons.2 ⟨fun q _ x hx=>by simp [aj.cA,cX] at hx,s.ap⟩,fun t d ht=>by rw [ho];exact s.fr t d ht⟩;rw [ho];rcases List.mem_cons.1 hq with rfl | hq
 ·exact ⟨[],Row.nil w e sz,rfl⟩
 ·exact s.res q hq
theorem J.mg (e sz:Nat) (h:J P c k f (.row (.slice none 0 0) e sz [] :: L)):J P c k f L:=⟨fun a w s=>h.go a w s.mg⟩
theorem J.Ij (e sz:Nat):∀ n,J P c k f (List.replicate n (.row (.slice none 0 0) e sz []) ++ L)→J P c k f L
 | 0,h=>h
 | n + 1,h=>J.Ij e sz n (J.mg e sz h)
end
theorem vP {α:Type} {n g:Nat} {h h':Nat→α} {a:α} (hg:g < n) (e1:h' g=a) (e2:∀ k,k≠g→k < n→h' k=h k):((List.range n).map h).set g a=(List.range n).map h':=by
 apply List.ext_getElem?;intro k;rw [List.getElem?_set,List.getElem?_map,List.getElem?_map]
 by_cases hk:k < n
 ·rw [List.getElem?_range hk]
  by_cases c:g=k
  ·subst c;simp [e1,hg]
  ·rw [if_neg c];simp [e2 k (Ne.symm c) hk]
 ·rw [List.getElem?_eq_none (by simpa using hk)]
  split
  ·rw [if_neg (by simp;omega)];simp
  ·simp
theorem O2 (n size dX most:Nat) (h1:size≤64) (h2:dX≤8) (h3:1≤most) (h4:most≤16):an Tryz.prog 101 [.c (nI size),.c (nI dX),.c (nI most)] [] (fun z:Nat × Value × Value=>(.bp [.c (.v (pt z.1)),.c (nI 0)],List.replicate n (.row (.slice none 0 0) 3 1 []) ++ LV z.1 z.2.1 (.slice none 0 0) z.2.2 size most 0 (List.replicate dX [.v (.slice none 0 0)]) (List.replicate size false))):=by
 have CF:=O1 size dX most;rw [show Po.fits size dX most=true from decide_eq_true (by omega)] at CF;refine an.intro Tryz.func101 rfl rfl rfl (fun ok e=>?_)
 repeat (refine gn ?_)
 refine J.draw (by kernel_rfl) rfl ?_;refine JW.base none ?_;refine tk 0 ?_;refine tk 1 ?_;refine tk 2 ?_;refine tk 4 ?_;refine JD.cU (i:=3) (j:=5) (by kernel_rfl) ?_ ?_;refine JS.bZ rfl rfl rfl (qb rfl) (Ld.make dX (qb rfl) rfl rfl rfl (by omega)) .none (fun _=>?_);refine jl 5 rfl rfl rfl rfl (Ld.make size (qb rfl) rfl rfl rfl (by omega)) .none (fun _=>?_);refine jk 6 rfl rfl rfl rfl (Qt.build rfl (by kernel_rfl)) ?_;refine jl 7 rfl rfl rfl rfl (Ld.box (qb rfl) rfl rfl) .none (fun _=>?_);refine jk 8 rfl rfl rfl rfl (Qt.assign rfl) ?_;refine jk 9 rfl rfl rfl rfl (Qt.assign rfl) ?_;refine bE ?_
 rotate_left
 refine JS.bZ rfl rfl rfl (qb rfl) (Ld.make size (qb rfl) rfl rfl rfl (by omega)) .none (fun _=>?_);refine jl 3 rfl rfl rfl rfl (Ld.make dX (qb rfl) rfl rfl rfl (by omega)) .none (fun _=>?_);refine jk 6 rfl rfl rfl rfl (Qt.build rfl (by kernel_rfl)) ?_;refine jl 7 rfl rfl rfl rfl (Ld.box (qb rfl) rfl rfl) .none (fun _=>?_);refine jk 8 rfl rfl rfl rfl (Qt.assign rfl) ?_;refine jk 9 rfl rfl rfl rfl (Qt.assign rfl) ?_;refine bE ?_
 rotate_left
 all_goals
  rename_i v1 v2 b;rw [show List.replicate size (vs [Value.bool false])=oM (List.replicate size false) by unfold oM;rw [List.map_replicate];rfl];refine J.Ij 3 1 n ?_
 ·refine J.perm (L2:=List.replicate n (.row (.slice none 0 0) 3 1 []) ++ LV b (sl v1 0 dX dX) (.slice none 0 0) (sl v2 0 size size) size most 0 (List.replicate dX [.v (.slice none 0 0)]) (List.replicate size false)) (.append_left _ ((List.Perm.swap _ _ _).trans (.cons _ (List.Perm.swap _ _ _)))) ?_
  (exact J.bN Tryz.func101 rfl (.cons (.tmp rfl) (.cons (.tmp rfl) .nil)) (b,sl v1 0 dX dX,sl v2 0 size size) (by exact .refl) rfl)
 ·refine J.perm (L2:=List.replicate n (.row (.slice none 0 0) 3 1 []) ++ LV b (sl v2 0 dX dX) (.slice none 0 0) (sl v1 0 size size) size most 0 (List.replicate dX [.v (.slice none 0 0)]) (List.replicate size false)) (.append_left _ (List.Perm.swap _ _ _)) ?_
  (exact J.bN Tryz.func101 rfl (.cons (.tmp rfl) (.cons (.tmp rfl) .nil)) (b,sl v2 0 dX dX,sl v1 0 size size) (by exact .refl) rfl)
def mP (p:Value) (size most:Nat) (s:Po.St) (x:{ x:Nat × Value × Value × Value × (Nat→Value) // p=pt x.1 }):List aj :=
 .row x.1.2.2.1 3 1 (aF s.M) :: LV x.1.1 x.1.2.1 x.1.2.2.1 x.1.2.2.2.1 size most s.f ((List.range s.C.length).map fun i=>[.v (x.1.2.2.2.2 i)]) s.H ++ (List.range s.C.length).map fun i=>.row (x.1.2.2.2.2 i) 3 1 (aF (s.C.getD i []))
def tP (p:Value) (size most:Nat) (s:Po.St):World→List Nat→Prop:=dP (mP p size most s)
theorem O3 (l:List Bool):(oM l).all (·.all mW)=true:=List.all_eq_true.2 fun x hx=>by
 obtain ⟨n,_,rfl⟩:=List.mem_map.1 hx;rfl
theorem mP.fl {p:Value} {size most:Nat} {s:Po.St} (x:{ x:Nat × Value × Value × Value × (Nat→Value) // p=pt x.1 }):(mP p size most s x).all mX=true:=List.all_eq_true.2 fun r hr=>by
 have hm:∀ {α:Type} (h:Nat→List A),(∀ i,(h i).all mW=true)→((List.range s.C.length).map h).all (·.all mW)=true:=fun h hh=>List.all_eq_true.2 fun x hx=>by
  obtain ⟨n,_,rfl⟩:=List.mem_map.1 hx;exact hh n
 unfold mP at hr;rcases List.mem_append.1 hr with hr | hr
 ·simp only [List.mem_cons,List.not_mem_nil,or_false] at hr;rcases hr with rfl | rfl | rfl | rfl
  ·exact Ar _
  ·exact hm (α:=Nat) _ fun i=>rfl
  ·rfl
  ·exact O3 _
 ·obtain ⟨n,_,rfl⟩:=List.mem_map.1 hr;exact Ar _
section
variable (p:Value) (size most:Nat) (s:Po.St) (S:List Nat)
theorem Ik {F:FuncId} {ds:List D} {d:D} (g:Nat) (hg:g < s.C.length) (c:List Int) (M:List Int) (f:Nat) (H:List Bool) (h:∀ b vc vm vh y V,p=pt b→V[g]?=some [.v y]→an Tryz.prog F ds (LP b vc vm vh y size most s.f V s.M s.H (s.C.getD g [])) (fun z:Value × Value=>(d,LP b vc z.1 vh z.2 size most f (V.set g [.v z.2]) M H c))) :
  an Tryz.prog F ds [aM (tP p size most s) S] (fun S':List Nat=>(d,[aM (tP p size most ⟨s.C.set g c,M,f,H⟩) S'])):=by
 refine an.re (κ:=List Nat) (ι:=Unit × List Nat) (fun q=>q.2) (an.NQ (Y:=Unit) (d:=fun _=>d) mP.fl fun x=>?_);obtain ⟨⟨b,vc,vm,vh,cv⟩,e⟩:=x;have hR:((List.range s.C.length).map fun i=>aj.row (cv i) 3 1 (aF (s.C.getD i [])))[g]?=some (.row (cv g) 3 1 (aF (s.C.getD g []))):=by rw [List.getElem?_map,List.getElem?_range hg];rfl
 have hV:((List.range s.C.length).map fun i=>[A.v (cv i)])[g]?=some [.v (cv g)]:=by rw [List.getElem?_map,List.getElem?_range hg];rfl
 refine ⟨Value × Value,fun z=>⟨(b,vc,z.1,vh,fun i=>if i=g then z.2 else cv i),e⟩,fun _=>(),an.frame (((List.range s.C.length).map fun i=>aj.row (cv i) 3 1 (aF (s.C.getD i []))).eraseIdx g) (h b vc vm vh (cv g) _ e hV) ?_ fun z=>?_⟩
 ·exact List.perm_middle.symm.trans ((oC _ g hR).append_left _)
 ·have e1:((List.range s.C.length).map fun i=>[A.v (cv i)]).set g [.v z.2]=(List.range (s.C.set g c).length).map fun i=>[A.v (if i=g then z.2 else cv i)]:=by
   rw [List.length_set];exact vP hg (by simp) fun k hk _=>by simp [hk]
  have e2:((List.range s.C.length).map fun i=>aj.row (cv i) 3 1 (aF (s.C.getD i []))).set g (.row z.2 3 1 (aF c))=(List.range (s.C.set g c).length).map fun i=>aj.row (if i=g then z.2 else cv i) 3 1 (aF ((s.C.set g c).getD i [])):=by
   rw [List.length_set];refine vP hg (by simp [List.getD_eq_getElem?_getD,hg]) fun k hk _=>?_
   rw [if_neg hk,List.getD_eq_getElem?_getD,List.getD_eq_getElem?_getD,List.getElem?_set_ne (Ne.symm hk)]
  rw [e1]
  show (_ ++ (List.range (s.C.set g c).length).map fun i=>aj.row (if i=g then z.2 else cv i) 3 1 (aF ((s.C.set g c).getD i []))).Perm _;rw [← e2];exact ((set_perm hR).append_left _).trans List.perm_middle
theorem Il {F:FuncId} {ds:List D} {d:D} (h:∀ b vc vm vh V,p=pt b→an Tryz.prog F ds (.row vm 3 1 (aF s.M) :: LV b vc vm vh size most s.f V s.H) (fun _:Unit=>(d,.row vm 3 1 (aF s.M) :: LV b vc vm vh size most s.f V s.H))) :
  an Tryz.prog F ds [aM (tP p size most s) S] (fun _:Unit=>(d,[aM (tP p size most s) S])) :=
 an.vz mP.fl fun ⟨⟨b,vc,vm,vh,cv⟩,e⟩=>⟨Unit,fun _=>⟨(b,vc,vm,vh,cv),e⟩,fun _=>rfl,an.frame _ (h b vc vm vh _ e) (.refl _) fun _=>.refl _⟩
theorem O4 (hM:s.M.length≤1000):an Tryz.prog 53 [.c (.v p)] [aM (tP p size most s) S] (fun _:Unit=>(.c (ints s.M),[aM (tP p size most s) S])) :=
 Il p size most s S fun b vc vm vh V e=>by subst e;exact OX b vc vm vh size most s.f V s.M s.H hM
theorem O5:an Tryz.prog 54 [.c (.v p)] [aM (tP p size most s) S] (fun _:Unit=>(.c (nI s.f),[aM (tP p size most s) S])) :=
 Il p size most s S fun b vc vm vh V e=>by subst e;exact OY b vc vm vh size most s.f V s.M s.H
theorem O6 (g:Nat) (hg:g < s.C.length) (hC:∀ l∈s.C,l.length≤1000):an Tryz.prog 58 [.c (.v p),.c (nI g)] [aM (tP p size most s) S] (fun _:Unit=>(.c (ints (Po.cache s.C g)),[aM (tP p size most s) S])):=by
 have ec:Po.cache s.C g=s.C.getD g []:=by unfold Po.cache Po.lC;rw [decide_eq_true (by omega),decide_eq_true (by omega)];rfl
 rw [ec];refine an.vz mP.fl fun ⟨⟨b,vc,vm,vh,cv⟩,e⟩=>⟨Unit,fun _=>⟨(b,vc,vm,vh,cv),e⟩,fun _=>rfl,?_⟩
 simp only at e;subst e;have hR:((List.range s.C.length).map fun i=>aj.row (cv i) 3 1 (aF (s.C.getD i [])))[g]?=some (.row (cv g) 3 1 (aF (s.C.getD g []))):=by rw [List.getElem?_map,List.getElem?_range hg];rfl
 have hV:((List.range s.C.length).map fun i=>[A.v (cv i)])[g]?=some [.v (cv g)]:=by rw [List.getElem?_map,List.getElem?_range hg];rfl
 have hp:=List.perm_middle.symm.trans ((oC _ g hR).append_left (aj.row vm 3 1 (aF s.M) :: LV b vc vm vh size most s.f ((List.range s.C.length).map fun i=>[A.v (cv i)]) s.H));exact an.frame _ (OV b vc vm vh (cv g) size most s.f _ s.M (s.C.getD g []) s.H g hV (hC _ (by rw [List.getD_eq_getElem?_getD,List.getElem?_eq_getElem hg];exact List.getElem_mem hg))) hp fun _=>hp.symm
theorem O7 (g:Nat) (hg:g < s.C.length) (v:Po.Inv size most s):an Tryz.prog 148 [.c (.v p),.c (nI g)] [aM (tP p size most s) S] (fun S':List Nat=>(.bp [.c (nI (Po.take size most s g).2.1),.c (bI (Po.take size most s g).2.2)],[aM (tP p size most (Po.take size most s g).1) S'])):=by
 have hc:s.C[g]?=some (s.C.getD g []):=by rw [List.getD_eq_getElem?_getD,List.getElem?_eq_getElem hg];rfl
 obtain ⟨T,hT⟩:∃ T,Po.take size most ⟨[s.C.getD g []],s.M,s.f,s.H⟩ 0=T:=⟨_,rfl⟩
 have e:Po.take size most s g=(⟨s.C.set g (T.1.C.getD 0 []),T.1.M,T.1.f,T.1.H⟩,T.2.1,T.2.2):=by
  have tk:Po.lC s.C g=true:=by unfold Po.lC;rw [decide_eq_true (by omega),decide_eq_true (by omega)];rfl
  rw [← hT];unfold Po.take;rw [if_pos tk,if_pos (show Po.lC [s.C.getD g []] 0=true from rfl),Int.toNat_natCast];simp only [Int.toNat_zero,List.getD_cons_zero]
  split
  ·split
   ·simp only [List.getD_cons_zero,yB hc]
   ·simp only [List.getD_cons_zero,yB hc]
  ·rfl
 rw [e];have hm:=v.pZ _ (List.mem_of_getElem? hc);refine Ik p size most s S g hg _ _ _ _ fun b vc vm vh y V ep hV=>?_
 subst ep;exact OZ b vc vm vh y size most s.f V s.M _ s.H g hV v.m1 v.m2 v.lens.1 (by have:=v.fl;have:=v.s1;omega) (fun h0=>by have:=v.last hc rfl h0;have:=v.fl;rw [v.hl];omega) hm T hT.symm
theorem Im (g:Nat) (hg:g < s.C.length) (x:Int) (v:Po.Inv size most s):an Tryz.prog 117 [.c (.v p),.c (nI g),.c (nI x)] [aM (tP p size most s) S] (fun S':List Nat=>(.c (bI (Po.cz most s g x).2),[aM (tP p size most (Po.cz most s g x).1) S'])):=by
 have hc:s.C[g]?=some (s.C.getD g []):=by rw [List.getD_eq_getElem?_getD,List.getElem?_eq_getElem hg];rfl
 obtain ⟨T,hT⟩:∃ T,Po.cz most ⟨[s.C.getD g []],s.M,s.f,s.H⟩ 0 x=T:=⟨_,rfl⟩
 have e:Po.cz most s g x=(⟨s.C.set g (T.1.C.getD 0 []),T.1.M,T.1.f,T.1.H⟩,T.2):=by
  have tk:Po.lC s.C g=true:=by unfold Po.lC;rw [decide_eq_true (by omega),decide_eq_true (by omega)];rfl
  rw [← hT];unfold Po.cz;rw [tk,show Po.lC [s.C.getD g []] 0=true from rfl,Bool.true_and,Int.toNat_natCast];simp only [Int.toNat_zero,List.getD_cons_zero]
  split
  ·rfl
  ·simp only [List.getD_cons_zero,yB hc]
 rw [e];refine Ik p size most s S g hg _ _ _ _ fun b vc vm vh y V ep hV=>?_
 subst ep;exact O0 b vc vm vh y size most s.f V s.M _ s.H g x hV v.m1 v.m2 v.lens.1 (by rw [v.hl];exact v.fl) (v.pZ _ (List.mem_of_getElem? hc)) T hT.symm
end
theorem uk {α:Type} {k:Nat} {h h':Nat→α} {a:α} (e1:h' k=a) (e2:∀ j,j < k→h' j=h j):(List.range k).map h ++ [a]=(List.range (k + 1)).map h':=by
 rw [List.range_succ,List.map_append,List.map_cons,List.map_nil,e1]
 congr 1
 exact List.map_congr_left fun j hj=>(e2 j (by simpa using hj)).symm
theorem O8 (size most f:Nat) (C:List (List Int)) (M:List Int) (hM:M.length≤1000) (hC:∀ l∈C,l.length≤1000) (ho:Po.of size most f C M=true) :
  an Tryz.prog 48 [.c (nI size),.c (nI most),.c (.r 1 (C.map fun l=>[ints l])),.c (ints M),.c (nI f)] []
   (fun x:{ x:Value × List Nat × List Bool // Po.settle f (List.replicate size false) (C.flatten ++ M)=(x.2.2,true) }=>(.bp [.c (.v x.1.1),.c (nI 0)],[aM (tP x.1.1 size most ⟨C,M,f,x.1.2.2⟩) x.1.2.1])):=by
 unfold Po.of at ho;simp only [Bool.and_eq_true,decide_eq_true_eq,Int.toNat_natCast] at ho;obtain ⟨⟨⟨⟨h1,h2⟩,h3⟩,h4⟩,h5⟩:=ho;obtain ⟨a1,a2,a3,a4,a5,a6⟩:=Po.G9 h1;obtain ⟨H,hH⟩:∃ H,Po.settle f (List.replicate size false) (C.flatten ++ M)=(H,true):=⟨_,Prod.ext rfl h5⟩
 have CN:=O2 0 size C.length most (by omega) (by omega) (by omega) (by omega);refine an.re (κ:={ x:Value × List Nat × List Bool // Po.settle f (List.replicate size false) (C.flatten ++ M)=(x.2.2,true) }) (ι:=Value × List Nat) (fun q=>⟨(q.1,q.2,H),hH⟩) ?_;refine an.x8 (Y:=Value) (d:=fun p=>.bp [.c (.v p),.c (nI 0)]) (κ:=fun p=>{ x:Nat × Value × Value × Value × (Nat→Value) // p=pt x.1 }) (N:=fun p x=>mP p size most ⟨C,M,f,H⟩ x) (fun p x=>mP.fl x) (Z:=Nat × Value × Value × Value × (Nat→Value)) (fun z=>⟨pt z.1,⟨z,rfl⟩⟩) ?_;have t1:decide ((f:Int) < 0)=false:=decide_eq_false (by omega);have t2:decide ((f:Int) > (size:Int))=false:=decide_eq_false (by omega);refine an.intro Tryz.func48 rfl rfl rfl (fun ok e=>?_);simp only [List.replicate_zero,List.nil_append] at CN
 repeat (first | (refine K.store ?_;refine JO.ld (Ld.cY rfl rfl (by exact rfl)) rfl (fun _=>?_)) | (refine K.call ?_;refine JO.ld (Ld.DE (L':=fun x=>LV x.1 x.2.1 (.slice none 0 0) x.2.2 size most 0 (List.replicate C.length [.v (.slice none 0 0)]) (List.replicate size false)) CN (fun _=>(List.append_nil _).symm) (qb rfl) rfl (.cons .refl (.cons .refl (.cons .refl .nil)))) rfl ?_;intro x) | refine gn ?_)
 obtain ⟨b,vc,vh⟩:=x;simp only;obtain ⟨n,hn⟩:∃ n,C.length=n:=⟨_,rfl⟩
 rw [hn] at a4 ⊢;refine J.loop (ι:={ q:Nat × List Bool × (Nat→Value) // q.1≤n∧q.2.1.length=size∧Po.settle f q.2.1 ((C.drop q.1).flatten ++ M)=(H,true) }) (fun q=>[(40,.c (nI q.1.1)),(39,.c (nI n)),(38,.c (.r 1 (C.map fun l=>[ints l]))),(12,.c (.v (pt b))),(1,.c (nI most)),(3,.c (ints M))]) (fun q=>.row vc 28 1 ((List.range q.1.1).map (fun i=>[A.v (q.1.2.2 i)]) ++ List.replicate (n - q.1.1) [.v (.slice none 0 0)]) :: LS b vc (.slice none 0 0) vh size most f q.1.2.1 ((List.range q.1.1).map fun i=>.row (q.1.2.2 i) 3 1 (aF (C.getD i [])))) (fun q=>n - q.1.1) ⟨(0,List.replicate size false,fun _=>.slice none 0 0),Nat.zero_le _,List.length_replicate ..,hH⟩ (fun X h=>h.aW ⟨rfl,by rw [← hn];simp;rfl,rfl,rfl,rfl,rfl,trivial⟩) (fun q ih=>?_);obtain ⟨⟨k,G,cv⟩,qk,qg,qs⟩:=q;simp only at qk qg qs ih ⊢
 by_cases hk:k < n
 ·have t3:decide ((k:Int) < (n:Int))=true:=decide_eq_true (by omega);have DZ:k < C.length:=by omega
  have gk:C[k]?=some (C.getD k []):=by rw [List.getD_eq_getElem?_getD,List.getElem?_eq_getElem DZ];rfl
  have AC:(C.map fun l=>[ints l])[((k:Nat):Int).toNat]?=some [ints (C.getD k [])]:=by rw [Int.toNat_natCast,List.getElem?_map,gk];rfl
  have hd:C.drop k=C.getD k [] :: C.drop (k + 1):=by rw [List.drop_eq_getElem_cons DZ,List.getD_eq_getElem?_getD,List.getElem?_eq_getElem DZ];rfl
  have hm:=List.mem_of_getElem? gk;have c4:=h4 _ hm;have c5:=hC _ hm;rw [hd,List.flatten_cons,List.append_assoc,Po.Hi] at qs;have XI:aj.row (.slice none 0 0) 3 1 (aF (C.getD k []))=aj.row (.slice none 0 0) 3 1 (aF (C.getD k [])):=rfl;generalize hc:C.getD k []=c at AC qs c4 c5;have t4:decide ((c.length:Int) > (most:Int))=false:=decide_eq_false (by omega)
  cases hs:Po.settle f G c with
  | mk r x =>
  rw [hs] at qs
  cases x with
  | false=>rw [if_neg (by simp)] at qs;cases qs
  | true =>
   rw [if_pos rfl] at qs;have CS:=Ii b vc (.slice none 0 0) vh size most f G c c5 (by omega) ((List.range k).map fun i=>.row (cv i) 3 1 (aF (C.getD i []))) r hs;have lr:r.length=G.length:=by have:=Po.Aq f G c;rw [hs] at this;exact this
   have k0:(0:Int)≤(k:Int):=Int.natCast_nonneg k;have lV:((List.range k).map (fun i=>[A.v (cv i)]) ++ List.replicate (n - k) [A.v (.slice none 0 0)]).length=n:=by simp;omega
   have kn:(k:Int) < (((List.range k).map (fun i=>[A.v (cv i)]) ++ List.replicate (n - k) [A.v (.slice none 0 0)]).length:Int):=by omega
   have HV:((List.range k).map (fun i=>[A.v (cv i)]) ++ List.replicate (n - k) [A.v (.slice none 0 0)])[((k:Nat):Int).toNat]?=some [.v (.slice none 0 0)]:=by
    rw [Int.toNat_natCast,List.getElem?_append_right (by simp),List.getElem?_replicate];simp;omega
   repeat (first | (refine K.call ?_;refine JO.ld (Ld.aY (CS) (qb rfl) rfl (by (exact aJ.cons .refl (.cons .refl .nil)))) rfl ?_;intro _) | refine gn ?_)
   refine J.draw (by kernel_rfl) rfl ?_;refine JW.base (some 8) ?_;refine tk 0 ?_;refine tk 1 ?_;refine tk 2 ?_;refine tk 3 ?_;refine tk 4 ?_;refine tk 5 ?_;refine jl 6 rfl rfl rfl rfl (Ld.tV (l2:=aF c) (qb rfl) rfl rfl .read (by rw [c7];omega)) .none (fun _=>?_);refine jk 7 rfl rfl rfl rfl (Qt.aI rfl rfl k0 kn) ?_;refine jt 8 rfl rfl (Ld.bL rfl rfl (by exact rfl) HV) (fun _=>?_);refine bR ?_
   repeat (refine gn ?_)
   rename_i v _;have e1:((List.range k).map (fun i=>[A.v (cv i)]) ++ List.replicate (n - k) [A.v (.slice none 0 0)]).set k [.v v]=(List.range (k + 1)).map (fun i=>[A.v (if i=k then v else cv i)]) ++ List.replicate (n - (k + 1)) [A.v (.slice none 0 0)]:=by
    obtain ⟨m,hm⟩:∃ m,n - k=m + 1:=⟨n - k - 1,by omega⟩
    rw [hm,show n - (k + 1)=m by omega,List.set_append_right _ _ (by simp),List.length_map,List.length_range,Nat.sub_self,List.replicate_succ,List.set_cons_zero,List.append_cons]
    congr 1
    exact uk (by simp) fun j hj=>by rw [if_neg (by omega)]
   have e2:((List.range k).map fun i=>aj.row (cv i) 3 1 (aF (C.getD i []))) ++ [.row v 3 1 (aF c)]=(List.range (k + 1)).map fun i=>aj.row (if i=k then v else cv i) 3 1 (aF (C.getD i [])) :=
    uk (by rw [if_pos rfl,hc]) fun j hj=>by rw [if_neg (by omega)]
   refine J.dN (L':=aj.row v 3 1 (aF c) :: aj.row vc 28 1 (((List.range k).map (fun i=>[A.v (cv i)]) ++ List.replicate (n - k) [A.v (.slice none 0 0)]).set k [.v v]) :: LS b vc (.slice none 0 0) vh size most f r ((List.range k).map fun i=>aj.row (cv i) 3 1 (aF (C.getD i [])))) rfl (J.perm (L2:=aj.row vc 28 1 (((List.range k).map (fun i=>[A.v (cv i)]) ++ List.replicate (n - k) [A.v (.slice none 0 0)]).set k [.v v]) :: LS b vc (.slice none 0 0) vh size most f r (((List.range k).map fun i=>aj.row (cv i) 3 1 (aF (C.getD i []))) ++ [aj.row v 3 1 (aF c)])) (List.perm_append_singleton (aj.row v 3 1 (aF c)) (aj.row vc 28 1 (((List.range k).map (fun i=>[A.v (cv i)]) ++ List.replicate (n - k) [A.v (.slice none 0 0)]).set k [.v v]) :: LS b vc (.slice none 0 0) vh size most f r ((List.range k).map fun i=>aj.row (cv i) 3 1 (aF (C.getD i []))))) ?_);rw [e1,e2];exact (ih ⟨(k + 1,r,fun i=>if i=k then v else cv i),by simp only;omega,by simp only;omega,qs⟩ (by simp only;omega)).aW ⟨rfl,rfl,rfl,rfl,rfl,rfl,trivial⟩
 ·obtain rfl:k=n:=by omega
  have t3:decide ((k:Int) < (k:Int))=false:=decide_eq_false (by omega);rw [List.drop_eq_nil_of_le (by omega),List.flatten_nil,List.nil_append] at qs;have CS:=Ii b vc (.slice none 0 0) vh size most f G M hM (by omega) ((List.range k).map fun i=>.row (cv i) 3 1 (aF (C.getD i []))) H qs;rw [Nat.sub_self,List.replicate_zero,List.append_nil]
  repeat (first | (refine K.store ?_;refine JO.ld (Ld.cY rfl rfl (by exact rfl)) rfl (fun _=>?_)) | (refine K.call ?_;refine JO.ld (Ld.aY (CS) (qb rfl) rfl (by (exact aJ.cons .refl (.cons .refl .nil)))) rfl ?_;intro _) | (refine K.bi ?_;refine JO.ld (Ld.tV (l2:=aF M) (qb rfl) rfl rfl .read (by rw [c7];omega)) rfl ?_;intro vm) | refine gn ?_)
  rw [← hn]
  (exact J.bN Tryz.func48 rfl (.cons (.tmp rfl) (.cons (.tmp rfl) .nil)) (b,vc,vm,vh,cv) (by exact .refl) rfl)
end Fl
open Go.RowKit
namespace Fl
open Sx
section
variable {P:Program} {F:FuncId} {ds:List D}
theorem an.aM {Φ:World→List Nat→Prop} {S:List Nat} {ι:Type} {Ψ:ι→World→List Nat→Prop} {S':ι→List Nat} {d:ι→D} (D6:vw Φ) (O9:∀ i,vw (Ψ i))
  (h:∀ ok e xs,cK ok e ds xs→Φ e S→Calls P F xs.toArray e fun en w'=>∃ i x,en=.returned x∧aP S e w'∧(∀ y∈S' i,y∈S∨e.heap.size≤y)∧Ψ i w' (S' i)∧RD (fun g=>(ok g∨g∈S∨e.heap.size≤g)∧g∉S' i) w' (d i) x) :
  an P F ds [Fl.aM Φ S] (fun i=>(d i,[Fl.aM (Ψ i) (S' i)])):=⟨fun ok e xs hd hr _ _=>by
 have h1:=(aM.holds D6).1 (hr _ (List.mem_singleton.2 rfl));refine Calls.mono (h ok e xs hd h1) ?_
 rintro en w' ⟨i,x,rfl,kp,hs,hp,hx⟩
 have fe:∀ (Φ:World→List Nat→Prop) (S:List Nat),bu [Fl.aM Φ S]=S:=fun Φ S=>by simp [bu,Fl.aM,aj.cA]
 refine ⟨i,x,rfl,by rw [fe];exact kp,by rw [fe,fe];exact hs,List.pairwise_singleton _ _,fun r hr=>?_,?_⟩
 ·rw [List.mem_singleton.1 hr];exact (aM.holds (O9 i)).2 hp
 ·have:gL ok e [Fl.aM Φ S] [Fl.aM (Ψ i) (S' i)]=fun g=>(ok g∨g∈S∨e.heap.size≤g)∧g∉S' i:=by
   funext g;unfold gL;rw [fe,fe]
  rw [this];exact hx⟩
theorem an.plain {d:D} (h:∀ ok e xs,cK ok e ds xs→Calls P F xs.toArray e fun en w'=>∃ x,en=.returned x∧aP [] e w'∧RD (fun g=>ok g∨e.heap.size≤g) w' d x):Pure P F ds d:=⟨fun ok e xs hd _ _ _=>by
 refine Calls.mono (h ok e xs hd) ?_
 rintro en w' ⟨x,rfl,kp,hx⟩
 refine ⟨(),x,rfl,by simpa [bu] using kp,by simp [bu],List.Pairwise.nil,by simp,?_⟩;have:gL ok e [] []=fun g=>ok g∨e.heap.size≤g:=by
  funext g;unfold gL;simp [bu]
 rw [this];exact hx⟩
end
theorem cK.v1 {ok:Nat→Prop} {w:World} {v:Value} {xs:List Value} (h:cK ok w [.c (.v v)] xs):xs=[v]:=by
 unfold cK at h;obtain ⟨x,ys,rfl,h1,h2⟩:=h;unfold cK at h2;unfold RD RA at h1;rw [h2,h1.1]
theorem cK.cv {ok:Nat→Prop} {w:World} {v:Value} {ds:List D} {xs:List Value} (h:cK ok w (.c (.v v) :: ds) xs):∃ ys,xs=v :: ys∧cK ok w ds ys:=by
 unfold cK at h;obtain ⟨x,ys,rfl,h1,h2⟩:=h;unfold RD RA at h1;exact ⟨ys,by rw [h1.1],h2⟩
theorem cK.v2 {ok:Nat→Prop} {w:World} {u v:Value} {xs:List Value} (h:cK ok w [.c (.v u),.c (.v v)] xs):xs=[u,v]:=by
 obtain ⟨ys,e1,h1⟩:=h.cv;rw [e1,h1.v1]
theorem cK.v3 {ok:Nat→Prop} {w:World} {t u v:Value} {xs:List Value} (h:cK ok w [.c (.v t),.c (.v u),.c (.v v)] xs):xs=[t,u,v]:=by
 obtain ⟨ys,e1,h1⟩:=h.cv;rw [e1,h1.v2]
theorem cK.Pa {ok:Nat→Prop} {w:World} {xs:List Value} (h:cK ok w [] xs):xs=[]:=by unfold cK at h;exact h
theorem RD.v {ok:Nat→Prop} {w:World} {v:Value} (h:v.oneCell'=true):RD ok w (.c (.v v)) v:=by unfold RD RA;exact ⟨rfl,h⟩
end Fl
open Go.RowKit
namespace Fl
open Sx
structure U where
 vG:Value
 pB:Value
 vR:Value
 vC:Value
 pL:Value
 pQ:Value
 vS:Value
 pP:Value
 bD:Nat
 vM:Value
 TB:List Nat
 TL:List Nat
 TQ:List Nat
 TP:List Nat
 TR:List Nat
 H:List Bool
 rs:Nat→Value
 sg:Nat→Value
 wk:Nat→Value
def gW (x:Gr) (v u:Value):List A :=
  [.r 6 (x.ops.map dH),nI x.at_,nI x.place,nI 0,bI false,nI x.call,bI x.bG,nI x.param,nI x.bh,nI x.hold,nI x.t,nI x.iy,nI x.bT,nI x.wi,nI x.dm,
   nI x.res.code,nI x.res.cs,nI x.res.v,bI x.res.ok,nI x.res.n,ints x.order,ints x.aB,.v v,.v u,nI x.k]
def dQ (u:U) (s:ah):List (List A):=(List.range s.gs.length).map fun g=>gW (aa s g) (u.sg g) (u.wk g)
def dW (s:ah):A:=.r 1 (s.di.map fun n=>[.v (.int .u16 n)])
def wW (u:U) (s:ah):List A :=
 [nI s.dx,nI s.bX,nI s.step,.v u.vG,.v u.pB,.v u.vR,.v u.vC,.v u.pL,.v u.pQ,.v u.vS,.v u.pP,.v (pt u.bD),dW s,.v u.vM]
def qW (s:ah):List (List Int):=(List.range 16).map fun k=>if k % 2=0 then (cn s ((k / 2:Nat) + 1)).recv else (cn s ((k / 2:Nat) + 1)).send
def dV (u:U) (s:ah):Po.St:=⟨s.cache,s.middle,s.fresh.toNat,u.H⟩
def kC (u:U) (s:ah):List (Value × Nat × List Int):=(List.range s.av.length).map fun i=>(u.rs i,(cn s (i + 1)).cap.toNat,(cn s (i + 1)).buf)
def eE (u:U) (s:ah):List aj:=((List.range s.gs.length).map fun g=>.row (u.sg g) 3 1 (aF (aa s g).aq)) ++ ((List.range s.gs.length).map fun g=>.row (u.wk g) 3 1 (aF (aa s g).au))
@[reducible] def wd (b:Nat) (u:U) (s:ah):List aj :=
 .box b 68 (wW u s) ::
 .row u.vG 47 25 (dQ u s) ::
 .row u.vR 106 1 ((List.range s.av.length).map fun i=>[.v (u.rs i)]) ::
 .row u.vC 4 1 (s.av.map fun c=>[bI c.closed]) ::
 .row u.vS 52 7 (s.aA.map eS) ::
 .row u.vM 54 13 (s.done.map eM) ::
 .box u.bD 130 [dW s,nI s.drawn] ::
 aM (tB u.pB (s.gs.map fun x=>(x.status,x.token))) u.TB ::
 aM (tL u.pL (s.av.map (·.lock))) u.TL ::
 aM (tQ u.pQ s.aA.length (qW s)) u.TQ ::
 aM (tP u.pP s.dx.toNat s.bX.toNat (dV u s)) u.TP ::
 aM (tR (kC u s)) u.TR :: eE u s
section
variable {P:Program} {c:Cx} {k:List Item} {f:Fm} {L L2:List aj}
end
section
variable {P:Program} {c:Cx} {k:List Item} {f:Fm} {L L2:List aj}
theorem Since.jb {T:List Nat} {L0 L:List aj} {r:aj} {i:Nat} [bx:tZ L0 r i] (ht:T.contains i=true):Since T L0 L r.cA:=.there bx.h ht
theorem J.Pb {j:Nat} (e sz:Nat) {q:aj} (hj:L[j]?=some q) (h:J P c k f (L.set j (.row (.slice none 0 0) e sz []))):J P c k f L :=
 J.drop j (J.mg e sz (J.perm (set_perm hj) h))
end
theorem vQ (u:U) (s:ah):(dQ u s).length=s.gs.length:=by simp [dQ]
theorem D7 {u:U} {s:ah} {g:Nat} (hg:g < s.gs.length):(dQ u s)[g]?=some (gW (aa s g) (u.sg g) (u.wk g)):=by
 unfold dQ;rw [List.getElem?_map,List.getElem?_range hg];rfl
theorem AO {u u':U} {s:ah} {g:Nat} {x:Gr} {v w:Value} (hg:g < s.gs.length) (e1:u'.sg g=v∧u'.wk g=w) (e2:∀ k,k≠g→u'.sg k=u.sg k∧u'.wk k=u.wk k):(dQ u s).set g (gW x v w)=dQ u' (ai s g x):=by
 unfold dQ;have hl:(ai s g x).gs.length=s.gs.length:=by simp [ai]
 rw [hl];refine vP hg ?_ fun k hk _=>?_
 ·rw [mV s g g x hg,if_pos rfl,e1.1,e1.2]
 ·rw [mV s g k x hg,if_neg hk,(e2 k hk).1,(e2 k hk).2]
theorem D8 {u:U} {s:ah} {g:Nat} {x:Gr} (hg:g < s.gs.length):(dQ u s).set g (gW x (u.sg g) (u.wk g))=dQ u (ai s g x):=AO hg ⟨rfl,rfl⟩ fun _ _=>⟨rfl,rfl⟩
theorem Io {s:ah} {g:Nat} {x:Gr} (hg:g < s.gs.length):((ai s g x).gs.map fun x=>(x.status,x.token))=(s.gs.map fun x=>(x.status,x.token)).set g (x.status,x.token):=by
 simp [ai,List.map_set]
theorem yD {s:ah} {g:Nat} {x:Gr} (hg:g < s.gs.length) (e:x.status=(aa s g).status∧x.token=(aa s g).token):((ai s g x).gs.map fun x=>(x.status,x.token))=(s.gs.map fun x=>(x.status,x.token)):=by
 rw [Io hg,e.1,e.2];have:(s.gs.map fun x=>(x.status,x.token))[g]?=some ((aa s g).status,(aa s g).token):=by
  rw [List.getElem?_map];unfold aa;rw [List.getD_eq_getElem?_getD,List.getElem?_eq_getElem hg];rfl
 exact List.ext_getElem? fun k=>by
  rw [List.getElem?_set]
  split
  ·rename_i c;subst c;rw [this];simp [hg]
  ·rfl
theorem vT {u:U} {s:ah} {g:Nat} (hg:g < s.gs.length):(eE u s)[g]?=some (.row (u.sg g) 3 1 (aF (aa s g).aq)):=by
 unfold eE;rw [List.getElem?_append_left (by simpa using hg),List.getElem?_map,List.getElem?_range hg];rfl
theorem vU {u:U} {s:ah} {g:Nat} (hg:g < s.gs.length):(eE u s)[s.gs.length + g]?=some (.row (u.wk g) 3 1 (aF (aa s g).au)):=by
 unfold eE;rw [List.getElem?_append_right (by simp),List.length_map,List.length_range,show s.gs.length + g - s.gs.length=g by omega,List.getElem?_map,List.getElem?_range hg];rfl
theorem Ip {u:U} {s:ah} {g:Nat} {x:Gr} (hg:g < s.gs.length) (e1:x.aq=(aa s g).aq) (e2:x.au=(aa s g).au):eE u (ai s g x)=eE u s:=by
 unfold eE;have hl:(ai s g x).gs.length=s.gs.length:=by simp [ai]
 rw [hl]
 congr 1
 ·refine List.map_congr_left fun k hk=>?_
  rw [mV s g k x hg];split
  ·rename_i c;subst c;rw [e1]
  ·rfl
 ·refine List.map_congr_left fun k hk=>?_
  rw [mV s g k x hg];split
  ·rename_i c;subst c;rw [e2]
  ·rfl
theorem Pc {u:U} {s:ah} {g:Nat} {x:Gr} {v:Value} (hg:g < s.gs.length) (e1:x.aq=(aa s g).aq):(eE u s).set (s.gs.length + g) (.row v 3 1 (aF x.au))=eE { u with wk:=fun k=>if k=g then v else u.wk k } (ai s g x):=by
 unfold eE;have hl:(ai s g x).gs.length=s.gs.length:=by simp [ai]
 rw [hl,List.set_append_right _ _ (by simp),List.length_map,List.length_range,show s.gs.length + g - s.gs.length=g by omega]
 congr 1
 ·refine List.map_congr_left fun k hk=>?_
  rw [mV s g k x hg];split
  ·rename_i c;subst c;rw [e1]
  ·rfl
 ·refine vP hg ?_ fun k hk _=>?_
  ·simp only [if_true];rw [mV s g g x hg,if_pos rfl]
  ·simp only [if_neg hk];rw [mV s g k x hg,if_neg hk]
theorem D9 {u:U} {s:ah} {g:Nat} {x:Gr} {v:Value} (hg:g < s.gs.length) (e1:x.au=(aa s g).au):(eE u s).set g (.row v 3 1 (aF x.aq))=eE { u with sg:=fun k=>if k=g then v else u.sg k } (ai s g x):=by
 unfold eE;have hl:(ai s g x).gs.length=s.gs.length:=by simp [ai]
 rw [hl,List.set_append_left _ _ (by simpa using hg)]
 congr 1
 ·refine vP hg ?_ fun k hk _=>?_
  ·simp only [if_true];rw [mV s g g x hg,if_pos rfl]
  ·simp only [if_neg hk];rw [mV s g k x hg,if_neg hk]
 ·refine List.map_congr_left fun k hk=>?_
  rw [mV s g k x hg];split
  ·rename_i c;subst c;rw [e1]
  ·rfl
end Fl
open Go.RowKit
namespace Fl
open Sx
set_option maxRecDepth 100000
theorem vV {u:U} {s:ah} {g:Nat} (hg:g < s.gs.length):(dQ u s)[((g:Int)).toNat]?=some (gW (aa s g) (u.sg g) (u.wk g)):=by rw [Int.toNat_natCast];exact D7 hg
section
variable {P:Program} {c:Cx} {f:Fm} {L:List aj} {T:TypeId} {ps:String} {af:Array Edge} {gd:Option (Nat × Bool)} {t:Nat}
theorem Qt.AP (i:Nat) {x:Operand} {X sz:Nat} {v:Value} {l:List (List A)} {e e' qN:Nat} [ie:fu P X e' qN] (h:bg f x=some (.c (.v v))) (hi:L[i]?=some (.row v e sz l)) {n:Nat} (hn:l.length=n):Qt P c [] ⟨t,.call ⟨.builtin .len,#[x],#[X]⟩,T,ps,af,gd⟩ f L (.c (nI n)):=by
 subst hn;haveI:fU L v e sz l i:=⟨hi⟩
 exact Qt.xx h
end
@[reducible] def wl (b:Nat) (u:U) (s:ah) (G:List (List A)) (B:List (Int × Bool)) (R:List aj):List aj :=
 .box b 68 (wW u s) ::
 .row u.vG 47 25 G ::
 .row u.vR 106 1 ((List.range s.av.length).map fun i=>[.v (u.rs i)]) ::
 .row u.vC 4 1 (s.av.map fun c=>[bI c.closed]) ::
 .row u.vS 52 7 (s.aA.map eS) ::
 .row u.vM 54 13 (s.done.map eM) ::
 .box u.bD 130 [dW s,nI s.drawn] ::
 aM (tB u.pB B) u.TB ::
 aM (tL u.pL (s.av.map (·.lock))) u.TL ::
 aM (tQ u.pQ s.aA.length (qW s)) u.TQ ::
 aM (tP u.pP s.dx.toNat s.bX.toNat (dV u s)) u.TP ::
 aM (tR (kC u s)) u.TR :: R
theorem Ea {b:Nat} {u:U} {s:ah} {g:Nat} (x:Gr) {G:List (List A)} (hg:g < s.gs.length) (hG:G=(dQ u s).set g (gW x (u.sg g) (u.wk g))) (e:x.status=(aa s g).status∧x.token=(aa s g).token:=by exact ⟨rfl,rfl⟩) (e1:x.aq=(aa s g).aq:=by rfl) (e2:x.au=(aa s g).au:=by rfl) :
  wd b u (ai s g x)=wl b u s G (s.gs.map fun x=>(x.status,x.token)) (eE u s):=by
 have h1:=D8 (u:=u) (x:=x) hg;have h2:=yD hg e;have h3:=Ip (u:=u) hg e1 e2
 show wl b u s (dQ u (ai s g x)) ((ai s g x).gs.map fun x=>(x.status,x.token)) (eE u (ai s g x))=_;rw [h2,h3,← h1,hG]
theorem Pd (b:Nat) (u:U) (s:ah) (ch:Int) :
  an Tryz.prog 120 [.c (.v (pt b)),.c (nI ch)] (wd b u s) (fun _:Unit=>(.c (bI (aT s ch)),wd b u s)):=by
 refine an.intro Tryz.func120 rfl rfl rfl (fun ok e=>?_);have hl:((List.range s.av.length).map fun i=>[A.v (u.rs i)]).length=s.av.length:=by simp
 cases h1:(decide (ch ≥ 1)) with
 | true =>
  have h2:(decide (ch≤(s.av.length:Int)))=aT s ch:=by unfold aT;simp at h1;simp [h1]
  repeat (first | (refine K.bi ?_;refine jq rfl rfl rfl (Qt.AP 2 rfl rfl hl) ?_) | refine gn ?_)
  (exact J.bN Tryz.func120 rfl (.cons (.tmp rfl) .nil) () (by exact .refl) rfl)
 | false =>
  repeat (refine gn ?_)
  have e1:aT s ch=false:=by unfold aT;simp at h1 ⊢;omega
  rw [e1]
  (exact J.bN Tryz.func120 rfl (.cons (.tmp rfl) .nil) () (by exact .refl) rfl)
theorem Iq (b:Nat) (u:U) (s:ah) (g:Nat) (hg:g < s.gs.length) :
  an Tryz.prog 118 [.c (.v (pt b)),.c (nI g)] (wd b u s) (fun _:Unit=>(.bp [],wd b u (Sx.au s g))):=by
 refine an.intro Tryz.func118 rfl rfl rfl (fun ok e=>?_);have OW:∀ x:Int,x=g→0≤x∧x < (dQ u s).length:=fun x hx=>by rw [vQ];omega
 repeat (first | (refine K.load ?_;((refine jq rfl rfl rfl (Qt.aL rfl ((vV hg)) (by exact rfl)) ?_))) | (refine K.indexAddr ?_;refine jq rfl rfl rfl (Qt.aI rfl rfl (OW _ rfl).1 (OW _ rfl).2) ?_) | (refine K.bi ?_;refine jq rfl rfl rfl (Qt.AP (s.gs.length + g + 12) rfl (vU hg) (c7 _)) ?_) | refine gn ?_)
 refine J.cond rfl (fun h=>?_) (fun h=>?_)
 ·have h3:Sx.au s g=Sx.aS s g 17:=by unfold Sx.au;rw [if_pos (by simpa using h)]
  rw [h3]
  repeat (first | (refine K.store ?_;refine JO.ld (Ld.bL rfl rfl (by exact rfl) ((vV hg))) rfl (fun _=>?_)) | (refine K.indexAddr ?_;refine jq rfl rfl rfl (Qt.aI rfl rfl (OW _ rfl).1 (OW _ rfl).2) ?_) | refine gn ?_)
  refine J.dN (Ea { aa s g with place:=17 } hg rfl) ?_
  (exact J.iV Tryz.func118 rfl .nil () (by exact .refl) rfl)
 ·have h3:Sx.au s g=Sx.aS s g 18:=by unfold Sx.au;rw [if_neg (by simpa using h)]
  rw [h3]
  repeat (first | (refine K.store ?_;refine JO.ld (Ld.bL rfl rfl (by exact rfl) ((vV hg))) rfl (fun _=>?_)) | (refine K.indexAddr ?_;refine jq rfl rfl rfl (Qt.aI rfl rfl (OW _ rfl).1 (OW _ rfl).2) ?_) | refine gn ?_)
  refine J.dN (Ea { aa s g with place:=18 } hg rfl) ?_
  (exact J.iV Tryz.func118 rfl .nil () (by exact .refl) rfl)
end Fl
open Go.RowKit
namespace Fl
open Sx
set_option maxRecDepth 100000
end Fl
open Go.RowKit
namespace Fl
open Sx
set_option maxRecDepth 100000
theorem Pe (l:List Int) (hl:l.length≤100000) :
  an Tryz.prog 46 [.c (mU l)] [] (fun b:Nat=>(.c (.v (pt b)),[.box b 130 [mU l,nI 0]])):=by
 refine an.intro Tryz.func46 rfl rfl rfl (fun ok e=>?_)
 repeat (first | (refine K.bi ?_;refine JO.ld (Ld.copy (qb rfl) rfl rfl ((by simp))) rfl (fun _=>?_)) | (refine K.make ?_;refine JO.ld (Ld.make (l.length) (qb rfl) rfl rfl (by (rfl)) (by omega)) rfl (fun _=>?_)) | refine ay ?_ | intro _)
 refine J.G3 3 12 0 rfl rfl rfl ?_
 (exact J.bN Tryz.func46 rfl (.cons (.tmp rfl) .nil) _ (by exact .refl) rfl)
theorem Pf (b:Nat) (l:List Int) (a:Int) :
  an Tryz.prog 55 [.c (.v (pt b))] [.box b 130 [mU l,nI a]] (fun _:Unit=>(.c (nI a),[.box b 130 [mU l,nI a]])):=by
 refine an.intro Tryz.func55 rfl rfl rfl (fun ok e=>?_)
 repeat (refine gn ?_)
 (exact J.bN Tryz.func55 rfl (.cons (.tmp rfl) .nil) () (by exact .refl) rfl)
theorem Ir (b:Nat) (l:List Int) (a:Int) (h0:0≤a) (h1:a≤l.length) (h2:l.length≤100000) :
  an Tryz.prog 105 [.c (.v (pt b))] [.box b 130 [mU l,nI a]] (fun _:Unit=>(.c (nI (l.length - a)),[.box b 130 [mU l,nI a]])):=by
 refine an.intro Tryz.func105 rfl rfl rfl (fun ok e=>?_);have w1:IntKind.i64.wrap ((l.length:Int) - a)=l.length - a:=dJ (by omega) (by omega)
 repeat (refine gn ?_)
 refine J.draw (by kernel_rfl) rfl ?_;refine JW.base none ?_;refine tk 0 ?_;refine tk 1 ?_;refine tk 2 ?_;refine tk 3 ?_;refine tk 4 ?_;refine tk 5 ?_;refine tk 6 ?_;refine tk 7 ?_;refine tk 8 ?_;refine JD.take 9 rfl rfl (by kernel_rfl) rfl (qb rfl) (Qt.cJ rfl rfl rfl w1) rfl ?_;refine tk 10 ?_;refine bE ?_
 repeat (fail)
 (exact J.bN Tryz.func105 rfl (.cons (.tmp rfl) .nil) () (by exact .refl) rfl)
theorem Pg (b:Nat) (l:List Int) (n:Int) (h0:0≤n) (h1:n≤l.length) (h2:l.length≤100000) :
  an Tryz.prog 49 [.c (.v (pt b)),.c (nI n)] [.box b 130 [mU l,nI 0]] (fun _:Unit=>(.bp [],[.box b 130 [mU l,nI n]])):=by
 refine an.intro Tryz.func49 rfl rfl rfl (fun ok e=>?_);have c1:(decide (n < 0))=false:=decide_eq_false (by omega);have m1:(if (l.length:Int) - 0 < n then (l.length:Int) - 0 else n)=n:=by rw [if_neg (by omega)]
 have w1:IntKind.i64.wrap (0 + n)=n:=by rw [dJ (by omega) (by omega),Int.zero_add]
 repeat (refine gn ?_)
 refine J.draw (by kernel_rfl) rfl ?_;refine JW.iZ [0] (some 11) ?_;refine tk 0 ?_;refine tk 1 ?_;refine tk 2 ?_;refine tk 4 ?_;refine tk 5 ?_;refine JD.cU (i:=3) (j:=6) (by kernel_rfl) ?_ ?_
 (refine JS.q rfl rfl rfl (qb rfl) (Qt.hJ rfl (by exact rfl)) ?_)
 refine jl 6 rfl rfl rfl rfl (Ld.fY (Ir b l 0 (by omega) (by omega) h2) (qb rfl) rfl (.cons .refl .nil)) (.lA rfl) (fun _=>?_);refine jk 7 rfl rfl rfl rfl (Qt.min rfl rfl m1) ?_;refine jk 8 rfl rfl rfl rfl (Qt.cJ rfl rfl rfl w1) ?_;refine jk 9 rfl rfl rfl rfl (Qt.nilCheck rfl rfl) ?_;refine jk 10 rfl rfl rfl rfl (Qt.fieldAddr rfl rfl) ?_;refine jt 11 rfl rfl (Ld.cY rfl rfl (by exact rfl)) (fun _=>?_);refine bR ?_
 rotate_left
 refine JS.bZ rfl rfl rfl (qb rfl) (Ld.fY (Ir b l 0 (by omega) (by omega) h2) (qb rfl) rfl (.cons .refl .nil)) (.lA rfl) (fun _=>?_);refine JD.lB ?_;refine JD.take 7 rfl rfl (by kernel_rfl) rfl (qb rfl) (Qt.min rfl rfl m1) rfl ?_;refine jk 3 rfl rfl rfl rfl (Qt.hJ rfl (by exact rfl)) ?_;refine jk 8 rfl rfl rfl rfl (Qt.cJ rfl rfl rfl w1) ?_;refine jk 9 rfl rfl rfl rfl (Qt.nilCheck rfl rfl) ?_;refine jk 10 rfl rfl rfl rfl (Qt.fieldAddr rfl rfl) ?_;refine jt 11 rfl rfl (Ld.cY rfl rfl (by exact rfl)) (fun _=>?_);refine bR ?_
 rotate_left
 all_goals
  repeat (fail)
  (exact J.iV Tryz.func49 rfl .nil () (by exact .refl) rfl)
end Fl
open Go.RowKit
namespace Fl
open Sx
set_option maxRecDepth 100000
def rA (p:List (List Pn.Op)):A:=.r 1 (p.map fun ops=>[.r 6 (ops.map dH)])
theorem It (p:List (List Pn.Op)) (h1:p.length≤1000) (h2:∀ ops∈p,ops.length≤100000∧∀ o∈ops,o.cases.length≤1000) :
  Pure Tryz.prog 102 [.c (rA p)] (.c (rA p)):=by
 refine an.intro Tryz.func102 rfl rfl rfl (fun ok e=>?_)
 repeat (first | (refine K.make ?_;refine JO.ld (Ld.Dv (p.length) (qb rfl) rfl rfl (by (rfl)) (by omega)) rfl (fun _=>?_)) | refine gn ?_)
 refine J.loop (ι:={ q:Nat × Value // q.1≤p.length }) (fun q=>[(12,.c (rA p)),(13,.c (nI p.length)),(14,.c (nI q.1.1)),(3,.c (.v q.1.2))]) (fun q=>[.row q.1.2 43 1 ((p.take q.1.1).map fun ops=>[.r 6 (ops.map dH)])]) (fun q=>p.length - q.1.1) ⟨(0,_),Nat.zero_le _⟩ (fun X h=>h.aW ⟨rfl,rfl,rfl,rfl,trivial⟩) (fun q ih=>?_);obtain ⟨⟨k,v⟩,hk⟩:=q;simp only at hk ih ⊢
 by_cases bF:k < p.length
 ·have t1:(decide ((k:Int) < (p.length:Int)))=true:=by simpa using bF
  obtain ⟨ops,ho⟩:∃ ops,p[k]?=some ops:=⟨_,List.getElem?_eq_getElem bF⟩
  have J1:(p.map fun ops=>[A.r 6 (ops.map dH)])[((k:Int)).toNat]?=some [A.r 6 (ops.map dH)]:=by rw [Int.toNat_natCast,List.getElem?_map,ho];rfl
  obtain ⟨m1,m2⟩:=h2 ops (List.mem_of_getElem? ho)
  repeat (refine gn ?_)
  refine J.mg 50 6 ?_;refine J.loop (ι:={ q:Nat × Value // q.1≤ops.length }) (fun q=>[(18,.c (.r 6 (ops.map dH))),(19,.c (nI ops.length)),(20,.c (nI q.1.1)),(6,.c (.v q.1.2)),(12,.c (rA p)),(13,.c (nI p.length)),(14,.c (nI k)),(3,.c (.v v))]) (fun q=>[.row q.1.2 50 6 ((ops.take q.1.1).map dH),.row v 43 1 ((p.take k).map fun ops=>[.r 6 (ops.map dH)])]) (fun q=>ops.length - q.1.1) ⟨(0,.slice none 0 0),Nat.zero_le _⟩ (fun X h=>h.aW ⟨rfl,rfl,rfl,rfl,rfl,rfl,rfl,rfl,trivial⟩) (fun q fP=>?_);obtain ⟨⟨j,u⟩,hj⟩:=q;simp only at hj fP ⊢
  by_cases ff:j < ops.length
  ·have t2:(decide ((j:Int) < (ops.length:Int)))=true:=by simpa using ff
   obtain ⟨o,yE⟩:∃ o,ops[j]?=some o:=⟨_,List.getElem?_eq_getElem ff⟩
   have J2:(ops.map dH)[((j:Int)).toNat]?=some (dH o):=by rw [Int.toNat_natCast,List.getElem?_map,yE];rfl
   have m3:=m2 o (List.mem_of_getElem? yE)
   repeat (first | (refine K.bi ?_;first | refine JO.ld (Ld.iI (qb rfl) rfl rfl .read (by (simp;omega))) rfl (fun _=>?_) | ((refine JO.ld (Ld.cy (qb rfl) rfl rfl .dj (by (simp;omega))) rfl (fun _=>?_)))) | refine ay ?_ | intro _)
   refine J.cS 1 ?_;refine J.cS 1 ?_;refine J.dN ?_ ((fP ⟨(j + 1,_),by simp only;omega⟩ (by simp only;omega)).aW ⟨rfl,rfl,rfl,rfl,rfl,rfl,rfl,rfl,trivial⟩);rw [List.take_add_one,yE,List.map_append];rfl
  ·have t2:(decide ((j:Int) < (ops.length:Int)))=false:=by simpa using ff
   obtain rfl:j=ops.length:=by omega
   refine J.ji 6 rfl ?_
   repeat (first | (refine K.bi ?_;refine JO.ld (Ld.cy (qb rfl) rfl rfl .dj (by (simp;omega))) rfl (fun _=>?_)) | refine ay ?_ | intro _)
   refine J.cS 1 ?_;refine J.dN ?_ ((ih ⟨(k + 1,_),by simp only;omega⟩ (by simp only;omega)).aW ⟨rfl,rfl,rfl,rfl,trivial⟩);rw [List.take_add_one,ho,List.map_append,List.take_of_length_le (Nat.le_refl _)];rfl
 ·have t1:(decide ((k:Int) < (p.length:Int)))=false:=by simpa using bF
  obtain rfl:k=p.length:=by omega
  rw [List.take_of_length_le (Nat.le_refl _)]
  repeat (refine gn ?_)
  refine J.ji 2 rfl ?_;exact aD Tryz.func102
theorem Ph (L:List aj) (x:Gr) (v w:Value) {i j:Nat} (hi:L[i]?=some (.row v 3 1 (aF x.aq))) (hj:L[j]?=some (.row w 3 1 (aF x.au)))
  (b1:x.ops.length≤100000) (b2:∀ o∈x.ops,o.cases.length≤1000) (b3:x.order.length≤1000) (b4:x.aB.length≤1000) (b5:x.aq.length≤1000) (b6:x.au.length≤1000) :
  an Tryz.prog 51 [.agg (gW x v w)] L (fun _:Unit=>(.agg (eG { x with status:=0,token:=false }),L)):=by
 have C1:=It [x.ops] (by simp) (by intro ops ho;obtain rfl:=List.mem_singleton.1 ho;exact ⟨b1,b2⟩);haveI uU:fU L v 3 1 (aF x.aq) i:=⟨hi⟩
 haveI rB:fU L w 3 1 (aF x.au) j:=⟨hj⟩
 refine an.intro Tryz.func51 rfl rfl rfl (fun ok e=>?_);have l5:(aF x.aq).length=x.aq.length:=c7 _;have l6:(aF x.au).length=x.au.length:=c7 _
 repeat (first | (refine K.indexAddr ?_;refine jx rfl rfl rfl rfl (by omega) (rfl) ?_) | refine aX (C1) ?_ | (refine K.lit ?_;refine JO.ld (Ld.jS (qb rfl) rfl rfl rfl rfl rfl) rfl (fun _=>?_)) | (refine K.bi ?_;first | refine JO.ld (Ld.iI (qb rfl) rfl rfl .read (by (simp;omega))) rfl (fun _=>?_) | refine JO.ld (Ld.iI (qb rfl) rfl rfl .dj (by (omega))) rfl (fun _=>?_)) | refine ay ?_ | intro _)
 (exact J.fC [_,_] rfl Tryz.func51 rfl (.cons (.cell 0 rfl rfl rfl) .nil) () la rfl)
end Fl
open Go.RowKit
namespace Fl
open Sx
set_option maxRecDepth 100000
structure Fw (s:ah):Prop where
 gs:s.gs.length≤8
 ch:s.av.length≤8
 su:s.aA.length≤64
 dn:s.done.length≤100000
 dr:s.di.length≤100000
 cl:s.cache.length=s.gs.length
 cb:∀ l∈s.cache,l.length≤1000
 mb:s.middle.length≤1000
 fr:0≤s.fresh
 cp:∀ c∈s.av,0≤c.cap
 op:∀ x∈s.gs,x.ops.length≤100000∧∀ o∈x.ops,o.cases.length≤1000
 Iu:∀ x∈s.gs,x.order.length≤1000∧x.aB.length≤1000∧x.aq.length≤1000∧x.au.length≤1000
theorem Iv (ch:Int) (h0:0≤ch) (h1:ch≤100000):Pure Tryz.prog 63 [.c (nI ch)] (.c (nI (2 * ch - 2))):=by
 refine an.intro Tryz.func63 rfl rfl rfl (fun ok e=>?_)
 repeat (refine gn ?_)
 exact aD Tryz.func63
theorem Iw (ch:Int) (h0:0≤ch) (h1:ch≤100000):Pure Tryz.prog 64 [.c (nI ch)] (.c (nI (2 * ch - 1))):=by
 refine an.intro Tryz.func64 rfl rfl rfl (fun ok e=>?_)
 repeat (refine gn ?_)
 exact aD Tryz.func64
theorem Eb {s:ah} {k:Nat} (hk:k < s.gs.length):Bc.status (s.gs.map fun x=>(x.status,x.token)) (k:Int)=(aa s k).status:=by
 have h:(aa s k)=s.gs[k]:=by unfold aa;rw [List.getD_eq_getElem?_getD,List.getElem?_eq_getElem hk];rfl
 unfold Bc.status Bc.has Bc.mem;simp [hk,h]
theorem Pj {s:ah} {k:Nat} (hk:k < s.gs.length):Bc.token (s.gs.map fun x=>(x.status,x.token)) (k:Int)=(aa s k).token:=by
 have h:(aa s k)=s.gs[k]:=by unfold aa;rw [List.getD_eq_getElem?_getD,List.getElem?_eq_getElem hk];rfl
 unfold Bc.token Bc.has Bc.mem;simp [hk,h]
theorem mY {s:ah} {k:Nat} (hk:k < s.av.length):s.av[k]?=some (cn s ((k:Int) + 1)):=by
 unfold cn;rw [show ((k:Int) + 1 - 1).toNat=k by omega,List.getD_eq_getElem?_getD,List.getElem?_eq_getElem hk];rfl
theorem Pk {s:ah} {k:Nat} (hk:k < s.av.length):Lt.owner (s.av.map (·.lock)) (k:Int)=(cn s ((k:Int) + 1)).lock:=by
 have h:=mY hk;unfold Lt.owner Lt.has;rw [List.getElem?_eq_getElem hk] at h;simp at h;simp [hk,h]
theorem um {u:U} {s:ah} {k:Nat} (hk:k < s.av.length):(kC u s)[k]?=some (u.rs k,(cn s ((k:Int) + 1)).cap.toNat,(cn s ((k:Int) + 1)).buf):=by
 unfold kC;rw [List.getElem?_map,List.getElem?_range hk];rfl
theorem Ec {s:ah} {k:Nat} (hk:k < 8):Qu.row (qW s) (2 * ((k:Int) + 1) - 2)=(cn s ((k:Int) + 1)).recv:=by
 have e:2 * ((k:Int) + 1) - 2=((2 * k:Nat):Int):=by omega
 have l:(qW s).length=16:=by simp [qW]
 unfold Qu.row Qu.line;rw [e,l,if_pos (by simp;omega),Int.toNat_natCast];unfold qW;rw [List.getD_eq_getElem?_getD,List.getElem?_map,List.getElem?_range (by omega)];simp
theorem Ed {s:ah} {k:Nat} (hk:k < 8):Qu.row (qW s) (2 * ((k:Int) + 1) - 1)=(cn s ((k:Int) + 1)).send:=by
 have e:2 * ((k:Int) + 1) - 1=((2 * k + 1:Nat):Int):=by omega
 have l:(qW s).length=16:=by simp [qW]
 unfold Qu.row Qu.line;rw [e,l,if_pos (by simp;omega),Int.toNat_natCast];unfold qW;rw [List.getD_eq_getElem?_getD,List.getElem?_map,List.getElem?_range (by omega)];have h1:(2 * (k:Int) + 1) / 2=k:=by omega
 simp [h1]
theorem Pm {s:ah} {k:Nat} (hk:k < s.cache.length):s.cache[k]?=some (Po.cache s.cache (k:Int)):=by
 unfold Po.cache Po.lC;simp [hk]
def Ee (s:ah) (g c k:A):List A:=[nI s.dx,nI s.bX,nI s.step,g,c,.r 7 (s.aA.map eS),k,ints s.middle,nI s.fresh,mU s.di,nI s.drawn,.r 13 (s.done.map eM)]
theorem AQ (b:Nat) (u:U) (s:ah) (F:Fw s) :
  an Tryz.prog 15 [.c (.v (pt b))] (wd b u s) (fun _:Unit=>(.agg (aC s),wd b u s)):=by
 have f1:=F.su;have f2:=F.dn;have f3:=F.dr;have f4:=F.fr;have z:((s.fresh.toNat:Nat):Int)=s.fresh:=by omega
 have CM:=O4 u.pP s.dx.toNat s.bX.toNat (dV u s) u.TP F.mb;have CF:=O5 u.pP s.dx.toNat s.bX.toNat (dV u s) u.TP;rw [show (((dV u s).f:Nat):Int)=s.fresh from z] at CF;have CD:an Tryz.prog 55 [.c (.v (pt u.bD))] [.box u.bD 130 [dW s,nI s.drawn]] (fun _:Unit=>(.c (nI s.drawn),[.box u.bD 130 [dW s,nI s.drawn]])):=Pf u.bD s.di s.drawn;refine an.intro Tryz.func15 rfl rfl rfl (fun ok e=>?_)
 repeat (first | refine J.seq ?_ | (refine J.region ?_;refine JO.alloc rfl (qb rfl) ?_;intro b2;refine JO.nil ?_))
 refine J.join (ι:=Nat) (fun b3=>[(3,.c (.v (pt b3))),(2,.c (.v (pt b2))),(0,.c (.v (pt b)))]) (fun b3=>.box b3 36 (Ee s (.v (.slice none 0 0)) (.v (.slice none 0 0)) (.v (.slice none 0 0))) :: .box b2 36 ri :: wd b u s) (fun b3=>?rest) (fun rest=>?_)
 case rest =>
  repeat (first | (refine K.bi ?_;refine jq rfl rfl rfl (Qt.AP 3 rfl rfl (vQ u s)) ?_) | refine gn ?_)
  refine J.mg 47 25 ?_;refine J.mg 28 1 ?_;refine J.loop (ι:={ q:Nat × Value × Value // q.1≤s.gs.length }) (fun q=>[(52,.c (nI q.1.1)),(51,.c (nI s.gs.length)),(50,.c (.v u.vG)),(3,.c (.v (pt b3))),(2,.c (.v (pt b2))),(0,.c (.v (pt b)))]) (fun q=>.row q.1.2.1 28 1 ((s.cache.take q.1.1).map fun l=>[ints l]) :: .row q.1.2.2 47 25 ((s.gs.take q.1.1).map eG) :: .box b3 36 (Ee s (.v q.1.2.2) (.v (.slice none 0 0)) (.v q.1.2.1)) :: .box b2 36 ri :: wd b u s) (fun q=>s.gs.length - q.1.1) ⟨(0,.slice none 0 0,.slice none 0 0),Nat.zero_le _⟩ (fun X h=>h.aW ⟨rfl,rfl,rfl,rfl,rfl,rfl,trivial⟩) (fun q ih=>?_);obtain ⟨⟨k,vc,vg⟩,hk⟩:=q;simp only at hk ih ⊢
  by_cases bF:k < s.gs.length
  ·have t1:(decide ((k:Int) < (s.gs.length:Int)))=true:=by simpa using bF
   have OW:∀ x:Int,x=k→0≤x∧x < (dQ u s).length:=fun x hx=>by rw [vQ];omega
   have hx:s.gs[k]?=some (aa s k):=by unfold aa;rw [List.getD_eq_getElem?_getD,List.getElem?_eq_getElem bF];rfl
   have hm:=List.mem_of_getElem? hx;have BS:=Ou u.pB (s.gs.map fun x=>(x.status,x.token)) u.TB (k:Int);have BT:=Ov u.pB (s.gs.map fun x=>(x.status,x.token)) u.TB (k:Int);rw [Eb bF] at BS;rw [Pj bF] at BT;have CC:=O6 u.pP s.dx.toNat s.bX.toNat (dV u s) u.TP k (by show k < s.cache.length;rw [F.cl];omega) F.cb;obtain ⟨o1,o2⟩:=F.op _ hm;obtain ⟨o3,o4,o5,o6⟩:=F.Iu _ hm;have cF:(s.cache.take k).length=k:=by rw [List.length_take,F.cl];omega
   have CK:(s.gs.take k).length=k:=by rw [List.length_take];omega
   have g8:=F.gs
   repeat (first | (refine K.load ?_;((refine jq rfl rfl rfl (Qt.C8 rfl ((vV bF)) (by exact rfl)) ?_))) | (refine K.store ?_;refine JO.ld (Ld.bq rfl rfl rfl (by exact rfl) (by exact rfl)) rfl (fun _=>?_)) | (refine K.indexAddr ?_;refine jq rfl rfl rfl (Qt.aI rfl rfl (OW _ rfl).1 (OW _ rfl).2) ?_) | (refine K.call ?_;refine JO.ld (Ld.fj (Ph _ (aa s k) (u.sg k) (u.wk k) (i:=k + 17) (j:=s.gs.length + k + 17) (vT bF) (vU bF) o1 o2 o3 o4 o5 o6) (qb rfl) rfl (aJ.cons .refl .nil)) rfl ?_;intro _) | refine ay ?_ | intro _)
   refine J.draw (by kernel_rfl) rfl ?_;refine JW.iZ [12] (some 13) ?_;refine tk 0 ?_;refine tk 1 ?_;refine tk 2 ?_;refine tk 3 ?_;refine tk 4 ?_;refine JD.bz 6 rfl rfl (by kernel_rfl) rfl (qb rfl) (Qt.move rfl) rfl ?_;refine JD.bz 7 rfl rfl (by kernel_rfl) rfl (qb rfl) (Qt.nilCheck rfl rfl) rfl ?_;refine JD.bz 8 rfl rfl (by kernel_rfl) rfl (qb rfl) (Qt.fieldAddr rfl rfl) rfl ?_
   (refine JD.bz 9 rfl rfl (by kernel_rfl) rfl (qb rfl) (Qt.hJ rfl (by exact rfl)) rfl ?_)
   refine JD.bz 10 rfl rfl (by kernel_rfl) rfl (qb rfl) (Qt.move rfl) rfl ?_;refine jl 5 rfl rfl rfl rfl (Ld.fY BS (qb rfl) rfl (.cons .refl (.cons .refl .nil))) (.jb rfl) (fun _=>?_);refine tk 12 ?_;refine jl 11 rfl rfl rfl rfl (Ld.fY BT (qb rfl) rfl (.cons .refl (.cons .refl .nil))) (.jb rfl) (fun _=>?_);refine jt 13 rfl rfl (Ld.cY rfl rfl (by exact rfl)) (fun _=>?_);refine JW.iZ [12] (some 15) ?_;refine jk 14 rfl rfl rfl rfl (Qt.fieldAddr rfl rfl) ?_;refine jt 15 rfl rfl (Ld.cY rfl rfl (by exact rfl)) (fun _=>?_);refine bR ?_
   repeat (first | (refine K.store ?_;refine JO.ld (Ld.cY rfl rfl (by exact rfl)) rfl (fun _=>?_)) | (refine K.bi ?_;refine JO.ld (Ld.cy (qb rfl) rfl rfl .dj (by (simp;omega))) rfl (fun _=>?_)) | refine ay ?_ | intro _)
   refine J.cS 1 ?_;refine J.cS 1 ?_;refine J.draw (by kernel_rfl) rfl ?_;refine JW.iZ [14,1] (some 11) ?_;refine tk 0 ?_;refine tk 1 ?_;refine tk 2 ?_;refine tk 3 ?_;refine tk 4 ?_;refine tk 5 ?_;refine tk 6 ?_;refine jl 7 rfl rfl rfl rfl (Ld.fY CC (qb rfl) rfl (.cons .refl (.cons .refl .nil))) (.jb rfl) (fun _=>?_);refine jl 8 rfl rfl rfl rfl (Ld.jS (qb rfl) rfl rfl rfl rfl rfl) .none (fun _=>?_);refine jl 9 rfl rfl rfl rfl (Ld.cy (qb rfl) rfl rfl .read (by (simp;omega))) (.pW rfl) (fun _=>?_);refine jk 10 rfl rfl rfl rfl (Qt.fieldAddr rfl rfl) ?_;refine jt 11 rfl rfl (Ld.cY rfl rfl (by exact rfl)) (fun _=>?_);refine bR ?_
   repeat (refine gn ?_)
   rename_i Ef _ _ _ Eg _;refine J.dN ?_ ((ih ⟨(k + 1,Eg,Ef),by simp only;omega⟩ (by simp only;omega)).aW ⟨rfl,rfl,rfl,rfl,rfl,rfl,trivial⟩);have cQ:=Pm (s:=s) (k:=k) (by rw [F.cl];exact bF);rw [List.take_add_one,List.take_add_one,hx,cQ,List.map_append,List.map_append];rfl
  ·have t1:(decide ((k:Int) < (s.gs.length:Int)))=false:=by simpa using bF
   obtain rfl:k=s.gs.length:=by omega
   refine J.mT 0 2 6 rfl rfl rfl ?_;refine J.mT 0 1 3 rfl rfl rfl ?_
   repeat (first | (refine K.bi ?_;refine jq rfl rfl rfl (Qt.AP 4 (n:=s.av.length) rfl rfl (by simp)) ?_) | refine gn ?_)
   refine J.mg 59 6 ?_;rw [List.take_of_length_le (by rw [F.cl];exact Nat.le_refl _),List.take_of_length_le (Nat.le_refl _)];refine J.loop (ι:={ q:Nat × Value // q.1≤s.av.length }) (fun q=>[(96,.c (nI q.1.1)),(95,.c (nI s.av.length)),(94,.c (.v u.vR)),(3,.c (.v (pt b3))),(2,.c (.v (pt b2))),(0,.c (.v (pt b)))]) (fun q=>.row q.1.2 59 6 ((s.av.take q.1.1).map eC) :: .box b3 36 (Ee s (.r 25 (s.gs.map eG)) (.v q.1.2) (.r 1 (s.cache.map fun l=>[ints l]))) :: .box b2 36 ri :: wd b u s) (fun q=>s.av.length - q.1.1) ⟨(0,.slice none 0 0),Nat.zero_le _⟩ (fun X h=>h.aW ⟨rfl,rfl,rfl,rfl,rfl,rfl,trivial⟩) (fun q ih=>?_);obtain ⟨⟨k,vh⟩,hk⟩:=q;simp only at hk ih ⊢
   by_cases bF:k < s.av.length
   ·have t1:(decide ((k:Int) < (s.av.length:Int)))=true:=by simpa using bF
    have hx:=mY bF;have hm:=List.mem_of_getElem? hx;have c8:=F.ch;have AT:=F.cp _ hm;have cF:(s.av.take k).length=k:=by rw [List.length_take];omega
    have RR:=Ig (kC u s) u.TR (um (u:=u) bF);rw [show (((cn s ((k:Int) + 1)).cap.toNat:Nat):Int)=(cn s ((k:Int) + 1)).cap by omega] at RR;have RA:=OS (kC u s) u.TR (um (u:=u) bF);have LO:=NW u.pL (s.av.map (·.lock)) u.TL (k:Int);rw [Pk bF] at LO;have QR:=H8 u.pQ s.aA.length (qW s) u.TQ (2 * ((k:Int) + 1) - 2);rw [Ec (by omega)] at QR;have QS:=H8 u.pQ s.aA.length (qW s) u.TQ (2 * ((k:Int) + 1) - 1);rw [Ed (by omega)] at QS;have w1:IntKind.i64.wrap ((k:Int) + 1)=(k:Int) + 1:=dJ (by omega) (by omega);have OR:∀ x:Int,x=k→0≤x∧x < ((List.range s.av.length).map fun i=>[A.v (u.rs i)]).length:=fun x hx=>by simp;omega
    have OC:∀ x:Int,x=k→0≤x∧x < (s.av.map fun c=>[bI c.closed]).length:=fun x hx=>by simp;omega
    have AR:((List.range s.av.length).map fun i=>[A.v (u.rs i)])[((k:Int)).toNat]?=some [A.v (u.rs k)]:=by rw [Int.toNat_natCast,List.getElem?_map,List.getElem?_range bF];rfl
    have AC:(s.av.map fun c=>[bI c.closed])[((k:Int)).toNat]?=some [bI (cn s ((k:Int) + 1)).closed]:=by rw [Int.toNat_natCast,List.getElem?_map,hx];rfl
    repeat (first | (refine K.load ?_;refine jq rfl rfl rfl (Qt.aL rfl (AR) (by exact rfl)) ?_) | (refine K.indexAddr ?_;refine jq rfl rfl rfl (Qt.aI rfl rfl (OR _ rfl).1 (OR _ rfl).2) ?_) | refine gn ?_)
    refine J.draw (by kernel_rfl) rfl ?_;refine JW.iZ [0,11,12,14] (some 39) ?_;refine tk 0 ?_;refine tk 1 ?_;refine tk 2 ?_;refine tk 4 ?_;refine tk 6 ?_;refine tk 7 ?_;refine tk 8 ?_;refine tk 9 ?_;refine tk 10 ?_;refine JD.take 11 rfl rfl (by kernel_rfl) rfl (qb rfl) (Qt.aI rfl rfl (OC _ rfl).1 (OC _ rfl).2) rfl ?_;refine JD.take 12 rfl rfl (by kernel_rfl) rfl (qb rfl) (Qt.aL rfl AC rfl) rfl ?_;refine tk 13 ?_;refine tk 14 ?_;refine tk 15 ?_;refine tk 16 ?_;refine tk 17 ?_;refine tk 19 ?_;refine tk 20 ?_;refine tk 21 ?_;refine tk 22 ?_;refine tk 23 ?_;refine JD.take 24 rfl rfl (by kernel_rfl) rfl (qb rfl) (Qt.cJ rfl rfl rfl w1) rfl ?_;refine tk 27 ?_;refine tk 28 ?_;refine tk 29 ?_;refine tk 30 ?_;refine tk 31 ?_;refine JD.take 32 rfl rfl (by kernel_rfl) rfl (qb rfl) (Qt.cJ rfl rfl rfl w1) rfl ?_;refine jl 3 rfl rfl rfl rfl (Ld.fY RR (qb rfl) rfl (.cons .refl .nil)) (.jb rfl) (fun _=>?_);refine jl 5 rfl rfl rfl rfl (Ld.fY RA (qb rfl) rfl (.cons .refl .nil)) (.jb rfl) (fun _=>?_);refine jl 18 rfl rfl rfl rfl (Ld.fY LO (qb rfl) rfl (.cons .refl (.cons .refl .nil))) (.jb rfl) (fun _=>?_);refine jl 25 rfl rfl rfl rfl (Ld.pure (Iv ((k:Int) + 1) (by omega) (by omega)) (qb rfl) rfl lq) .none (fun _=>?_);refine jl 26 rfl rfl rfl rfl (Ld.fY QR (qb rfl) rfl (.cons .refl (.cons .refl .nil))) (.jb rfl) (fun _=>?_);refine jl 33 rfl rfl rfl rfl (Ld.pure (Iw ((k:Int) + 1) (by omega) (by omega)) (qb rfl) rfl lq) .none (fun _=>?_);refine jl 34 rfl rfl rfl rfl (Ld.fY QS (qb rfl) rfl (.cons .refl (.cons .refl .nil))) (.jb rfl) (fun _=>?_);refine jk 35 rfl rfl rfl rfl (Qt.build rfl (by kernel_rfl)) ?_;refine jl 36 rfl rfl rfl rfl (Ld.jS (qb rfl) rfl rfl rfl rfl rfl) .none (fun _=>?_);refine jl 37 rfl rfl rfl rfl (Ld.cy (qb rfl) rfl rfl .read (by (simp;omega))) (.pW rfl) (fun _=>?_);refine jk 38 rfl rfl rfl rfl (Qt.fieldAddr rfl rfl) ?_;refine jt 39 rfl rfl (Ld.cY rfl rfl (by exact rfl)) (fun _=>?_);refine bR ?_
    repeat (refine gn ?_)
    rename_i Pp _;refine J.dN ?_ ((ih ⟨(k + 1,Pp),by simp only;omega⟩ (by simp only;omega)).aW ⟨rfl,rfl,rfl,rfl,rfl,rfl,trivial⟩);rw [List.take_add_one,hx,List.map_append];rfl
   ·have t1:(decide ((k:Int) < (s.av.length:Int)))=false:=by simpa using bF
    obtain rfl:k=s.av.length:=by omega
    rw [List.take_of_length_le (Nat.le_refl _)];refine J.mT 0 1 4 rfl rfl rfl ?_
    repeat (first | (refine K.store ?_;refine JO.ld (Ld.bq rfl rfl rfl (by exact rfl) (by exact rfl)) rfl (fun _=>?_)) | refine gn ?_)
    (exact J.fC [_,_] rfl Tryz.func15 rfl (.cons (.cell 1 rfl rfl rfl) .nil) () la rfl)
 refine J.draw (by kernel_rfl) rfl ?_;refine JW.iZ [11,7] (some 40) ?_;refine tk 0 ?_;refine tk 1 ?_;refine tk 2 ?_;refine tk 3 ?_;refine tk 4 ?_;refine tk 5 ?_;refine tk 6 ?_;refine tk 7 ?_;refine tk 8 ?_;refine tk 9 ?_;refine tk 10 ?_;refine tk 11 ?_;refine tk 13 ?_;refine tk 14 ?_;refine tk 15 ?_;refine tk 16 ?_;refine tk 18 ?_;refine tk 19 ?_;refine tk 20 ?_;refine tk 21 ?_;refine tk 23 ?_;refine tk 24 ?_;refine tk 25 ?_;refine tk 26 ?_;refine tk 28 ?_;refine tk 29 ?_;refine tk 30 ?_;refine tk 31 ?_;refine tk 33 ?_;refine tk 34 ?_;refine tk 35 ?_;refine tk 36 ?_;refine JD.cU (i:=12) (j:=39) (by kernel_rfl) ?_ ?_;refine JS.bZ rfl rfl rfl (qb rfl) (Ld.iI (qb rfl) rfl rfl .dj (by (simp;omega))) .none (fun _=>?_);refine JD.cU (i:=17) (j:=39) (by kernel_rfl) ?_ ?_;refine JS.bZ rfl rfl rfl (qb rfl) (Ld.fY CM (qb rfl) rfl (.cons .refl .nil)) (.jb rfl) (fun _=>?_);refine JD.cU (i:=22) (j:=39) (by kernel_rfl) ?_ ?_;refine JS.bZ rfl rfl rfl (qb rfl) (Ld.fY CF (qb rfl) rfl (.cons .refl .nil)) (.jb rfl) (fun _=>?_);refine JD.cU (i:=27) (j:=39) (by kernel_rfl) ?_ ?_;refine JS.bZ rfl rfl rfl (qb rfl) (Ld.iI (qb rfl) rfl rfl .read (by (simp;omega))) .none (fun _=>?_);refine JD.cU (i:=32) (j:=39) (by kernel_rfl) ?_ ?_;refine JS.bZ rfl rfl rfl (qb rfl) (Ld.fY CD (qb rfl) rfl (.cons .refl .nil)) (.lA rfl) (fun _=>?_);refine JD.cU (i:=37) (j:=39) (by kernel_rfl) ?_ ?_;refine JS.bZ rfl rfl rfl (qb rfl) (Ld.iI (qb rfl) rfl rfl .dj (by (simp;omega))) .none (fun _=>?_);refine JD.lB ?_;refine tk 38 ?_;refine jl 39 rfl rfl rfl rfl (Ld.alloc (qb rfl)) .none (fun _=>?_);refine jt 40 rfl rfl (Ld.bq rfl rfl rfl (by exact rfl) (by exact rfl)) (fun _=>?_);refine bR ?_
 rotate_left
 refine JS.bZ rfl rfl rfl (qb rfl) (Ld.alloc (qb rfl)) .none (fun _=>?_);refine jl 37 rfl rfl rfl rfl (Ld.iI (qb rfl) rfl rfl .dj (by (simp;omega))) .none (fun _=>?_);refine jk 38 rfl rfl rfl rfl (Qt.build rfl (by kernel_rfl)) ?_;refine jt 40 rfl rfl (Ld.bq rfl rfl rfl (by exact rfl) (by exact rfl)) (fun _=>?_);refine bR ?_
 rotate_left
 refine JS.bZ rfl rfl rfl (qb rfl) (Ld.alloc (qb rfl)) .none (fun _=>?_);refine jl 32 rfl rfl rfl rfl (Ld.fY CD (qb rfl) rfl (.cons .refl .nil)) (.lA rfl) (fun _=>?_);refine jl 37 rfl rfl rfl rfl (Ld.iI (qb rfl) rfl rfl .dj (by (simp;omega))) .none (fun _=>?_);refine jk 38 rfl rfl rfl rfl (Qt.build rfl (by kernel_rfl)) ?_;refine jt 40 rfl rfl (Ld.bq rfl rfl rfl (by exact rfl) (by exact rfl)) (fun _=>?_);refine bR ?_
 rotate_left
 refine JS.bZ rfl rfl rfl (qb rfl) (Ld.alloc (qb rfl)) .none (fun _=>?_);refine jl 27 rfl rfl rfl rfl (Ld.iI (qb rfl) rfl rfl .read (by (simp;omega))) .none (fun _=>?_);refine jl 32 rfl rfl rfl rfl (Ld.fY CD (qb rfl) rfl (.cons .refl .nil)) (.lA rfl) (fun _=>?_);refine jl 37 rfl rfl rfl rfl (Ld.iI (qb rfl) rfl rfl .dj (by (simp;omega))) .none (fun _=>?_);refine jk 38 rfl rfl rfl rfl (Qt.build rfl (by kernel_rfl)) ?_;refine jt 40 rfl rfl (Ld.bq rfl rfl rfl (by exact rfl) (by exact rfl)) (fun _=>?_);refine bR ?_
 rotate_left
 refine JS.bZ rfl rfl rfl (qb rfl) (Ld.alloc (qb rfl)) .none (fun _=>?_);refine jl 22 rfl rfl rfl rfl (Ld.fY CF (qb rfl) rfl (.cons .refl .nil)) (.jb rfl) (fun _=>?_);refine jl 27 rfl rfl rfl rfl (Ld.iI (qb rfl) rfl rfl .read (by (simp;omega))) .none (fun _=>?_);refine jl 32 rfl rfl rfl rfl (Ld.fY CD (qb rfl) rfl (.cons .refl .nil)) (.lA rfl) (fun _=>?_);refine jl 37 rfl rfl rfl rfl (Ld.iI (qb rfl) rfl rfl .dj (by (simp;omega))) .none (fun _=>?_);refine jk 38 rfl rfl rfl rfl (Qt.build rfl (by kernel_rfl)) ?_;refine jt 40 rfl rfl (Ld.bq rfl rfl rfl (by exact rfl) (by exact rfl)) (fun _=>?_);refine bR ?_
 rotate_left
 refine JS.bZ rfl rfl rfl (qb rfl) (Ld.alloc (qb rfl)) .none (fun _=>?_);refine jl 17 rfl rfl rfl rfl (Ld.fY CM (qb rfl) rfl (.cons .refl .nil)) (.jb rfl) (fun _=>?_);refine jl 22 rfl rfl rfl rfl (Ld.fY CF (qb rfl) rfl (.cons .refl .nil)) (.jb rfl) (fun _=>?_);refine jl 27 rfl rfl rfl rfl (Ld.iI (qb rfl) rfl rfl .read (by (simp;omega))) .none (fun _=>?_);refine jl 32 rfl rfl rfl rfl (Ld.fY CD (qb rfl) rfl (.cons .refl .nil)) (.lA rfl) (fun _=>?_);refine jl 37 rfl rfl rfl rfl (Ld.iI (qb rfl) rfl rfl .dj (by (simp;omega))) .none (fun _=>?_);refine jk 38 rfl rfl rfl rfl (Qt.build rfl (by kernel_rfl)) ?_;refine jt 40 rfl rfl (Ld.bq rfl rfl rfl (by exact rfl) (by exact rfl)) (fun _=>?_);refine bR ?_
 rotate_left
 refine JS.bZ rfl rfl rfl (qb rfl) (Ld.alloc (qb rfl)) .none (fun _=>?_);refine jl 12 rfl rfl rfl rfl (Ld.iI (qb rfl) rfl rfl .dj (by (simp;omega))) .none (fun _=>?_);refine jl 17 rfl rfl rfl rfl (Ld.fY CM (qb rfl) rfl (.cons .refl .nil)) (.jb rfl) (fun _=>?_);refine jl 22 rfl rfl rfl rfl (Ld.fY CF (qb rfl) rfl (.cons .refl .nil)) (.jb rfl) (fun _=>?_);refine jl 27 rfl rfl rfl rfl (Ld.iI (qb rfl) rfl rfl .read (by (simp;omega))) .none (fun _=>?_);refine jl 32 rfl rfl rfl rfl (Ld.fY CD (qb rfl) rfl (.cons .refl .nil)) (.lA rfl) (fun _=>?_);refine jl 37 rfl rfl rfl rfl (Ld.iI (qb rfl) rfl rfl .dj (by (simp;omega))) .none (fun _=>?_);refine jk 38 rfl rfl rfl rfl (Qt.build rfl (by kernel_rfl)) ?_;refine jt 40 rfl rfl (Ld.bq rfl rfl rfl (by exact rfl) (by exact rfl)) (fun _=>?_);refine bR ?_
 rotate_left
 all_goals
  exact (rest _).aW ⟨rfl,rfl,rfl,trivial⟩
end Fl
open Go.RowKit Go.ChangeShapes Go.WideShapes Go.Deep
def mh (w:World) (cs:List Value) (c:Pn.Cs) (U:List Nat):Prop:=cs=[.bool c.send,.int .i64 c.ch,.int .i64 c.v]∧U=[]
def vW (w:World) (cs:List Value) (o:Pn.Op) (U:List Nat):Prop :=
 ∃ vc,cs=[.int .i64 o.kind,.int .i64 o.ch,.int .i64 o.n,.int .i64 o.v,vc,.bool o.de]∧GV mh 3 w vc o.cases U
theorem yF:Kept mh:=⟨fun h _ _=>h,fun h x hx=>by obtain ⟨_,rfl⟩:=h;simp at hx⟩
theorem Eh:Kept vW :=
 ⟨fun h k hn=>by obtain ⟨vc,h1,h2⟩:=h;exact ⟨vc,h1,h2.iO yF k hn⟩,fun h=>by obtain ⟨vc,h1,h2⟩:=h;exact h2.lt⟩
def sD:World→List Value→List Pn.Op→List Nat→Prop:=pO vW 6
theorem Ix:Kept sD:=GD Eh
section
variable {w:World} {ao:Option Addr} {m cap k:Nat} {S:List Nat}
theorem GV.case {l:List Pn.Cs} {c:Pn.Cs} (h:GV mh 3 w (.slice ao m cap) l S) (hk:l[k]?=some c) :
  ∃ g off,ao=some ⟨g,off,none⟩∧g∈S∧g < w.heap.size∧w.cell? ⟨g,off + k * 3,none⟩=some (.bool c.send)∧w.cell? ⟨g,off + k * 3 + 1,none⟩=some (.int .i64 c.ch)∧w.cell? ⟨g,off + k * 3 + 2,none⟩=some (.int .i64 c.v):=by
 obtain ⟨g,off,cs,U,h1,h2,h3,h4,h5,⟨rfl,_⟩,_⟩:=h.get hk;exact ⟨g,off,h1,h2,h3,h5 0 (by omega),h5 1 (by omega),h5 2 (by omega)⟩
theorem GV.op {l:List Pn.Op} {o:Pn.Op} (h:GV vW 6 w (.slice ao m cap) l S) (hk:l[k]?=some o) :
  ∃ g off vc U,ao=some ⟨g,off,none⟩∧g∈S∧g < w.heap.size∧(w.cell? ⟨g,off + k * 6,none⟩=some (.int .i64 o.kind)∧w.cell? ⟨g,off + k * 6 + 1,none⟩=some (.int .i64 o.ch)∧w.cell? ⟨g,off + k * 6 + 2,none⟩=some (.int .i64 o.n) ∧
   w.cell? ⟨g,off + k * 6 + 3,none⟩=some (.int .i64 o.v)∧w.cell? ⟨g,off + k * 6 + 4,none⟩=some vc∧w.cell? ⟨g,off + k * 6 + 5,none⟩=some (.bool o.de))∧GV mh 3 w vc o.cases U∧∀ x∈U,x∈S:=by
 obtain ⟨g,off,cs,U,h1,h2,h3,h4,h5,⟨vc,rfl,h6⟩,h7⟩:=h.get hk;exact ⟨g,off,vc,U,h1,h2,h3,⟨h5 0 (by omega),h5 1 (by omega),h5 2 (by omega),h5 3 (by omega),h5 4 (by omega),h5 5 (by omega)⟩,h6,h7⟩
theorem GV.one {α:Type} {E:World→List Value→α→List Nat→Prop} {l:List α} {a:α} (h:GV E 1 w (.slice ao m cap) l S) (hk:l[k]?=some a) :
  ∃ g off v U,ao=some ⟨g,off,none⟩∧g∈S∧g < w.heap.size∧w.cell? ⟨g,off + k,none⟩=some v∧E w [v] a U∧∀ x∈U,x∈S:=by
 obtain ⟨g,off,cs,U,h1,h2,h3,h4,h5,h6,h7⟩:=h.get hk;obtain ⟨v,rfl⟩:=MJ h4;exact ⟨g,off,v,U,h1,h2,h3,by have:=h5 0 (by omega);simpa using this,h6,h7⟩
end
theorem AU:fK Tryz.prog 3 (kY .i64) 1:=Aj Tryz.underlying3 (by kernel_rfl)
theorem Iy:fK Tryz.prog 2 (kY .i64) 1:=Aj Tryz.underlying2 (by kernel_rfl)
theorem Iz:fK Tryz.prog 4 CJ 1:=MP Tryz.underlying4 (by kernel_rfl)
theorem Pq:fK Tryz.prog 72 mh 3:=by
 refine ⟨by omega,yF,by kernel_rfl,?_⟩;intro H enc W fuel cs x h;obtain ⟨xs,n,_,_,hl,jM,hf⟩:=DataW.trod_struct Tryz.underlying72 h;have Pt:cs.length=3:=hl.trans (by kernel_rfl);obtain ⟨v0,v1,v2,rfl⟩:=ML Pt;have xV:xs.length=3:=jM.trans (by kernel_rfl);have hs:∀ i,i < 3→(xs[i]?).isSome=true:=fun i hi=>by simp [xV,hi]
 obtain ⟨_,_,a0,U0,e0,_⟩:=Iz.field rfl rfl (hs 0 (by omega)) (hf 0 _ rfl);obtain ⟨_,_,a1,U1,e1,_⟩:=AU.field rfl rfl (hs 1 (by omega)) (hf 1 _ rfl);obtain ⟨_,_,a2,U2,e2,_⟩:=Iy.field rfl rfl (hs 2 (by omega)) (hf 2 _ rfl);simp at e0 e1 e2;subst e0 e1 e2;exact ⟨rfl,(by intro y hy;simp at hy;rcases hy with rfl | rfl | rfl <;> rfl),⟨a0,a1,a2⟩,[],rfl,rfl⟩
theorem Pu:fK Tryz.prog 48 (pO mh 3) 1:=xd Tryz.underlying48 (by kernel_rfl) Pq
theorem Pv:fK Tryz.prog 50 vW 6:=by
 refine ⟨by omega,Eh,by kernel_rfl,?_⟩;intro H enc W fuel cs x h;obtain ⟨xs,n,_,_,hl,jM,hf⟩:=DataW.trod_struct Tryz.underlying50 h;have Pw:cs.length=6:=hl.trans (by kernel_rfl);obtain ⟨v0,v1,v2,v3,v4,v5,rfl⟩:=MN Pw;have Px:xs.length=6:=jM.trans (by kernel_rfl);have hs:∀ i,i < 6→(xs[i]?).isSome=true:=fun i hi=>by simp [Px,hi]
 obtain ⟨_,_,a0,U0,e0,_⟩:=AU.field rfl rfl (hs 0 (by omega)) (hf 0 _ rfl);obtain ⟨_,_,a1,U1,e1,_⟩:=AU.field rfl rfl (hs 1 (by omega)) (hf 1 _ rfl);obtain ⟨_,_,a2,U2,e2,_⟩:=AU.field rfl rfl (hs 2 (by omega)) (hf 2 _ rfl);obtain ⟨_,_,a3,U3,e3,_⟩:=Iy.field rfl rfl (hs 3 (by omega)) (hf 3 _ rfl);obtain ⟨o4,_,a4,U4,vc,e4,h4⟩:=Pu.field rfl rfl (hs 4 (by omega)) (hf 4 _ rfl);obtain ⟨_,_,a5,U5,e5,_⟩:=Iz.field rfl rfl (hs 5 (by omega)) (hf 5 _ rfl);simp at e0 e1 e2 e3 e4 e5 o4;subst e0 e1 e2 e3 e4 e5;exact ⟨rfl,(by intro y hy;simp at hy;rcases hy with rfl | rfl | rfl | rfl | rfl | rfl <;> first | rfl | assumption),⟨a0,a1,a2,a3,a4,a5⟩,U4,v4,rfl,h4⟩
theorem Py:fK Tryz.prog 43 sD 1:=xd Tryz.underlying43 (by kernel_rfl) Pv
theorem Pz:fK Tryz.prog 22 (pO sD 1) 1:=xd Tryz.underlying22 (by kernel_rfl) Py
open Go.RowKit
theorem sE (w:World) (k:Int):Calls Tryz.prog 220 #[.int .i64 k] w fun e w'=>e=.returned (.bool (Pn.jD k))∧w=w':=by
 go_enter Tryz.func220,Tryz.ntmps220
 go_wp2_with fail
 all_goals
  go_ret
  exact ⟨jz (by simp [Pn.jD, *] <;> omega),rfl⟩
theorem sF (w:World) (k:Int):Calls Tryz.prog 221 #[.int .i64 k] w fun e w'=>e=.returned (.bool (Pn.jE k))∧w=w':=by
 go_enter Tryz.func221,Tryz.ntmps221
 go_wp2_with fail
 all_goals
  go_ret
  exact ⟨jz (by simp [Pn.jE, *]),rfl⟩
def Pn.within (has:Bool) (n most:Int):Bool:=if has then decide (0≤n) && decide (n≤most) else n == 0
open Go.RowKit
namespace Pn
def Ei (c:Cs):Bool:=within true c.ch 8 && within c.send c.v 255
theorem IA (c:Cs):Ei c=kL c:=by
 obtain ⟨s,ch,v⟩:=c;unfold Ei kL within;rw [Bool.eq_iff_iff]
 cases s <;> simp <;> omega
theorem PA {o:Op} {j:Nat} {c:Cs} (h:o.cases[j]?=some c) (hc:Ei c=false):fG o=false:=by
 unfold fG;rw [decide_eq_false_iff_not];rintro ⟨h1,h2,h3,h4,h5,h6,h7,h8,h9,mZ,mj,lJ,kD,rC⟩;have:=rC c (List.mem_of_getElem? h);rw [← IA,hc] at this;cases this
end Pn
open Go.RowKit
namespace Pn
end Pn
set_option maxRecDepth 100000 in
set_option maxHeartbeats 3200000 in
theorem PB (w:World) (o:Pn.Op) (va:Value) (SA:List Nat) (ha:GV mh 3 w va o.cases SA) (hb:¬ (1≤o.kind∧o.kind≤9∧0≤o.ch∧o.ch≤8∧0≤o.n∧o.n≤4∧0≤o.v∧o.v≤255∧o.cases.length≤6)) :
  Calls Tryz.prog 169 #[.agg #[.int .i64 o.kind,.int .i64 o.ch,.int .i64 o.n,.int .i64 o.v,va,.bool o.de]] w fun e w'=>e=.returned (.bool (Pn.fG o))∧aP [] w w':=by
 have nQ:=ha.le;unfold maxLen at nQ;obtain ⟨ao,cap,rfl⟩:=ha.shape;have HA:=Lib.hid ha;obtain ⟨q,iL⟩:∃ q,Pn.fG o=q:=⟨_,rfl⟩
 rw [iL];have HQ:=Lib.hid iL;have KA:Hid (aP [] w (w.alloc (.cells #[.int .i64 o.kind,.int .i64 o.ch,.int .i64 o.n,.int .i64 o.v,.slice ao o.cases.length cap,.bool o.de] 50))):=Lib.hid ((aP.refl [] w).alloc _);clear ha iL;have HN:Hid (false=q):=Lib.hid (by
  rw [← HQ.out,eq_comm];unfold Pn.fG;rw [decide_eq_false_iff_not];rintro ⟨h1,h2,h3,h4,h5,h6,h7,h8,h9,_⟩;exact hb ⟨h1,h2,h3,h4,h5,h6,h7,h8,h9⟩)
 have HB:=Lib.hid hb;clear hb
 go_enter Tryz.func169,Tryz.ntmps169
 go_upto_if 48 with fail
 all_goals
  go_wp2_with fail
  all_goals
   first
    | (exfalso;have h:=HB.out;omega)
    | (go_ret;exact ⟨jz HN.out,(aP.refl [] w).alloc _⟩)
end Go.Proofs.YtdjhhbpedllnhaaGreat
