/-
  What the laws need, part Q8.
  Conditions: none.
-/
import Derived.Test.YtdibmkjoaghafaaQ7
set_option linter.unusedVariables false
set_option linter.unusedSimpArgs false
set_option linter.unnecessarySimpa false
set_option maxHeartbeats 2000000
namespace Go.Proofs.Ytdibmkjoaghafaa
open Go.RowKit
namespace Fl
set_option maxRecDepth 100000
set_option maxHeartbeats 4000000
section
variable {α:Type} {enc:α→List A} {key:α→Int} {fv:Value} {C:List Res}
theorem s_symAPt (CF:CmpFn Try.prog fv C enc key) (hz:∀ x,(enc x).length=3) (v:Value) (l X A0 B0 Y:List α) (a m b:Nat) (hl:l=X ++ A0 ++ B0 ++ Y) (ha:a=X.length) (hm:m=a + A0.length) (hb:b=m + B0.length) (nA:A0.length≠0) (nB:B0.length≠0) (sA:Ss.Srt key A0) (sB:Ss.Srt key B0) (hn:l.length≤1000000) (h1:A0.length=1) :
  Con Try.prog 82 [.c (.v v),.c (nI a),.c (nI m),.c (nI b),.c (.v fv)] (.row v 58 3 (l.map enc) :: C) (fun _:Unit=>(.tup [],.row v 58 3 ((X ++ Ss.mg key A0 B0 ++ Y).map enc) :: C)):=by
 have len:l.length=b + Y.length:=by rw [hl];simp;omega
 have w0:IntKind.i64.wrap ((m:Int) - (a:Int))=(A0.length:Int):=by rw [w64 (by omega) (by omega)];omega
 have w1:IntKind.i64.wrap ((b:Int) - (m:Int))=(B0.length:Int):=by rw [w64 (by omega) (by omega)];omega
 refine Con.intro Try.func82 rfl rfl rfl (fun ok e=>?_);have t0:((A0.length:Int) == 1)=true:=by rw [h1];rfl
 obtain ⟨x,rfl⟩:=List.length_eq_one_iff.1 h1;obtain ⟨B1,B2,rfl,hr,k1,k2⟩:=Ss.searchL (key x) (X ++ [x]) B0 Y m b (by simp;omega) hb sB;rw [Ss.mg_one k1 k2];rw [← hl] at hr;have ax:l[a]?=some x:=by rw [hl,ha,show X ++ [x] ++ (B1 ++ B2) ++ Y=X ++ x :: (B1 ++ B2 ++ Y) by simp];exact Ss.at_app _ _ _
 generalize hp:(fun h=>decide (Ss.ky key l h < key x))=p at hr;have hl':(B1 ++ B2).length=B1.length + B2.length:=List.length_append;have bx:=s_at (enc:=enc) ax;have cx:=s_lt' (enc:=enc) ax;have zx:(0:Int)≤(a:Int):=Int.natCast_nonneg _
 repeat (first | (refine K.binOp ?_;refine jq rfl rfl rfl ((Qt.ari rfl rfl rfl w0)) ?_) | refine gn ?_)
 refine J.loop (ι:={ q:Nat × Nat // m≤q.1∧q.1≤q.2∧q.2≤b∧Ss.bs p q.1 q.2=m + B1.length }) (fun q=>[(10,.c (nI q.1.1)),(11,.c (nI q.1.2)),(0,.c (.v v)),(1,.c (nI a)),(2,.c (nI m)),(3,.c (nI b)),(4,.c (.v fv))]) (fun q=>.row v 58 3 (l.map enc) :: C) (fun q=>q.1.2 - q.1.1) ⟨(m,b),Nat.le_refl _,by simp only;omega,Nat.le_refl _,hr⟩ (fun X h=>h.weak ⟨rfl,rfl,rfl,rfl,rfl,rfl,rfl,trivial⟩) (fun q ih=>?_);obtain ⟨⟨i,j⟩,q1,q2,q3,q4⟩:=q;simp only at q1 q2 q3 q4 ih ⊢
 by_cases hk:i < j
 ·have t1:decide ((i:Int) < (j:Int))=true:=decide_eq_true (by omega);obtain ⟨y,ay⟩:∃ y,l[(i + j) / 2]?=some y:=⟨_,List.getElem?_eq_getElem (by omega)⟩
  have by':=s_at (enc:=enc) ay
  have cy:=s_lt' (enc:=enc) ay;have zy:(0:Int)≤(((i + j) / 2:Nat):Int):=Int.natCast_nonneg _;have py:p ((i + j) / 2)=decide (key y < key x):=by rw [← hp];simp only;rw [Ss.ky_some ay]
  have w2:IntKind.i64.wrap ((i:Int) + (j:Int))=((i + j:Nat):Int):=s_half (by omega);have w3:IntKind.u64.wrap ((i + j:Nat):Int)=((i + j:Nat):Int):=s_u64 (by omega);have w4:IntKind.i64.wrap (((i + j) / 2:Nat):Int)=(((i + j) / 2:Nat):Int):=w64 (by omega) (by omega);have w5:IntKind.i64.wrap ((((i + j) / 2:Nat):Int) + 1)=(((i + j) / 2 + 1:Nat):Int):=by rw [w64 (by omega) (by omega)];omega
  have hh:i + j≤4000000:=by omega
  repeat (first | (refine K.binOp ?_;first | refine jq rfl rfl rfl ((Qt.ari rfl rfl rfl w2)) ?_ | refine jq rfl rfl rfl (Qt.bin rfl rfl (fun w=>s_shr hh)) ?_) | (refine K.convert ?_;first | refine jq rfl rfl rfl (Qt.conv rfl w3) ?_ | refine jq rfl rfl rfl (Qt.conv rfl w4) ?_) | refine gn ?_)
  cases t3:decide (key y < key x) with
  | true =>
   rw [t3] at py;refine J.draw (by kernel_rfl) rfl ?_;refine JW.base none ?_;refine tk 0 ?_;refine tk 1 ?_;refine tk 2 ?_;refine JD.take 3 rfl rfl (by kernel_rfl) rfl (qb rfl) (Qt.indexO rfl rfl zy cy) rfl ?_;refine JD.take 4 rfl rfl (by kernel_rfl) rfl (qb rfl) (Qt.loadWo rfl by' (hz _)) rfl ?_;refine tk 5 ?_;refine tk 6 ?_;refine JD.take 7 rfl rfl (by kernel_rfl) rfl (qb rfl) (Qt.indexO rfl rfl zx cx) rfl ?_;refine JD.take 8 rfl rfl (by kernel_rfl) rfl (qb rfl) (Qt.loadWo rfl bx (hz _)) rfl ?_;refine jl 9 rfl rfl rfl rfl (Ld.cmpV CF y x ⟨[_],rfl⟩ (qb rfl) rfl rfl rfl) .none (fun _=>?_);refine jk 10 rfl rfl rfl rfl (Qt.cmp rfl rfl (congrArg some (cq_lt t3))) ?_;refine dnQ ?_
   repeat (first | (refine K.binOp ?_;refine jq rfl rfl rfl ((Qt.ari rfl rfl rfl w5)) ?_) | refine gn ?_)
   exact (ih ⟨((i + j) / 2 + 1,j),by simp only;omega,by simp only;omega,q3,by simp only;rw [← Ss.bs_t hk py];exact q4⟩ (by simp only;omega)).weak ⟨rfl,rfl,rfl,rfl,rfl,rfl,rfl,trivial⟩
  | false =>
   rw [t3] at py;refine J.draw (by kernel_rfl) rfl ?_;refine JW.base none ?_;refine tk 0 ?_;refine tk 1 ?_;refine tk 2 ?_;refine JD.take 3 rfl rfl (by kernel_rfl) rfl (qb rfl) (Qt.indexO rfl rfl zy cy) rfl ?_;refine JD.take 4 rfl rfl (by kernel_rfl) rfl (qb rfl) (Qt.loadWo rfl by' (hz _)) rfl ?_;refine tk 5 ?_;refine tk 6 ?_;refine JD.take 7 rfl rfl (by kernel_rfl) rfl (qb rfl) (Qt.indexO rfl rfl zx cx) rfl ?_;refine JD.take 8 rfl rfl (by kernel_rfl) rfl (qb rfl) (Qt.loadWo rfl bx (hz _)) rfl ?_;refine jl 9 rfl rfl rfl rfl (Ld.cmpV CF y x ⟨[_],rfl⟩ (qb rfl) rfl rfl rfl) .none (fun _=>?_);refine jk 10 rfl rfl rfl rfl (Qt.cmp rfl rfl (congrArg some (cq_lt t3))) ?_;refine dnQ ?_
   repeat (refine gn ?_)
   exact (ih ⟨(i,(i + j) / 2),q1,by simp only;omega,by simp only;omega,by simp only;rw [← Ss.bs_f hk py];exact q4⟩ (by simp only;omega)).weak ⟨rfl,rfl,rfl,rfl,rfl,rfl,rfl,trivial⟩
 ·have t1:decide ((i:Int) < (j:Int))=false:=decide_eq_false (by omega);rw [Ss.bs_e hk] at q4;clear ih q1 q2 q3 hp hr bx cx;subst q4;rw [hl];clear hl ax
  repeat (refine gn ?_)
  refine J.congL (L':=.row v 58 3 ((X ++ ([] ++ x :: B1 ++ B2) ++ Y).map enc) :: C) (by simp) ?_;refine J.loop (ι:={ q:List α × List α // B1=q.1 ++ q.2 }) (fun q=>[(13,.c (nI (a + q.1.1.length:Nat))),(10,.c (nI (m + B1.length:Nat))),(0,.c (.v v)),(1,.c (nI a)),(4,.c (.v fv))]) (fun q=>.row v 58 3 ((X ++ (q.1.1 ++ x :: q.1.2 ++ B2) ++ Y).map enc) :: C) (fun q=>q.1.2.length) ⟨([],B1),rfl⟩ (fun X h=>h.weak ⟨rfl,rfl,rfl,rfl,rfl,trivial⟩) (fun q ih=>?_);obtain ⟨⟨S1,S2⟩,qS⟩:=q;simp only at qS ih ⊢;have lB:B1.length=S1.length + S2.length:=by rw [qS];simp
  have w2:IntKind.i64.wrap (((m + B1.length:Nat):Int) - 1)=((m + B1.length - 1:Nat):Int):=by rw [w64 (by omega) (by omega)];omega
  cases S2 with
  | nil =>
   have t2:decide (((a + S1.length:Nat):Int) < ((m + B1.length - 1:Nat):Int))=false:=decide_eq_false (by simp at lB h1 hm;omega);rw [List.append_nil] at qS;subst qS
   repeat (first | (refine K.binOp ?_;refine jq rfl rfl rfl ((Qt.ari rfl rfl rfl w2)) ?_) | refine gn ?_)
   refine J.congL (L':=.row v 58 3 ((X ++ (B1 ++ x :: B2) ++ Y).map enc) :: C) (by simp) ?_
   (exact J.retA Try.func82 rfl .nil () (by exact .refl) rfl)
  | cons z S2 =>
   have t2:decide (((a + S1.length:Nat):Int) < ((m + B1.length - 1:Nat):Int))=true:=decide_eq_true (by simp only [List.length_cons,List.length_nil] at lB hm;omega);have w3:IntKind.i64.wrap (((a + S1.length:Nat):Int) + 1)=((a + (S1.length + 1):Nat):Int):=by simp only [List.length_cons,List.length_nil] at lB hm;rw [w64 (by omega) (by omega)];omega
   have er:X ++ (S1 ++ x :: z :: S2 ++ B2) ++ Y=(X ++ S1) ++ x :: z :: (S2 ++ B2 ++ Y):=by simp
   rw [er];have a1:((X ++ S1) ++ x :: z :: (S2 ++ B2 ++ Y))[a + S1.length]?=some x:=by rw [show a + S1.length=(X ++ S1).length by simp;omega];exact Ss.at_app _ _ _
   have a2:((X ++ S1) ++ x :: z :: (S2 ++ B2 ++ Y))[a + (S1.length + 1)]?=some z:=by rw [show a + (S1.length + 1)=((X ++ S1) ++ [x]).length by simp only [List.length_append,List.length_singleton];omega,show (X ++ S1) ++ x :: z :: (S2 ++ B2 ++ Y)=((X ++ S1) ++ [x]) ++ z :: (S2 ++ B2 ++ Y) by simp];exact Ss.at_app _ _ _
   have b1:=s_at (enc:=enc) a1;have b2:=s_at (enc:=enc) a2;have c1:=s_lt' (enc:=enc) a1;have c2:=s_lt' (enc:=enc) a2;have z1:(0:Int)≤((a + S1.length:Nat):Int):=Int.natCast_nonneg _;have z2:(0:Int)≤((a + (S1.length + 1):Nat):Int):=Int.natCast_nonneg _;have sw:=s_sw (enc:=enc) a1 a2;rw [Ss.sw_adj (X ++ S1) x z (S2 ++ B2 ++ Y) _ _ (by simp;omega) (by simp;omega)] at sw;generalize hR:(X ++ S1) ++ x :: z :: (S2 ++ B2 ++ Y)=R at er b1 b2 c1 c2 sw ⊢;have lt1:((a + S1.length:Nat):Int).toNat < (R.map enc).length:=by omega
   have lt2:((a + (S1.length + 1):Nat):Int).toNat < ((R.map enc).set ((a + S1.length:Nat):Int).toNat (enc z)).length:=by rw [List.length_set];omega
   repeat (first | (refine K.binOp ?_;refine jq rfl rfl rfl ((Qt.ari rfl rfl rfl w2)) ?_) | refine gn ?_)
   refine J.draw (by kernel_rfl) rfl ?_;refine JW.base1 none (.tmp 0) rfl ?_;refine tk 0 ?_;refine tk 1 ?_;refine tk 2 ?_;refine tk 3 ?_;refine JD.take 4 rfl rfl (by kernel_rfl) rfl (qb rfl) (Qt.ari rfl rfl rfl w3) rfl ?_;refine tk 5 ?_;refine tk 6 ?_;refine JD.take 7 rfl rfl (by kernel_rfl) rfl (qb rfl) (Qt.ari rfl rfl rfl w3) rfl ?_;refine JD.take 8 rfl rfl (by kernel_rfl) rfl (qb rfl) (Qt.indexO rfl rfl z2 c2) rfl ?_;refine tk 10 ?_;refine tk 11 ?_;refine JD.take 12 rfl rfl (by kernel_rfl) rfl (qb rfl) (Qt.indexO rfl rfl z1 c1) rfl ?_;refine JD.each2 (i:=9) (j:=13) (by kernel_rfl) ?_ ?_;refine JS.q rfl rfl rfl (qb rfl) (Qt.loadWo rfl b2 (hz _)) ?_;refine jk 13 rfl rfl rfl rfl (Qt.loadWo rfl b1 (hz _)) ?_;refine JD.take 14 rfl rfl (by kernel_rfl) rfl (qb rfl) (Qt.indexO rfl rfl z1 c1) rfl ?_;refine JD.each1 (i:=15) (by kernel_rfl) ?_;refine JS.st rfl rfl rfl (Ld.storeOW rfl rfl rfl (hz _) lt1) (.trow rfl) (fun _=>?_);refine JD.take 16 rfl rfl (by kernel_rfl) rfl (qb rfl) (Qt.indexO rfl rfl z2 c2) rfl ?_;refine JD.each1 (i:=17) (by kernel_rfl) ?_;refine JS.st rfl rfl rfl (Ld.storeOW rfl rfl rfl (hz _) lt2) (.trow rfl) (fun _=>?_);refine dnQ ?_
   rotate_left
   refine JS.q rfl rfl rfl (qb rfl) (Qt.loadWo rfl b1 (hz _)) ?_;refine jk 9 rfl rfl rfl rfl (Qt.loadWo rfl b2 (hz _)) ?_;refine JD.take 14 rfl rfl (by kernel_rfl) rfl (qb rfl) (Qt.indexO rfl rfl z1 c1) rfl ?_;refine JD.each1 (i:=15) (by kernel_rfl) ?_;refine JS.st rfl rfl rfl (Ld.storeOW rfl rfl rfl (hz _) lt1) (.trow rfl) (fun _=>?_);refine JD.take 16 rfl rfl (by kernel_rfl) rfl (qb rfl) (Qt.indexO rfl rfl z2 c2) rfl ?_;refine JD.each1 (i:=17) (by kernel_rfl) ?_;refine JS.st rfl rfl rfl (Ld.storeOW rfl rfl rfl (hz _) lt2) (.trow rfl) (fun _=>?_);refine dnQ ?_
   rotate_left
   all_goals
    repeat (first | (refine K.binOp ?_;refine jq rfl rfl rfl ((Qt.ari rfl rfl rfl w3)) ?_) | refine gn ?_)
    refine J.congL ?_ ((ih ⟨(S1 ++ [z],S2),by simp [qS]⟩ (by simp)).weak ⟨by simp only [List.length_append,List.length_singleton];rfl,rfl,rfl,rfl,rfl,trivial⟩);simp only;refine congrArg (fun r=>Res.row v 58 3 r :: C) (Eq.trans ?_ sw.symm);simp
theorem s_symBPt (CF:CmpFn Try.prog fv C enc key) (hz:∀ x,(enc x).length=3) (v:Value) (l X A0 B0 Y:List α) (a m b:Nat) (hl:l=X ++ A0 ++ B0 ++ Y) (ha:a=X.length) (hm:m=a + A0.length) (hb:b=m + B0.length) (nA:A0.length≠0) (nB:B0.length≠0) (sA:Ss.Srt key A0) (sB:Ss.Srt key B0) (hn:l.length≤1000000) (h1:A0.length≠1) (h2:B0.length=1) :
  Con Try.prog 82 [.c (.v v),.c (nI a),.c (nI m),.c (nI b),.c (.v fv)] (.row v 58 3 (l.map enc) :: C) (fun _:Unit=>(.tup [],.row v 58 3 ((X ++ Ss.mg key A0 B0 ++ Y).map enc) :: C)):=by
 have len:l.length=b + Y.length:=by rw [hl];simp;omega
 have w0:IntKind.i64.wrap ((m:Int) - (a:Int))=(A0.length:Int):=by rw [w64 (by omega) (by omega)];omega
 have w1:IntKind.i64.wrap ((b:Int) - (m:Int))=(B0.length:Int):=by rw [w64 (by omega) (by omega)];omega
 refine Con.intro Try.func82 rfl rfl rfl (fun ok e=>?_);have t0:((A0.length:Int) == 1)=false:=by simp;omega
 have t9:((B0.length:Int) == 1)=true:=by rw [h2];rfl
 obtain ⟨y,rfl⟩:=List.length_eq_one_iff.1 h2;obtain ⟨A1,A2,rfl,hr,k1,k2⟩:=Ss.searchG (key y) X A0 ([y] ++ Y) a m ha hm sA;rw [Ss.mg_last k1 k2];rw [show X ++ (A1 ++ A2) ++ ([y] ++ Y)=l by rw [hl];simp] at hr;have ay:l[m]?=some y:=by rw [hl,show X ++ (A1 ++ A2) ++ [y] ++ Y=(X ++ (A1 ++ A2)) ++ y :: Y by simp,show m=(X ++ (A1 ++ A2)).length by rw [List.length_append];omega];exact Ss.at_app _ _ _
 generalize hp:(fun h=>!decide (key y < Ss.ky key l h))=p at hr;have hl':(A1 ++ A2).length=A1.length + A2.length:=List.length_append;have by':=s_at (enc:=enc) ay
 have cy:=s_lt' (enc:=enc) ay;have zy:(0:Int)≤(m:Int):=Int.natCast_nonneg _
 repeat (first | (refine K.binOp ?_;first | refine jq rfl rfl rfl ((Qt.ari rfl rfl rfl w0)) ?_ | refine jq rfl rfl rfl ((Qt.ari rfl rfl rfl w1)) ?_) | refine gn ?_)
 refine J.loop (ι:={ q:Nat × Nat // a≤q.1∧q.1≤q.2∧q.2≤m∧Ss.bs p q.1 q.2=a + A1.length }) (fun q=>[(14,.c (nI q.1.1)),(15,.c (nI q.1.2)),(0,.c (.v v)),(2,.c (nI m)),(4,.c (.v fv))]) (fun q=>.row v 58 3 (l.map enc) :: C) (fun q=>q.1.2 - q.1.1) ⟨(a,m),Nat.le_refl _,by simp only;omega,Nat.le_refl _,hr⟩ (fun X h=>h.weak ⟨rfl,rfl,rfl,rfl,rfl,trivial⟩) (fun q ih=>?_);obtain ⟨⟨i,j⟩,q1,q2,q3,q4⟩:=q;simp only at q1 q2 q3 q4 ih ⊢
 by_cases hk:i < j
 ·have t1:decide ((i:Int) < (j:Int))=true:=decide_eq_true (by omega);obtain ⟨x,ax⟩:∃ x,l[(i + j) / 2]?=some x:=⟨_,List.getElem?_eq_getElem (by omega)⟩
  have bx:=s_at (enc:=enc) ax;have cx:=s_lt' (enc:=enc) ax;have zx:(0:Int)≤(((i + j) / 2:Nat):Int):=Int.natCast_nonneg _;have py:p ((i + j) / 2)=!decide (key y < key x):=by rw [← hp];simp only;rw [Ss.ky_some ax]
  have w2:IntKind.i64.wrap ((i:Int) + (j:Int))=((i + j:Nat):Int):=s_half (by omega);have w3:IntKind.u64.wrap ((i + j:Nat):Int)=((i + j:Nat):Int):=s_u64 (by omega);have w4:IntKind.i64.wrap (((i + j) / 2:Nat):Int)=(((i + j) / 2:Nat):Int):=w64 (by omega) (by omega);have w5:IntKind.i64.wrap ((((i + j) / 2:Nat):Int) + 1)=(((i + j) / 2 + 1:Nat):Int):=by rw [w64 (by omega) (by omega)];omega
  have hh:i + j≤4000000:=by omega
  repeat (first | (refine K.binOp ?_;first | refine jq rfl rfl rfl ((Qt.ari rfl rfl rfl w2)) ?_ | refine jq rfl rfl rfl (Qt.bin rfl rfl (fun w=>s_shr hh)) ?_) | (refine K.convert ?_;first | refine jq rfl rfl rfl (Qt.conv rfl w3) ?_ | refine jq rfl rfl rfl (Qt.conv rfl w4) ?_) | refine gn ?_)
  cases t3:decide (key y < key x) with
  | true =>
   rw [t3] at py;refine J.draw (by kernel_rfl) rfl ?_;refine JW.base none ?_;refine tk 0 ?_;refine tk 1 ?_;refine tk 2 ?_;refine JD.take 3 rfl rfl (by kernel_rfl) rfl (qb rfl) (Qt.indexO rfl rfl zy cy) rfl ?_;refine JD.take 4 rfl rfl (by kernel_rfl) rfl (qb rfl) (Qt.loadWo rfl by' (hz _)) rfl ?_;refine tk 5 ?_;refine tk 6 ?_;refine JD.take 7 rfl rfl (by kernel_rfl) rfl (qb rfl) (Qt.indexO rfl rfl zx cx) rfl ?_;refine JD.take 8 rfl rfl (by kernel_rfl) rfl (qb rfl) (Qt.loadWo rfl bx (hz _)) rfl ?_;refine jl 9 rfl rfl rfl rfl (Ld.cmpV CF y x ⟨[_],rfl⟩ (qb rfl) rfl rfl rfl) .none (fun _=>?_);refine jk 10 rfl rfl rfl rfl (Qt.cmp rfl rfl (congrArg some (cq_lt t3))) ?_;refine jk 11 rfl rfl rfl rfl (Qt.not rfl) ?_;refine dnQ ?_
   repeat (refine gn ?_)
   exact (ih ⟨(i,(i + j) / 2),q1,by simp only;omega,by simp only;omega,by simp only;rw [← Ss.bs_f hk py];exact q4⟩ (by simp only;omega)).weak ⟨rfl,rfl,rfl,rfl,rfl,trivial⟩
  | false =>
   rw [t3] at py;refine J.draw (by kernel_rfl) rfl ?_;refine JW.base none ?_;refine tk 0 ?_;refine tk 1 ?_;refine tk 2 ?_;refine JD.take 3 rfl rfl (by kernel_rfl) rfl (qb rfl) (Qt.indexO rfl rfl zy cy) rfl ?_;refine JD.take 4 rfl rfl (by kernel_rfl) rfl (qb rfl) (Qt.loadWo rfl by' (hz _)) rfl ?_;refine tk 5 ?_;refine tk 6 ?_;refine JD.take 7 rfl rfl (by kernel_rfl) rfl (qb rfl) (Qt.indexO rfl rfl zx cx) rfl ?_;refine JD.take 8 rfl rfl (by kernel_rfl) rfl (qb rfl) (Qt.loadWo rfl bx (hz _)) rfl ?_;refine jl 9 rfl rfl rfl rfl (Ld.cmpV CF y x ⟨[_],rfl⟩ (qb rfl) rfl rfl rfl) .none (fun _=>?_);refine jk 10 rfl rfl rfl rfl (Qt.cmp rfl rfl (congrArg some (cq_lt t3))) ?_;refine jk 11 rfl rfl rfl rfl (Qt.not rfl) ?_;refine dnQ ?_
   repeat (first | (refine K.binOp ?_;refine jq rfl rfl rfl ((Qt.ari rfl rfl rfl w5)) ?_) | refine gn ?_)
   exact (ih ⟨((i + j) / 2 + 1,j),by simp only;omega,by simp only;omega,q3,by simp only;rw [← Ss.bs_t hk py];exact q4⟩ (by simp only;omega)).weak ⟨rfl,rfl,rfl,rfl,rfl,trivial⟩
 ·have t1:decide ((i:Int) < (j:Int))=false:=decide_eq_false (by omega);rw [Ss.bs_e hk] at q4;clear ih q1 q2 q3 hp hr by' cy
  subst q4;rw [hl];clear hl ay
  repeat (refine gn ?_)
  refine J.congL (L':=.row v 58 3 ((X ++ (A1 ++ A2 ++ y :: []) ++ Y).map enc) :: C) (by simp) ?_;refine J.loop (ι:={ q:List α × List α // A2=q.1 ++ q.2 }) (fun q=>[(17,.c (nI (a + A1.length + q.1.1.length:Nat))),(14,.c (nI (a + A1.length:Nat))),(0,.c (.v v)),(4,.c (.v fv))]) (fun q=>.row v 58 3 ((X ++ (A1 ++ q.1.1 ++ y :: q.1.2) ++ Y).map enc) :: C) (fun q=>q.1.1.length) ⟨(A2,[]),by simp⟩ (fun X h=>h.weak ⟨by rw [show m=a + A1.length + A2.length by omega];rfl,rfl,rfl,rfl,trivial⟩) (fun q ih=>?_);obtain ⟨⟨S1,S2⟩,qS⟩:=q;simp only at qS ih ⊢;have lB:A2.length=S1.length + S2.length:=by rw [qS];simp
  rcases List.eq_nil_or_concat S1 with h | ⟨S1',z,h⟩
  ·subst h;have t2:decide (((a + A1.length + ([]:List α).length:Nat):Int) > ((a + A1.length:Nat):Int))=false:=decide_eq_false (by simp);rw [List.nil_append] at qS;subst qS
   repeat (refine gn ?_)
   refine J.congL (L':=.row v 58 3 ((X ++ (A1 ++ y :: A2) ++ Y).map enc) :: C) (by simp) ?_
   (exact J.retA Try.func82 rfl .nil () (by exact .refl) rfl)
  ·rw [List.concat_eq_append] at h;subst h;have l1:(S1' ++ [z]).length=S1'.length + 1:=by simp
   rw [l1] at lB ⊢;have t2:decide (((a + A1.length + (S1'.length + 1):Nat):Int) > ((a + A1.length:Nat):Int))=true:=decide_eq_true (by omega);have w3:IntKind.i64.wrap (((a + A1.length + (S1'.length + 1):Nat):Int) - 1)=((a + A1.length + S1'.length:Nat):Int):=by rw [w64 (by omega) (by omega)];omega
   have er:X ++ (A1 ++ (S1' ++ [z]) ++ y :: S2) ++ Y=(X ++ A1 ++ S1') ++ z :: y :: (S2 ++ Y):=by simp
   rw [er];have a1:((X ++ A1 ++ S1') ++ z :: y :: (S2 ++ Y))[a + A1.length + S1'.length]?=some z:=by rw [show a + A1.length + S1'.length=(X ++ A1 ++ S1').length by simp;omega];exact Ss.at_app _ _ _
   have a2:((X ++ A1 ++ S1') ++ z :: y :: (S2 ++ Y))[a + A1.length + (S1'.length + 1)]?=some y:=by rw [show a + A1.length + (S1'.length + 1)=((X ++ A1 ++ S1') ++ [z]).length by simp only [List.length_append,List.length_singleton];omega,show (X ++ A1 ++ S1') ++ z :: y :: (S2 ++ Y)=((X ++ A1 ++ S1') ++ [z]) ++ y :: (S2 ++ Y) by simp];exact Ss.at_app _ _ _
   have b1:=s_at (enc:=enc) a1;have b2:=s_at (enc:=enc) a2;have c1:=s_lt' (enc:=enc) a1;have c2:=s_lt' (enc:=enc) a2;have z1:(0:Int)≤((a + A1.length + S1'.length:Nat):Int):=Int.natCast_nonneg _;have z2:(0:Int)≤((a + A1.length + (S1'.length + 1):Nat):Int):=Int.natCast_nonneg _;have sw:=s_sw (enc:=enc) a2 a1;rw [Ss.sw_comm,Ss.sw_adj (X ++ A1 ++ S1') z y (S2 ++ Y) _ _ (by simp;omega) (by simp;omega)] at sw;generalize hR:(X ++ A1 ++ S1') ++ z :: y :: (S2 ++ Y)=R at er b1 b2 c1 c2 sw ⊢;have lt1:((a + A1.length + (S1'.length + 1):Nat):Int).toNat < (R.map enc).length:=by omega
   have lt2:((a + A1.length + S1'.length:Nat):Int).toNat < ((R.map enc).set ((a + A1.length + (S1'.length + 1):Nat):Int).toNat (enc z)).length:=by rw [List.length_set];omega
   repeat (refine gn ?_)
   refine J.draw (by kernel_rfl) rfl ?_;refine JW.base1 none (.tmp 0) rfl ?_;refine tk 0 ?_;refine tk 1 ?_;refine tk 2 ?_;refine tk 3 ?_;refine JD.take 4 rfl rfl (by kernel_rfl) rfl (qb rfl) (Qt.ari rfl rfl rfl w3) rfl ?_;refine tk 5 ?_;refine tk 6 ?_;refine JD.take 7 rfl rfl (by kernel_rfl) rfl (qb rfl) (Qt.ari rfl rfl rfl w3) rfl ?_;refine JD.take 8 rfl rfl (by kernel_rfl) rfl (qb rfl) (Qt.indexO rfl rfl z1 c1) rfl ?_;refine tk 10 ?_;refine tk 11 ?_;refine JD.take 12 rfl rfl (by kernel_rfl) rfl (qb rfl) (Qt.indexO rfl rfl z2 c2) rfl ?_;refine JD.each2 (i:=9) (j:=13) (by kernel_rfl) ?_ ?_;refine JS.q rfl rfl rfl (qb rfl) (Qt.loadWo rfl b1 (hz _)) ?_;refine jk 13 rfl rfl rfl rfl (Qt.loadWo rfl b2 (hz _)) ?_;refine JD.take 14 rfl rfl (by kernel_rfl) rfl (qb rfl) (Qt.indexO rfl rfl z2 c2) rfl ?_;refine JD.each1 (i:=15) (by kernel_rfl) ?_;refine JS.st rfl rfl rfl (Ld.storeOW rfl rfl rfl (hz _) lt1) (.trow rfl) (fun _=>?_);refine JD.take 16 rfl rfl (by kernel_rfl) rfl (qb rfl) (Qt.indexO rfl rfl z1 c1) rfl ?_;refine JD.each1 (i:=17) (by kernel_rfl) ?_;refine JS.st rfl rfl rfl (Ld.storeOW rfl rfl rfl (hz _) lt2) (.trow rfl) (fun _=>?_);refine dnQ ?_
   rotate_left
   refine JS.q rfl rfl rfl (qb rfl) (Qt.loadWo rfl b2 (hz _)) ?_;refine jk 9 rfl rfl rfl rfl (Qt.loadWo rfl b1 (hz _)) ?_;refine JD.take 14 rfl rfl (by kernel_rfl) rfl (qb rfl) (Qt.indexO rfl rfl z2 c2) rfl ?_;refine JD.each1 (i:=15) (by kernel_rfl) ?_;refine JS.st rfl rfl rfl (Ld.storeOW rfl rfl rfl (hz _) lt1) (.trow rfl) (fun _=>?_);refine JD.take 16 rfl rfl (by kernel_rfl) rfl (qb rfl) (Qt.indexO rfl rfl z1 c1) rfl ?_;refine JD.each1 (i:=17) (by kernel_rfl) ?_;refine JS.st rfl rfl rfl (Ld.storeOW rfl rfl rfl (hz _) lt2) (.trow rfl) (fun _=>?_);refine dnQ ?_
   rotate_left
   all_goals
    repeat (first | (refine K.binOp ?_;refine jq rfl rfl rfl ((Qt.ari rfl rfl rfl w3)) ?_) | refine gn ?_)
    refine J.congL ?_ ((ih ⟨(S1',z :: S2),by simp [qS]⟩ (by simp)).weak ⟨rfl,rfl,rfl,rfl,trivial⟩);simp only;refine congrArg (fun r=>Res.row v 58 3 r :: C) (Eq.trans ?_ sw.symm);simp
end
end Fl
open Go.RowKit
namespace Fl
set_option maxRecDepth 100000
set_option maxHeartbeats 4000000
section
variable {α:Type} {enc:α→List A} {key:α→Int} {fv:Value} {C:List Res}
theorem s_symCPt (CF:CmpFn Try.prog fv C enc key) (hz:∀ x,(enc x).length=3) (v:Value) (s:Nat) (IH:∀ (l X A0 B0 Y:List α) (a m b:Nat),A0.length + B0.length≤s→l=X ++ A0 ++ B0 ++ Y→a=X.length→m=a + A0.length→b=m + B0.length→A0.length≠0→B0.length≠0→Ss.Srt key A0→Ss.Srt key B0→l.length≤1000000 →
  Con Try.prog 82 [.c (.v v),.c (nI a),.c (nI m),.c (nI b),.c (.v fv)] (.row v 58 3 (l.map enc) :: C) (fun _:Unit=>(.tup [],.row v 58 3 ((X ++ Ss.mg key A0 B0 ++ Y).map enc) :: C))) (l X A0 B0 Y:List α) (a m b:Nat) (hs:A0.length + B0.length≤s + 1) (hl:l=X ++ A0 ++ B0 ++ Y) (ha:a=X.length) (hm:m=a + A0.length) (hb:b=m + B0.length) (nA:A0.length≠0) (nB:B0.length≠0) (sA:Ss.Srt key A0) (sB:Ss.Srt key B0) (hn:l.length≤1000000) (h1:A0.length≠1) (h2:B0.length≠1) :
  Con Try.prog 82 [.c (.v v),.c (nI a),.c (nI m),.c (nI b),.c (.v fv)] (.row v 58 3 (l.map enc) :: C) (fun _:Unit=>(.tup [],.row v 58 3 ((X ++ Ss.mg key A0 B0 ++ Y).map enc) :: C)):=by
 have len:l.length=b + Y.length:=by rw [hl];simp;omega
 have w0 (_:Unit):IntKind.i64.wrap ((m:Int) - (a:Int))=(A0.length:Int):=by rw [w64 (by omega) (by omega)];omega
 have w1 (_:Unit):IntKind.i64.wrap ((b:Int) - (m:Int))=(B0.length:Int):=by rw [w64 (by omega) (by omega)];omega
 refine Con.intro Try.func82 rfl rfl rfl (fun ok e=>?_);have t0:((A0.length:Int) == 1)=false:=by simp;omega
 have t9:((B0.length:Int) == 1)=false:=by simp;omega
 obtain ⟨mid,hmid⟩:∃ mid,(a + b) / 2=mid:=⟨_,rfl⟩
 obtain ⟨n,hn'⟩:∃ n,mid + m=n:=⟨_,rfl⟩
 obtain ⟨s0,r0,h0⟩:∃ s0 r0,m > mid∧s0=n - b∧r0=mid∨¬ m > mid∧s0=a∧r0=m:=by
  by_cases c:m > mid
  ·exact ⟨_,_,.inl ⟨c,rfl,rfl⟩⟩
  ·exact ⟨_,_,.inr ⟨c,rfl,rfl⟩⟩
 generalize hp:(fun c=>!decide (Ss.ky key l (n - 1 - c) < Ss.ky key l c))=p;obtain ⟨A1,A2,B1,B2,eA,eB,k1,k2,k3,k4,k5⟩:=Ss.parts X A0 B0 Y a m b ha hm hb sA sB (by rintro rfl;exact nA rfl) (by rintro rfl;exact nB rfl) mid n s0 r0 hmid.symm hn'.symm h0 p (fun c _ _=>by rw [← hp,← hl]);have lA:A0.length=A1.length + A2.length:=by rw [eA,List.length_append]
 have lB:B0.length=B1.length + B2.length:=by rw [eB,List.length_append]
 have sA':=eA ▸ sA;have sB':=eB ▸ sB;have em:Ss.mg key A0 B0=Ss.mg key A1 B1 ++ Ss.mg key A2 B2:=by rw [eA,eB];exact Ss.mg_parts k4 k5
 rw [em];have w2 (_:Unit):IntKind.i64.wrap ((a:Int) + (b:Int))=((a + b:Nat):Int):=s_half (by omega);have w3 (_:Unit):IntKind.u64.wrap ((a + b:Nat):Int)=((a + b:Nat):Int):=s_u64 (by omega);have w4 (_:Unit):IntKind.i64.wrap (((a + b) / 2:Nat):Int)=(mid:Int):=by rw [hmid];exact w64 (by omega) (by omega)
 have w5 (_:Unit):IntKind.i64.wrap ((mid:Int) + (m:Int))=(n:Int):=by rw [s_half (by omega),hn']
 have w6 (_:Unit):IntKind.i64.wrap ((n:Int) - (b:Int))=(n:Int) - (b:Int):=w64 (by omega) (by omega);have w7 (_:Unit):IntKind.i64.wrap ((n:Int) - 1)=((n - 1:Nat):Int):=by rw [w64 (by omega) (by omega)];omega
 have hh:a + b≤4000000:=by omega
 obtain ⟨g,hg⟩:∃ g,decide ((m:Int) > (mid:Int))=g:=⟨_,rfl⟩
 repeat (first | (refine K.binOp ?_;first | refine jq rfl rfl rfl ((Qt.ari rfl rfl rfl (w0 ()))) ?_ | refine jq rfl rfl rfl ((Qt.ari rfl rfl rfl (w1 ()))) ?_ | refine jq rfl rfl rfl ((Qt.ari rfl rfl rfl (w2 ()))) ?_ | refine jq rfl rfl rfl (Qt.bin rfl rfl (fun w=>s_shr hh)) ?_ | refine jq rfl rfl rfl ((Qt.ari rfl rfl rfl (w5 ()))) ?_) | (refine K.convert ?_;first | refine jq rfl rfl rfl (Qt.conv rfl (w3 ())) ?_ | refine jq rfl rfl rfl (Qt.conv rfl (w4 ())) ?_) | refine gn ?_)
 refine J.joinS (ι:=Unit) (fun _=>[(20,.c (nI s0)),(21,.c (nI r0)),(18,.c (nI mid)),(19,.c (nI n)),(0,.c (.v v)),(1,.c (nI a)),(2,.c (nI m)),(3,.c (nI b)),(4,.c (.v fv))]) (fun _=>.row v 58 3 (l.map enc) :: C) (fun _=>?_) (fun KK rest=>?_)
 rotate_left
 ·rcases h0 with ⟨c,rfl,rfl⟩ | ⟨c,rfl,rfl⟩
  ·obtain rfl:g=true:=by rw [← hg];exact decide_eq_true (by omega)
   have w8 (_:Unit):IntKind.i64.wrap ((n:Int) - (b:Int))=((n - b:Nat):Int):=by rw [w6 ()];omega
   repeat (first | (refine K.binOp ?_;refine jq rfl rfl rfl ((Qt.ari rfl rfl rfl (w8 ()))) ?_) | refine gn ?_)
   exact (rest ()).weak ⟨rfl,rfl,rfl,rfl,rfl,rfl,rfl,rfl,rfl,trivial⟩
  ·obtain rfl:g=false:=by rw [← hg];exact decide_eq_false (by omega)
   repeat (refine gn ?_)
   exact (rest ()).weak ⟨rfl,rfl,rfl,rfl,rfl,rfl,rfl,rfl,rfl,trivial⟩
 have hmb:a < mid∧mid < b:=by omega
 have fc:s0≤r0∧r0≤1000000∧n≤2000000:=by omega
 have fd:∀ c,s0≤c→c < r0→c < l.length∧n - 1 - c < l.length∧c + 1≤n:=by omega
 rw [k1] at k2;have k2:n=m + B1.length + (a + A1.length):=by omega
 clear h0 hmid hn' hg w6;obtain ⟨fc1,fc2,fc3⟩:=fc
 repeat (first | (refine K.binOp ?_;refine jq rfl rfl rfl ((Qt.ari rfl rfl rfl (w7 ()))) ?_) | refine gn ?_)
 refine J.loop (ι:={ q:Nat × Nat // s0≤q.1∧q.1≤q.2∧q.2≤r0∧Ss.bs p q.1 q.2=a + A1.length }) (fun q=>[(20,.c (nI q.1.1)),(21,.c (nI q.1.2)),(22,.c (nI (n - 1:Nat))),(18,.c (nI mid)),(19,.c (nI n)),(0,.c (.v v)),(1,.c (nI a)),(2,.c (nI m)),(3,.c (nI b)),(4,.c (.v fv))]) (fun q=>.row v 58 3 (l.map enc) :: C) (fun q=>q.1.2 - q.1.1) ⟨(s0,r0),Nat.le_refl _,fc1,Nat.le_refl _,k1⟩ (fun X h=>h.weak ⟨rfl,rfl,rfl,rfl,rfl,rfl,rfl,rfl,rfl,rfl,trivial⟩) (fun q ih=>?_);obtain ⟨⟨i,j⟩,q1,q2,q3,q4⟩:=q;simp only at q1 q2 q3 q4 ih ⊢
 by_cases hk:i < j
 ·have t1:decide ((i:Int) < (j:Int))=true:=decide_eq_true (by omega);obtain ⟨f1,f2,f3⟩:=fd ((i + j) / 2) (by omega) (by omega);obtain ⟨x,ax⟩:∃ x,l[(i + j) / 2]?=some x:=⟨_,List.getElem?_eq_getElem f1⟩
  obtain ⟨y,ay⟩:∃ y,l[n - 1 - (i + j) / 2]?=some y:=⟨_,List.getElem?_eq_getElem f2⟩
  have bx:=s_at (enc:=enc) ax;have cx (_:Unit):=s_lt' (enc:=enc) ax;have zx (_:Unit):(0:Int)≤(((i + j) / 2:Nat):Int):=Int.natCast_nonneg _;have by':=s_at (enc:=enc) ay
  have cy (_:Unit):=s_lt' (enc:=enc) ay;have zy (_:Unit):(0:Int)≤((n - 1 - (i + j) / 2:Nat):Int):=Int.natCast_nonneg _;have py:p ((i + j) / 2)=!decide (key y < key x):=by rw [← hp];simp only;rw [Ss.ky_some ax,Ss.ky_some ay]
  have v2 (_:Unit):IntKind.i64.wrap ((i:Int) + (j:Int))=((i + j:Nat):Int):=s_half (by omega);have v3 (_:Unit):IntKind.u64.wrap ((i + j:Nat):Int)=((i + j:Nat):Int):=s_u64 (by omega);have v4 (_:Unit):IntKind.i64.wrap (((i + j) / 2:Nat):Int)=(((i + j) / 2:Nat):Int):=w64 (by omega) (by omega);have v5 (_:Unit):IntKind.i64.wrap ((((i + j) / 2:Nat):Int) + 1)=(((i + j) / 2 + 1:Nat):Int):=by rw [w64 (by omega) (by omega)];omega
  have v6 (_:Unit):IntKind.i64.wrap (((n - 1:Nat):Int) - (((i + j) / 2:Nat):Int))=((n - 1 - (i + j) / 2:Nat):Int):=by rw [w64 (by omega) (by omega)];omega
  have hh':i + j≤4000000:=by omega
  repeat (first | (refine K.binOp ?_;first | refine jq rfl rfl rfl ((Qt.ari rfl rfl rfl (v2 ()))) ?_ | refine jq rfl rfl rfl (Qt.bin rfl rfl (fun w=>s_shr hh')) ?_) | (refine K.convert ?_;first | refine jq rfl rfl rfl (Qt.conv rfl (v3 ())) ?_ | refine jq rfl rfl rfl (Qt.conv rfl (v4 ())) ?_) | refine gn ?_)
  cases t3:decide (key y < key x) with
  | true =>
   rw [t3] at py;refine J.draw (by kernel_rfl) rfl ?_;refine JW.base none ?_;refine tk 0 ?_;refine tk 1 ?_;refine tk 2 ?_;refine tk 3 ?_;refine JD.take 4 rfl rfl (by kernel_rfl) rfl (qb rfl) (Qt.ari rfl rfl rfl (v6 ())) rfl ?_;refine JD.take 5 rfl rfl (by kernel_rfl) rfl (qb rfl) (Qt.indexO rfl rfl (zy ()) (cy ())) rfl ?_;refine JD.take 6 rfl rfl (by kernel_rfl) rfl (qb rfl) (Qt.loadWo rfl by' (hz _)) rfl ?_;refine tk 7 ?_;refine tk 8 ?_;refine JD.take 9 rfl rfl (by kernel_rfl) rfl (qb rfl) (Qt.indexO rfl rfl (zx ()) (cx ())) rfl ?_;refine JD.take 10 rfl rfl (by kernel_rfl) rfl (qb rfl) (Qt.loadWo rfl bx (hz _)) rfl ?_;refine jl 11 rfl rfl rfl rfl (Ld.cmpV CF y x ⟨[_],rfl⟩ (qb rfl) rfl rfl rfl) .none (fun _=>?_);refine jk 12 rfl rfl rfl rfl (Qt.cmp rfl rfl (congrArg some (cq_lt t3))) ?_;refine jk 13 rfl rfl rfl rfl (Qt.not rfl) ?_;refine dnQ ?_
   repeat (refine gn ?_)
   exact (ih ⟨(i,(i + j) / 2),q1,by simp only;omega,by simp only;omega,by simp only;rw [← Ss.bs_f hk py];exact q4⟩ (by simp only;omega)).weak ⟨rfl,rfl,rfl,rfl,rfl,rfl,rfl,rfl,rfl,rfl,trivial⟩
  | false =>
   rw [t3] at py;refine J.draw (by kernel_rfl) rfl ?_;refine JW.base none ?_;refine tk 0 ?_;refine tk 1 ?_;refine tk 2 ?_;refine tk 3 ?_;refine JD.take 4 rfl rfl (by kernel_rfl) rfl (qb rfl) (Qt.ari rfl rfl rfl (v6 ())) rfl ?_;refine JD.take 5 rfl rfl (by kernel_rfl) rfl (qb rfl) (Qt.indexO rfl rfl (zy ()) (cy ())) rfl ?_;refine JD.take 6 rfl rfl (by kernel_rfl) rfl (qb rfl) (Qt.loadWo rfl by' (hz _)) rfl ?_;refine tk 7 ?_;refine tk 8 ?_;refine JD.take 9 rfl rfl (by kernel_rfl) rfl (qb rfl) (Qt.indexO rfl rfl (zx ()) (cx ())) rfl ?_;refine JD.take 10 rfl rfl (by kernel_rfl) rfl (qb rfl) (Qt.loadWo rfl bx (hz _)) rfl ?_;refine jl 11 rfl rfl rfl rfl (Ld.cmpV CF y x ⟨[_],rfl⟩ (qb rfl) rfl rfl rfl) .none (fun _=>?_);refine jk 12 rfl rfl rfl rfl (Qt.cmp rfl rfl (congrArg some (cq_lt t3))) ?_;refine jk 13 rfl rfl rfl rfl (Qt.not rfl) ?_;refine dnQ ?_
   repeat (first | (refine K.binOp ?_;refine jq rfl rfl rfl ((Qt.ari rfl rfl rfl (v5 ()))) ?_) | refine gn ?_)
   exact (ih ⟨((i + j) / 2 + 1,j),by simp only;omega,by simp only;omega,q3,by simp only;rw [← Ss.bs_t hk py];exact q4⟩ (by simp only;omega)).weak ⟨rfl,rfl,rfl,rfl,rfl,rfl,rfl,rfl,rfl,rfl,trivial⟩
 ·have t1:decide ((i:Int) < (j:Int))=false:=decide_eq_false (by omega);rw [Ss.bs_e hk] at q4;subst q4;clear ih q1 q2 q3 hk hp k1 fd;have el:l=X ++ A1 ++ A2 ++ B1 ++ B2 ++ Y:=by rw [hl,eA,eB];simp
  have v2 (_:Unit):IntKind.i64.wrap ((n:Int) - ((a + A1.length:Nat):Int))=((m + B1.length:Nat):Int):=by rw [w64 (by omega) (by omega)];omega
  obtain ⟨g1,hg1⟩:∃ g,decide (((a + A1.length:Nat):Int) < (m:Int))=g:=⟨_,rfl⟩
  obtain ⟨g2,hg2⟩:∃ g,decide ((m:Int) < ((m + B1.length:Nat):Int))=g:=⟨_,rfl⟩
  obtain ⟨g3,hg3⟩:∃ g,decide ((a:Int) < ((a + A1.length:Nat):Int))=g:=⟨_,rfl⟩
  obtain ⟨g4,hg4⟩:∃ g,decide (((a + A1.length:Nat):Int) < (mid:Int))=g:=⟨_,rfl⟩
  obtain ⟨g5,hg5⟩:∃ g,decide ((mid:Int) < ((m + B1.length:Nat):Int))=g:=⟨_,rfl⟩
  obtain ⟨g6,hg6⟩:∃ g,decide (((m + B1.length:Nat):Int) < (b:Int))=g:=⟨_,rfl⟩
  repeat (first | (refine K.binOp ?_;refine jq rfl rfl rfl ((Qt.ari rfl rfl rfl (v2 ()))) ?_) | refine gn ?_)
  refine JO.joinS (ι:=Unit) (fun _=>[(24,.c (nI (m + B1.length:Nat))),(20,.c (nI (a + A1.length:Nat))),(18,.c (nI mid)),(0,.c (.v v)),(1,.c (nI a)),(2,.c (nI m)),(3,.c (nI b)),(4,.c (.v fv))]) (fun _=>.row v 58 3 ((X ++ A1 ++ B1 ++ A2 ++ B2 ++ Y).map enc) :: C) (fun _=>?_) (fun KK rest=>?_)
  rotate_left
  ·cases g1 with
   | true =>
    cases g2 with
    | true =>
     have r1:=of_decide_eq_true hg1;have r2:=of_decide_eq_true hg2;have CR:=s_rotPt (fv:=fv) hz v l (X ++ A1) A2 B1 (B2 ++ Y) (a + A1.length) m (m + B1.length) (by rw [el];simp) (by simp;omega) (by omega) rfl (by omega) (by omega) hn
     repeat (first | (refine K.call ?_;refine JO.ld (Ld.callT (CR) (qb rfl) rfl (.cons .refl (.cons .refl (.cons .refl (.cons .refl (.cons .refl .nil)))))) rfl (fun _=>?_)) | refine gn ?_)
     refine J.congL ?_ ((rest ()).weak ⟨rfl,rfl,rfl,rfl,rfl,rfl,rfl,rfl,trivial⟩);simp
    | false =>
     have r2:=of_decide_eq_false hg2;have r3:B1=[]:=List.length_eq_zero_iff.1 (by omega)
     repeat (refine gn ?_)
     refine J.congL ?_ ((rest ()).weak ⟨rfl,rfl,rfl,rfl,rfl,rfl,rfl,rfl,trivial⟩);rw [el,r3];simp
   | false =>
    have r1:=of_decide_eq_false hg1;have r3:A2=[]:=List.length_eq_zero_iff.1 (by omega)
    repeat (refine gn ?_)
    refine J.congL ?_ ((rest ()).weak ⟨rfl,rfl,rfl,rfl,rfl,rfl,rfl,rfl,trivial⟩);rw [el,r3];simp
  have ln1:(X ++ A1 ++ B1 ++ A2 ++ B2 ++ Y).length≤1000000:=by
   have:(X ++ A1 ++ B1 ++ A2 ++ B2 ++ Y).length=l.length:=by rw [el];simp;omega
   omega
  have ln2:(X ++ Ss.mg key A1 B1 ++ A2 ++ B2 ++ Y).length≤1000000:=by
   simp only [List.length_append,Ss.mg_length] at ln1 ⊢;omega
  clear hl el hg1 hg2
  repeat (refine gn ?_)
  refine JO.joinS (ι:=Unit) (fun _=>[(24,.c (nI (m + B1.length:Nat))),(18,.c (nI mid)),(0,.c (.v v)),(3,.c (nI b)),(4,.c (.v fv))]) (fun _=>.row v 58 3 ((X ++ Ss.mg key A1 B1 ++ A2 ++ B2 ++ Y).map enc) :: C) (fun _=>?_) (fun KK rest=>?_)
  rotate_left
  ·cases g3 with
   | true =>
    cases g4 with
    | true =>
     have r1:=of_decide_eq_true hg3;have r2:=of_decide_eq_true hg4;have CR:=IH (X ++ A1 ++ B1 ++ A2 ++ B2 ++ Y) X A1 B1 (A2 ++ B2 ++ Y) a (a + A1.length) mid (by omega) (by simp) ha rfl (by omega) (by omega) (by omega) sA'.left sB'.left ln1
     repeat (first | (refine K.call ?_;refine JO.ld (Ld.callA (CR) (qb rfl) rfl (.cons .refl (.cons .refl (.cons .refl (.cons .refl (.cons .refl .nil)))))) rfl (fun _=>?_)) | refine gn ?_)
     refine J.congL ?_ ((rest ()).weak ⟨rfl,rfl,rfl,rfl,rfl,trivial⟩);simp
    | false =>
     have r2:=of_decide_eq_false hg4;have r3:B1=[]:=List.length_eq_zero_iff.1 (by omega)
     repeat (refine gn ?_)
     refine J.congL ?_ ((rest ()).weak ⟨rfl,rfl,rfl,rfl,rfl,trivial⟩);rw [r3,Ss.mg_nilR];simp
   | false =>
    have r1:=of_decide_eq_false hg3;have r3:A1=[]:=List.length_eq_zero_iff.1 (by omega)
    repeat (refine gn ?_)
    refine J.congL ?_ ((rest ()).weak ⟨rfl,rfl,rfl,rfl,rfl,trivial⟩);rw [r3,Ss.mg_nilL];simp
  have lm:=Ss.mg_length (key:=key) A1 B1
  cases g5 with
  | true =>
   cases g6 with
   | true =>
    have r1:=of_decide_eq_true hg5;have r2:=of_decide_eq_true hg6;have CR:=IH (X ++ Ss.mg key A1 B1 ++ A2 ++ B2 ++ Y) (X ++ Ss.mg key A1 B1) A2 B2 Y mid (m + B1.length) b (by omega) rfl (by rw [List.length_append,lm];omega) (by omega) (by omega) (by omega) (by omega) sA'.right sB'.right ln2
    repeat (first | (refine K.call ?_;refine JO.ld (Ld.callA (CR) (qb rfl) rfl (.cons .refl (.cons .refl (.cons .refl (.cons .refl (.cons .refl .nil)))))) rfl (fun _=>?_)) | refine gn ?_)
    refine J.congL (L':=.row v 58 3 ((X ++ (Ss.mg key A1 B1 ++ Ss.mg key A2 B2) ++ Y).map enc) :: C) (by simp) ?_
    (exact J.finA Try.func82 rfl .nil () (by exact .refl) rfl)
   | false =>
    have r2:=of_decide_eq_false hg6;have r3:B2=[]:=List.length_eq_zero_iff.1 (by omega)
    repeat (refine gn ?_)
    refine J.congL (L':=.row v 58 3 ((X ++ (Ss.mg key A1 B1 ++ Ss.mg key A2 B2) ++ Y).map enc) :: C) (by rw [r3,Ss.mg_nilR];simp) ?_
    (exact J.finA Try.func82 rfl .nil () (by exact .refl) rfl)
  | false =>
   have r1:=of_decide_eq_false hg5;have r3:A2=[]:=List.length_eq_zero_iff.1 (by omega)
   repeat (refine gn ?_)
   refine J.congL (L':=.row v 58 3 ((X ++ (Ss.mg key A1 B1 ++ Ss.mg key A2 B2) ++ Y).map enc) :: C) (by rw [r3,Ss.mg_nilL];simp) ?_
   (exact J.finA Try.func82 rfl .nil () (by exact .refl) rfl)
theorem s_symPt (CF:CmpFn Try.prog fv C enc key) (hz:∀ x,(enc x).length=3) (v:Value):∀ (s:Nat) (l X A0 B0 Y:List α) (a m b:Nat),A0.length + B0.length≤s→l=X ++ A0 ++ B0 ++ Y→a=X.length→m=a + A0.length→b=m + B0.length→A0.length≠0→B0.length≠0→Ss.Srt key A0→Ss.Srt key B0→l.length≤1000000 →
  Con Try.prog 82 [.c (.v v),.c (nI a),.c (nI m),.c (nI b),.c (.v fv)] (.row v 58 3 (l.map enc) :: C) (fun _:Unit=>(.tup [],.row v 58 3 ((X ++ Ss.mg key A0 B0 ++ Y).map enc) :: C))
 | 0,l,X,A0,B0,Y,a,m,b,hs,hl,ha,hm,hb,nA,nB,sA,sB,hn=>by omega
 | s + 1,l,X,A0,B0,Y,a,m,b,hs,hl,ha,hm,hb,nA,nB,sA,sB,hn=>by
  by_cases h1:A0.length=1
  ·exact s_symAPt CF hz v l X A0 B0 Y a m b hl ha hm hb nA nB sA sB hn h1
  ·by_cases h2:B0.length=1
   ·exact s_symBPt CF hz v l X A0 B0 Y a m b hl ha hm hb nA nB sA sB hn h1 h2
   ·exact s_symCPt CF hz v s (s_symPt CF hz v s) l X A0 B0 Y a m b hs hl ha hm hb nA nB sA sB hn h1 h2
end
end Fl
open Go.RowKit
namespace Fl
set_option maxRecDepth 100000
set_option maxHeartbeats 4000000
section
variable {α:Type} {enc:α→List A} {key:α→Int} {fv:Value} {C:List Res}
theorem s_stablePt (CF:CmpFn Try.prog fv C enc key) (hz:∀ x,(enc x).length=3) (v:Value) (l0:List α) (N:Nat) (hN:N=l0.length) (hs:N≤100000) :
  Con Try.prog 75 [.c (.v v),.c (nI N),.c (.v fv)] (.row v 58 3 (l0.map enc) :: C) (fun _:Unit=>(.tup [],.row v 58 3 ((Ss.srt key l0).map enc) :: C)):=by
 refine Con.intro Try.func75 rfl rfl rfl (fun ok e=>?_)
 repeat (refine gn ?_)
 refine J.loop (ι:={ q:List α × List α // q.1 ++ Ss.blk key 20 q.2=Ss.blk key 20 l0∧q.1.length + q.2.length=N }) (fun q=>[(7,.c (nI q.1.1.length)),(8,.c (nI (q.1.1.length + 20:Nat))),(6,.c (nI (20:Nat))),(0,.c (.v v)),(1,.c (nI N)),(2,.c (.v fv))]) (fun q=>.row v 58 3 ((q.1.1 ++ q.1.2).map enc) :: C) (fun q=>q.1.2.length) ⟨([],l0),rfl,by simp [hN]⟩ (fun X h=>h.weak ⟨rfl,rfl,rfl,rfl,rfl,rfl,trivial⟩) (fun q ih=>?_);obtain ⟨⟨Z,R⟩,q7b,q7l⟩:=q;simp only at q7b q7l ih ⊢
 by_cases hk:Z.length + 20≤N
 ·have t1:decide (((Z.length + 20:Nat):Int)≤(N:Int))=true:=decide_eq_true (by omega);have lt:(R.take 20).length=20:=by rw [List.length_take];omega
  have ld:(R.drop 20).length=R.length - 20:=List.length_drop;have ls:=Ss.srt_len (key:=key) (R.take 20);have CI:=s_insAPt CF hz v (Z ++ R) Z (R.take 20) (R.drop 20) Z.length (Z.length + 20) (by rw [List.append_assoc,List.take_append_drop]) rfl (by omega) (by omega);have w1:IntKind.i64.wrap (((Z.length + 20:Nat):Int) + ((20:Nat):Int))=((Z.length + 20 + 20:Nat):Int):=s_half (by omega);rw [Ss.blk_ge (by omega) (by decide),← List.append_assoc] at q7b
  repeat (first | (refine K.binOp ?_;refine jq rfl rfl rfl ((Qt.ari rfl rfl rfl w1)) ?_) | (refine K.call ?_;refine JO.ld (Ld.callA (CI) (qb rfl) rfl (by (exact LeDs.cons .refl (.cons .refl (.cons .refl (.cons .refl .nil)))))) rfl ?_;intro _) | refine gn ?_)
  exact (ih ⟨(Z ++ Ss.srt key (R.take 20),R.drop 20),q7b,by simp only [List.length_append];omega⟩ (by simp only;omega)).weak ⟨by simp only [List.length_append,ls,lt];rfl,by simp only [List.length_append,ls,lt];rfl,rfl,rfl,rfl,rfl,trivial⟩
 ·have t1:decide (((Z.length + 20:Nat):Int)≤(N:Int))=false:=decide_eq_false (by omega);have CI:=s_insAPt CF hz v (Z ++ R) Z R [] Z.length N (by simp) rfl (by omega) (by simp;omega);rw [Ss.blk_le (by omega)] at q7b;rw [List.append_nil,q7b] at CI;clear ih hk
  repeat (first | (refine K.call ?_;refine JO.ld (Ld.callA (CI) (qb rfl) rfl (by (exact LeDs.cons .refl (.cons .refl (.cons .refl (.cons .refl .nil)))))) rfl ?_;intro _) | refine gn ?_)
  clear t1 CI q7b q7l;refine J.loop (ι:={ k:Nat // 0 < k∧k≤200020 }) (fun q=>[(6,.c (nI q.1)),(0,.c (.v v)),(1,.c (nI N)),(2,.c (.v fv))]) (fun q=>.row v 58 3 ((Ss.blk key q.1 l0).map enc) :: C) (fun q=>N - q.1) ⟨20,by omega,by omega⟩ (fun X h=>h.weak ⟨rfl,rfl,rfl,rfl,trivial⟩) (fun q ih=>?_);obtain ⟨k,k0,k1⟩:=q;simp only at k0 k1 ih ⊢
  by_cases hk:k < N
  ·have t1:decide ((k:Int) < (N:Int))=true:=decide_eq_true (by omega);have w2:IntKind.i64.wrap (2 * (k:Int))=((2 * k:Nat):Int):=by rw [w64 (by omega) (by omega)];omega
   have w3:IntKind.i64.wrap ((k:Int) * 2)=((2 * k:Nat):Int):=by rw [w64 (by omega) (by omega)];omega
   have ih1:=ih ⟨2 * k,by omega,by omega⟩ (by simp only;omega);clear ih;simp only at ih1
   repeat (first | (refine K.binOp ?_;refine jq rfl rfl rfl ((Qt.ari rfl rfl rfl w2)) ?_) | refine gn ?_)
   refine J.loop (ι:={ q:List α × List α // q.1 ++ Ss.blk key (2 * k) q.2=Ss.blk key (2 * k) l0∧q.1.length + q.2.length=N }) (fun q=>[(7,.c (nI q.1.1.length)),(8,.c (nI (q.1.1.length + 2 * k:Nat))),(6,.c (nI k)),(0,.c (.v v)),(1,.c (nI N)),(2,.c (.v fv))]) (fun q=>.row v 58 3 ((q.1.1 ++ Ss.blk key k q.1.2).map enc) :: C) (fun q=>q.1.2.length) ⟨([],l0),rfl,by simp [hN]⟩ (fun X h=>h.weak ⟨rfl,by rw [show ([]:List α).length + 2 * k=2 * k by simp];rfl,rfl,rfl,rfl,rfl,trivial⟩) (fun q ih=>?_);obtain ⟨⟨Z,R⟩,q7b,q7l⟩:=q;simp only at q7b q7l ih ⊢;have w4:IntKind.i64.wrap ((Z.length:Int) + (k:Int))=((Z.length + k:Nat):Int):=s_half (by omega);have lt:(R.take k).length=min k R.length:=List.length_take;have ld:(R.drop k).length=R.length - k:=List.length_drop;have ls:=Ss.srt_len (key:=key) (R.take k)
   by_cases hj:Z.length + 2 * k≤N
   ·have t2:decide (((Z.length + 2 * k:Nat):Int)≤(N:Int))=true:=decide_eq_true (by omega);have lt2:((R.drop k).take k).length=k:=by rw [List.length_take];omega
    have ls2:=Ss.srt_len (key:=key) ((R.drop k).take k);have ld2:(R.drop (2 * k)).length=R.length - 2 * k:=List.length_drop;have lt3:(R.take (2 * k)).length=2 * k:=by rw [List.length_take];omega
    have ls3:=Ss.srt_len (key:=key) (R.take (2 * k));have w5:IntKind.i64.wrap (((Z.length + 2 * k:Nat):Int) + ((2 * k:Nat):Int))=((Z.length + 2 * k + 2 * k:Nat):Int):=s_half (by omega);have e1:Ss.blk key k R=Ss.srt key (R.take k) ++ (Ss.srt key ((R.drop k).take k) ++ Ss.blk key k (R.drop (2 * k))):=by
     rw [Ss.blk_ge (by omega) (by omega),Ss.blk_ge (l:=R.drop k) (by omega) (by omega),List.drop_drop,show k + k=2 * k by omega]
    have e2:Ss.mg key (Ss.srt key (R.take k)) (Ss.srt key ((R.drop k).take k))=Ss.srt key (R.take (2 * k)):=by
     rw [Ss.srt_merge,show 2 * k=k + k by omega,List.take_add]
    have lb:=Ss.blk_len (key:=key) (R.drop (2 * k)).length k (R.drop (2 * k)) (Nat.le_refl _);have CM:=s_symPt CF hz v _ (Z ++ Ss.blk key k R) Z (Ss.srt key (R.take k)) (Ss.srt key ((R.drop k).take k)) (Ss.blk key k (R.drop (2 * k))) Z.length (Z.length + k) (Z.length + 2 * k) (Nat.le_refl _) (by rw [e1];simp) rfl (by omega) (by omega) (by omega) (by omega) (Ss.srt_srt _) (Ss.srt_srt _) (by rw [e1];simp only [List.length_append];omega);rw [e2] at CM;rw [Ss.blk_ge (by omega) (by omega),← List.append_assoc] at q7b
    repeat (first | (refine K.binOp ?_;first | refine jq rfl rfl rfl ((Qt.ari rfl rfl rfl w4)) ?_ | refine jq rfl rfl rfl ((Qt.ari rfl rfl rfl w2)) ?_ | refine jq rfl rfl rfl ((Qt.ari rfl rfl rfl w5)) ?_) | (refine K.call ?_;refine JO.ld (Ld.callA (CM) (qb rfl) rfl (.cons .refl (.cons .refl (.cons .refl (.cons .refl (.cons .refl .nil)))))) rfl (fun _=>?_)) | refine gn ?_)
    exact (ih ⟨(Z ++ Ss.srt key (R.take (2 * k)),R.drop (2 * k)),q7b,by simp only [List.length_append];omega⟩ (by simp only;omega)).weak ⟨by simp only [List.length_append,ls3,lt3];rfl,by simp only [List.length_append,ls3,lt3];rfl,rfl,rfl,rfl,rfl,trivial⟩
   ·have t2:decide (((Z.length + 2 * k:Nat):Int)≤(N:Int))=false:=decide_eq_false (by omega);clear ih;rw [Ss.blk_le (by omega)] at q7b
    by_cases hm:Z.length + k < N
    ·have t3:decide (((Z.length + k:Nat):Int) < (N:Int))=true:=decide_eq_true (by omega);have ls2:=Ss.srt_len (key:=key) (R.drop k);have e1:Ss.blk key k R=Ss.srt key (R.take k) ++ Ss.srt key (R.drop k):=by
      rw [Ss.blk_ge (by omega) (by omega),Ss.blk_le (l:=R.drop k) (by omega)]
     have e2:Ss.mg key (Ss.srt key (R.take k)) (Ss.srt key (R.drop k))=Ss.srt key R:=by
      rw [Ss.srt_merge,List.take_append_drop]
     have CM:=s_symPt CF hz v _ (Z ++ Ss.blk key k R) Z (Ss.srt key (R.take k)) (Ss.srt key (R.drop k)) [] Z.length (Z.length + k) N (Nat.le_refl _) (by rw [e1];simp) rfl (by omega) (by omega) (by omega) (by omega) (Ss.srt_srt _) (Ss.srt_srt _) (by rw [e1];simp only [List.length_append];omega);rw [e2,List.append_nil,q7b] at CM
     repeat (first | (refine K.binOp ?_;first | refine jq rfl rfl rfl ((Qt.ari rfl rfl rfl w4)) ?_ | refine jq rfl rfl rfl ((Qt.ari rfl rfl rfl w3)) ?_) | (refine K.call ?_;refine JO.ld (Ld.callA (CM) (qb rfl) rfl (.cons .refl (.cons .refl (.cons .refl (.cons .refl (.cons .refl .nil)))))) rfl (fun _=>?_)) | refine gn ?_)
     exact ih1.weak ⟨rfl,rfl,rfl,rfl,trivial⟩
    ·have t3:decide (((Z.length + k:Nat):Int) < (N:Int))=false:=decide_eq_false (by omega);rw [Ss.blk_le (l:=R) (by omega),q7b]
     repeat (first | (refine K.binOp ?_;first | refine jq rfl rfl rfl ((Qt.ari rfl rfl rfl w4)) ?_ | refine jq rfl rfl rfl ((Qt.ari rfl rfl rfl w3)) ?_) | refine gn ?_)
     exact ih1.weak ⟨rfl,rfl,rfl,rfl,trivial⟩
  ·have t1:decide ((k:Int) < (N:Int))=false:=decide_eq_false (by omega);rw [Ss.blk_le (by omega)]
   repeat (refine gn ?_)
   (exact J.finA Try.func75 rfl .nil () (by exact .refl) rfl)
theorem s_sortPt (CF:CmpFn Try.prog fv C enc key) (hz:∀ x,(enc x).length=3) (v:Value) (l0:List α) (hs:l0.length≤100000) :
  Con Try.prog 56 [.c (.v v),.c (.v fv)] (.row v 58 3 (l0.map enc) :: C) (fun _:Unit=>(.tup [],.row v 58 3 ((Ss.srt key l0).map enc) :: C)):=by
 have CS:=s_stablePt CF hz v l0 (l0.map enc).length (by simp) (by simp;omega);refine Con.intro Try.func56 rfl rfl rfl (fun ok e=>?_)
 repeat (first | (refine K.call ?_;refine JO.ld (Ld.callA (CS) (qb rfl) rfl (by (exact LeDs.cons .refl (.cons .refl (.cons .refl .nil))))) rfl ?_;intro _) | refine gn ?_)
 (exact J.finA Try.func56 rfl .nil () (by exact .refl) rfl)
end
end Fl
open Go.RowKit
namespace Fl
set_option maxRecDepth 100000
theorem rc_vsT {ok:Nat→Prop} {w:World}:∀ {zs ys:List Value},RC ok w (vs zs) ys→ys=zs
 | [],ys,h=>by unfold vs at h;simpa [RC] using h
 | z :: zs,ys,h=>by
  change RC ok w (A.v z :: vs zs) ys at h
  unfold RC at h;obtain ⟨x,xs,rfl,h1,h2⟩:=h;unfold RA at h1;rw [h1.1,rc_vsT h2]
theorem CmpFn.box {P:Program} {F:FuncId} {b:Nat} {T:TypeId} {zs:List Value} {α:Type} {enc:α→List A} {key:α→Int} [TyC P F] (hC:∀ x y,Con P F [.agg (enc x),.agg (enc y),.c (.v (.pointer (some ⟨b,0,none⟩)))] [.box b T (vs zs)] (fun _:Unit=>(.c (.v (.int .i64 (cq (key x) (key y)))),[.box b T (vs zs)]))) :
  CmpFn P (.func (.func F) #[] #[.pointer (some ⟨b,0,none⟩)]) [.box b T (vs zs)] enc key:=by
 constructor;intro c f L X ps af gd t tys x y z p q hL ht hx hy hz;obtain ⟨E,rfl⟩:=hL;refine ⟨fun a w s K Q hK=>?_⟩;have h1:=(Ld.callF (P:=P) (c:=c) (T:=X) (ps:=ps) (af:=af) (gd:=gd) (L:=E ++ [.box b T (vs zs)]) (f:=f) (tys:=tys) (args:=[y,z,.const (.pointer (some ⟨b,0,none⟩))]) E (fun _=>E ++ [.box b T (vs zs)]) (hC p q) List.perm_append_comm (fun _=>List.perm_append_comm) ht (by simp only [evDs,hy,hz];rfl) (.cons .refl (.cons .refl (.cons .refl .nil)))).go a w s K Q (fun u v w' kp sx hf=>hK u v w' ?_ sx hf)
 ·have e:=s.val hx;unfold Oper.wp at h1 ⊢;rw [show execOp a.eval ⟨some t,.call ⟨.value x,#[y,z],tys⟩,X,ps,af,gd⟩=execOp a.eval ⟨some t,.call ⟨.value (.func F),[y,z,.const (.pointer (some ⟨b,0,none⟩))].toArray,tys⟩,X,ps,af,gd⟩ by
   simp only [execOp,resolve,e,Deferred.ofValue];simp [Act.eval,invoke,Deferred.ofValue]]
  exact h1
 ·refine ⟨kp.os,kp.tape,kp.output,kp.size,fun k hk _=>?_⟩
  by_cases hb:k=b
  ·subst hb;obtain ⟨v1,h2,h3⟩:=s.res (.box k T (vs zs)) (by simp);obtain ⟨v2,h4,h5⟩:=sx.res (.box k T (vs zs)) (by simp);rw [rc_vsT h3] at h2;rw [rc_vsT h5] at h4;exact h4.trans h2.symm
  ·exact kp.block k hk (by simp [foots,Res.foot,hb])
section
variable {P:Program} {c:Cx} {f:Fm} {L:List Res} {T:TypeId} {ps:String} {af:Array Edge} {gd:Option (Nat × Bool)} {t:Nat}
theorem Qt.mkFun {x:Operand} {F:FuncId} {p:Option Addr} (h:evD f x=some (.c (.v (.pointer p)))):Qt P c [] ⟨t,.makeFunc (.func F) #[] #[x],T,ps,af,gd⟩ f L (.c (.v (.func (.func F) #[] #[.pointer p]))):=⟨fun a w s=>by
 have rx:=s.val h;refine ⟨.func (.func F) #[] #[.pointer p],by unfold RD RA;exact ⟨rfl,rfl⟩,fun w' k=>?_⟩;simp [execOp,rx,Instr.makeFunc,Sem.run_bind]⟩
end
instance tyvPt:TyV Try.prog 89:=⟨by kernel_rfl⟩
theorem t_isNaN (x:Int):Pure Try.prog 76 [.c (nI x)] (.c (bI false)):=by
 have t1:(x != x)=false:=by simp
 refine Con.intro Try.func76 rfl rfl rfl (fun ok e=>?_)
 repeat (refine gn ?_)
 exact rtQ Try.func76
theorem t_compare (x y:Int):Pure Try.prog 58 [.c (nI x),.c (nI y)] (.c (nI (cq x y))):=by
 have CX:=t_isNaN x;have CY:=t_isNaN y;unfold cq;refine Con.intro Try.func58 rfl rfl rfl (fun ok e=>?_)
 by_cases h:x < y
 ·have t1:decide (x < y)=true:=decide_eq_true h;rw [if_pos h]
  repeat (first | refine jCQ t1 ?_ | refine jPQ (CX) ?_ | refine jPQ (CY) ?_ | refine gn ?_)
  exact rtQ Try.func58
 ·have t1:decide (x < y)=false:=decide_eq_false h;rw [if_neg h]
  by_cases h2:x > y
  ·have t2:decide (x > y)=true:=decide_eq_true h2;rw [if_pos h2]
   repeat (first | refine jCQ t1 ?_ | refine jCQ t2 ?_ | refine jPQ (CX) ?_ | refine jPQ (CY) ?_ | refine gn ?_)
   exact rtQ Try.func58
  ·have t2:decide (x > y)=false:=decide_eq_false h2;rw [if_neg h2]
   repeat (first | refine jCQ t1 ?_ | refine jCQ t2 ?_ | refine jPQ (CX) ?_ | refine jPQ (CY) ?_ | refine gn ?_)
   exact rtQ Try.func58
end Fl
namespace Ta
structure Ev where
 step:Int
 g:Int
 op:Int
 ans:Bool
 res:Md.Res
structure Pt where
 step:Int
 kind:Int
 at_:Int
end Ta
namespace Fl
def ePt (e:Ta.Pt):List A:=[nI e.step,nI e.kind,nI e.at_]
theorem t_stepPt (e:Ta.Pt):Pure Try.prog 34 [.agg (ePt e)] (.c (nI e.step)):=by
 refine Con.intro Try.func34 rfl rfl rfl (fun ok e=>?_)
 repeat (first | refine gmQ ?_ | intro _)
 (exact J.retE [_] rfl Try.func34 rfl (.cons (.tmp rfl) .nil) () (by exact .refl) rfl)
theorem t_cmpPt (b:Nat) (x y:Ta.Pt):Con Try.prog 57 [.agg (ePt x),.agg (ePt y),.c (.v (.pointer (some ⟨b,0,none⟩)))] [.box b 89 (vs [.func (.func 34) #[] #[]])] (fun _:Unit=>(.c (nI (cq x.step y.step)),[.box b 89 (vs [.func (.func 34) #[] #[]])])):=by
 have CX:=t_stepPt x;have CY:=t_stepPt y;have CC:=t_compare x.step y.step;refine Con.intro Try.func57 rfl rfl rfl (fun ok e=>?_)
 repeat (first | refine gmQ ?_ | intro _)
 refine J.draw (by kernel_rfl) rfl ?_;refine JW.base none ?_;refine tk 0 ?_;refine tk 1 ?_;refine tk 3 ?_;refine tk 4 ?_;refine jl 2 rfl rfl rfl rfl (Ld.pureV rfl CX (qb rfl) rfl (.cons .refl .nil)) .none (fun _=>?_);refine jl 5 rfl rfl rfl rfl (Ld.pureV rfl CY (qb rfl) rfl (.cons .refl .nil)) .none (fun _=>?_);refine jmQ 6 (CC) ?_;refine jk 7 rfl rfl rfl rfl (Qt.assign rfl) ?_;refine dnQ ?_
 repeat (fail)
 (exact J.retE [_,_] rfl Try.func57 rfl (.cons (.tmp rfl) .nil) () (by exact .refl) rfl)
end Fl
open Go.RowKit
namespace Fl
set_option maxRecDepth 100000
abbrev sl (b o n cap:Nat):Value:=.slice (some ⟨b,o,none⟩) n cap
section
variable (b:Nat) (vc vm vh y:Value) (size most f:Nat) (V:List (List A)) (M c:List Int) (H:List Bool)
end
section
variable {P:Program} {c:Cx} {k:List Item} {f:Fm} {L:List Res}
theorem St.nilR {e sz:Nat} {a:Act} {w:World} (s:St c f L a w):St c f (.row (.slice none 0 0) e sz [] :: L) a w:=by
 have hf:foots (.row (.slice none 0 0) e sz [] :: L)=foots L:=by simp [foots,Res.foot,vfoot]
 have ho:okk c (.row (.slice none 0 0) e sz [] :: L)=okk c L:=by funext x;unfold okk;rw [hf]
 refine ⟨s.kp,s.size,s.dfr,fun q hq=>?_,fun x hx=>s.frm x (hf ▸ hx),List.pairwise_cons.2 ⟨fun q _ x hx=>by simp [Res.foot,vfoot] at hx,s.ap⟩,fun t d ht=>by rw [ho];exact s.fr t d ht⟩;rw [ho];rcases List.mem_cons.1 hq with rfl | hq
 ·exact ⟨[],Row.nil w e sz,rfl⟩
 ·exact s.res q hq
theorem J.nilR (e sz:Nat) (h:J P c k f (.row (.slice none 0 0) e sz [] :: L)):J P c k f L:=⟨fun a w s=>h.go a w s.nilR⟩
end
section
variable (p:Value) (size most:Nat) (s:Po.St) (S:List Nat)
end
end Fl
end Go.Proofs.Ytdibmkjoaghafaa
