/-
  What the laws need, part B3.
  Conditions: none.
-/
import Derived.Test.YtgjpdogjekmemaaGreatB2
import Derived.Lib.SliceRun
set_option linter.unusedVariables false
set_option linter.unusedSimpArgs false
set_option linter.unnecessarySimpa false
set_option maxHeartbeats 2000000
namespace Go.Proofs.YtgjpdogjekmemaaGreat
open Go.RowKit
namespace Fl
open Sx Go.Proofs.Tryz
set_option maxRecDepth 100000
set_option maxHeartbeats 4000000
section
variable {α:Type} {enc:α→List A} {key:α→Int} {fv:Value} {C:List ak}
theorem Fp (CF:dV prog fv C enc key) (hz:∀ x,(enc x).length=3) (v:Value) (s:Nat) (IH:∀ (l X A0 B0 Y:List α) (a m b:Nat),A0.length + B0.length≤s→l=X ++ A0 ++ B0 ++ Y→a=X.length→m=a + A0.length→b=m + B0.length→A0.length≠0→B0.length≠0→Ss.cu key A0→Ss.cu key B0→l.length≤1000000 →
  aA prog 139 [.c (.v v),.c (nI a),.c (nI m),.c (nI b),.c (.v fv)] (.row v 111 3 (l.map enc) :: C) (fun _:Unit=>(.aU [],.row v 111 3 ((X ++ Ss.mg key A0 B0 ++ Y).map enc) :: C))) (l X A0 B0 Y:List α) (a m b:Nat) (hs:A0.length + B0.length≤s + 1) (hl:l=X ++ A0 ++ B0 ++ Y) (ha:a=X.length) (hm:m=a + A0.length) (hb:b=m + B0.length) (nA:A0.length≠0) (nB:B0.length≠0) (sA:Ss.cu key A0) (sB:Ss.cu key B0) (hn:l.length≤1000000) (h1:A0.length≠1) (h2:B0.length≠1) :
  aA prog 139 [.c (.v v),.c (nI a),.c (nI m),.c (nI b),.c (.v fv)] (.row v 111 3 (l.map enc) :: C) (fun _:Unit=>(.aU [],.row v 111 3 ((X ++ Ss.mg key A0 B0 ++ Y).map enc) :: C)):=by
 have len:l.length=b + Y.length:=by rw [hl];simp;omega
 have w0 (_:Unit):IntKind.i64.wrap ((m:Int) - (a:Int))=(A0.length:Int):=by rw [aV (by omega) (by omega)];omega
 have w1 (_:Unit):IntKind.i64.wrap ((b:Int) - (m:Int))=(B0.length:Int):=by rw [aV (by omega) (by omega)];omega
 refine aA.intro func139 rfl rfl rfl (fun ok e=>?_);have t0:((A0.length:Int) == 1)=false:=by simp;omega
 have t9:((B0.length:Int) == 1)=false:=by simp;omega
 obtain ⟨aG,kf⟩:∃ aG,(a + b) / 2=aG:=⟨_,rfl⟩
 obtain ⟨n,j4⟩:∃ n,aG + m=n:=⟨_,rfl⟩
 obtain ⟨s0,r0,h0⟩:∃ s0 r0,m > aG∧s0=n - b∧r0=aG∨¬ m > aG∧s0=a∧r0=m:=by
  by_cases c:m > aG
  ·exact ⟨_,_,.inl ⟨c,rfl,rfl⟩⟩
  ·exact ⟨_,_,.inr ⟨c,rfl,rfl⟩⟩
 generalize hp:(fun c=>!decide (Ss.ky key l (n - 1 - c) < Ss.ky key l c))=p;obtain ⟨A1,A2,B1,B2,eA,eB,k1,k2,k3,k4,k5⟩:=Ss.parts X A0 B0 Y a m b ha hm hb sA sB (by rintro rfl;exact nA rfl) (by rintro rfl;exact nB rfl) aG n s0 r0 kf.symm j4.symm h0 p (fun c _ _=>by rw [← hp,← hl]);have lA:A0.length=A1.length + A2.length:=by rw [eA,List.length_append]
 have lB:B0.length=B1.length + B2.length:=by rw [eB,List.length_append]
 have nK:=eA ▸ sA;have nL:=eB ▸ sB;have em:Ss.mg key A0 B0=Ss.mg key A1 B1 ++ Ss.mg key A2 B2:=by rw [eA,eB];exact Ss.lT k4 k5
 rw [em];have w2 (_:Unit):IntKind.i64.wrap ((a:Int) + (b:Int))=((a + b:Nat):Int):=dQ (by omega);have w3 (_:Unit):IntKind.u64.wrap ((a + b:Nat):Int)=((a + b:Nat):Int):=kj (by omega);have w4 (_:Unit):IntKind.i64.wrap (((a + b) / 2:Nat):Int)=(aG:Int):=by rw [kf];exact aV (by omega) (by omega)
 have w5 (_:Unit):IntKind.i64.wrap ((aG:Int) + (m:Int))=(n:Int):=by rw [dQ (by omega),j4]
 have w6 (_:Unit):IntKind.i64.wrap ((n:Int) - (b:Int))=(n:Int) - (b:Int):=aV (by omega) (by omega);have w7 (_:Unit):IntKind.i64.wrap ((n:Int) - 1)=((n - 1:Nat):Int):=by rw [aV (by omega) (by omega)];omega
 have hh:a + b≤4000000:=by omega
 obtain ⟨g,hg⟩:∃ g,decide ((m:Int) > (aG:Int))=g:=⟨_,rfl⟩
 repeat (first | (refine K.binOp ?_;first | refine jq rfl rfl rfl ((Qt.aD rfl rfl rfl (w0 ()))) ?_ | refine jq rfl rfl rfl ((Qt.aD rfl rfl rfl (w1 ()))) ?_ | refine jq rfl rfl rfl ((Qt.aD rfl rfl rfl (w2 ()))) ?_ | refine jq rfl rfl rfl (Qt.bin rfl rfl (fun w=>kn hh)) ?_ | refine jq rfl rfl rfl ((Qt.aD rfl rfl rfl (w5 ()))) ?_) | (refine K.convert ?_;first | refine jq rfl rfl rfl (Qt.conv rfl (w3 ())) ?_ | refine jq rfl rfl rfl (Qt.conv rfl (w4 ())) ?_) | refine gn ?_)
 refine J.lU (ι:=Unit) (fun _=>[(20,.c (nI s0)),(21,.c (nI r0)),(18,.c (nI aG)),(19,.c (nI n)),(0,.c (.v v)),(1,.c (nI a)),(2,.c (nI m)),(3,.c (nI b)),(4,.c (.v fv))]) (fun _=>.row v 111 3 (l.map enc) :: C) (fun _=>?_) (fun KK rest=>?_)
 rotate_left
 ·rcases h0 with ⟨c,rfl,rfl⟩ | ⟨c,rfl,rfl⟩
  ·obtain rfl:g=true:=by rw [← hg];exact decide_eq_true (by omega)
   have w8 (_:Unit):IntKind.i64.wrap ((n:Int) - (b:Int))=((n - b:Nat):Int):=by rw [w6 ()];omega
   repeat (first | (refine K.binOp ?_;refine jq rfl rfl rfl ((Qt.aD rfl rfl rfl (w8 ()))) ?_) | refine gn ?_)
   exact (rest ()).aF ⟨rfl,rfl,rfl,rfl,rfl,rfl,rfl,rfl,rfl,trivial⟩
  ·obtain rfl:g=false:=by rw [← hg];exact decide_eq_false (by omega)
   repeat (refine gn ?_)
   exact (rest ()).aF ⟨rfl,rfl,rfl,rfl,rfl,rfl,rfl,rfl,rfl,trivial⟩
 have xH:a < aG∧aG < b:=by omega
 have fc:s0≤r0∧r0≤1000000∧n≤2000000:=by omega
 have fd:∀ c,s0≤c→c < r0→c < l.length∧n - 1 - c < l.length∧c + 1≤n:=by omega
 rw [k1] at k2;have k2:n=m + B1.length + (a + A1.length):=by omega
 clear h0 kf j4 hg w6;obtain ⟨sy,Aq,Ar⟩:=fc
 repeat (first | (refine K.binOp ?_;refine jq rfl rfl rfl ((Qt.aD rfl rfl rfl (w7 ()))) ?_) | refine gn ?_)
 refine J.loop (ι:={ q:Nat × Nat // s0≤q.1∧q.1≤q.2∧q.2≤r0∧Ss.bs p q.1 q.2=a + A1.length }) (fun q=>[(20,.c (nI q.1.1)),(21,.c (nI q.1.2)),(22,.c (nI (n - 1:Nat))),(18,.c (nI aG)),(19,.c (nI n)),(0,.c (.v v)),(1,.c (nI a)),(2,.c (nI m)),(3,.c (nI b)),(4,.c (.v fv))]) (fun q=>.row v 111 3 (l.map enc) :: C) (fun q=>q.1.2 - q.1.1) ⟨(s0,r0),Nat.le_refl _,sy,Nat.le_refl _,k1⟩ (fun X h=>h.aF ⟨rfl,rfl,rfl,rfl,rfl,rfl,rfl,rfl,rfl,rfl,trivial⟩) (fun q ih=>?_);obtain ⟨⟨i,j⟩,q1,q2,q3,q4⟩:=q;simp only at q1 q2 q3 q4 ih ⊢
 by_cases hk:i < j
 ·have t1:decide ((i:Int) < (j:Int))=true:=decide_eq_true (by omega);obtain ⟨f1,f2,f3⟩:=fd ((i + j) / 2) (by omega) (by omega);obtain ⟨x,ax⟩:∃ x,l[(i + j) / 2]?=some x:=⟨_,List.getElem?_eq_getElem f1⟩
  obtain ⟨y,ay⟩:∃ y,l[n - 1 - (i + j) / 2]?=some y:=⟨_,List.getElem?_eq_getElem f2⟩
  have bx:=cS (enc:=enc) ax;have cx (_:Unit):=dh (enc:=enc) ax;have zx (_:Unit):(0:Int)≤(((i + j) / 2:Nat):Int):=Int.natCast_nonneg _;have eF:=cS (enc:=enc) ay
  have cy (_:Unit):=dh (enc:=enc) ay;have zy (_:Unit):(0:Int)≤((n - 1 - (i + j) / 2:Nat):Int):=Int.natCast_nonneg _;have py:p ((i + j) / 2)=!decide (key y < key x):=by rw [← hp];simp only;rw [Ss.jy ax,Ss.jy ay]
  have v2 (_:Unit):IntKind.i64.wrap ((i:Int) + (j:Int))=((i + j:Nat):Int):=dQ (by omega);have v3 (_:Unit):IntKind.u64.wrap ((i + j:Nat):Int)=((i + j:Nat):Int):=kj (by omega);have v4 (_:Unit):IntKind.i64.wrap (((i + j) / 2:Nat):Int)=(((i + j) / 2:Nat):Int):=aV (by omega) (by omega);have v5 (_:Unit):IntKind.i64.wrap ((((i + j) / 2:Nat):Int) + 1)=(((i + j) / 2 + 1:Nat):Int):=by rw [aV (by omega) (by omega)];omega
  have v6 (_:Unit):IntKind.i64.wrap (((n - 1:Nat):Int) - (((i + j) / 2:Nat):Int))=((n - 1 - (i + j) / 2:Nat):Int):=by rw [aV (by omega) (by omega)];omega
  have sC:i + j≤4000000:=by omega
  repeat (first | (refine K.binOp ?_;first | refine jq rfl rfl rfl ((Qt.aD rfl rfl rfl (v2 ()))) ?_ | refine jq rfl rfl rfl (Qt.bin rfl rfl (fun w=>kn sC)) ?_) | (refine K.convert ?_;first | refine jq rfl rfl rfl (Qt.conv rfl (v3 ())) ?_ | refine jq rfl rfl rfl (Qt.conv rfl (v4 ())) ?_) | refine gn ?_)
  cases t3:decide (key y < key x) with
  | true =>
   rw [t3] at py;refine J.draw (by kernel_rfl) rfl ?_;refine JW.base none ?_;refine tk 0 ?_;refine tk 1 ?_;refine tk 2 ?_;refine tk 3 ?_;refine JD.take 4 rfl rfl (by kernel_rfl) rfl (qb rfl) (Qt.aD rfl rfl rfl (v6 ())) rfl ?_;refine JD.take 5 rfl rfl (by kernel_rfl) rfl (qb rfl) (Qt.aN rfl rfl (zy ()) (cy ())) rfl ?_;refine JD.take 6 rfl rfl (by kernel_rfl) rfl (qb rfl) (Qt.bk rfl eF (hz _)) rfl ?_;refine tk 7 ?_;refine tk 8 ?_;refine JD.take 9 rfl rfl (by kernel_rfl) rfl (qb rfl) (Qt.aN rfl rfl (zx ()) (cx ())) rfl ?_;refine JD.take 10 rfl rfl (by kernel_rfl) rfl (qb rfl) (Qt.bk rfl bx (hz _)) rfl ?_;refine jl 11 rfl rfl rfl rfl (Ld.fu CF y x ⟨[_],rfl⟩ (qb rfl) rfl rfl rfl) .none (fun _=>?_);refine jk 12 rfl rfl rfl rfl (Qt.cmp rfl rfl (congrArg some (fq t3))) ?_;refine jk 13 rfl rfl rfl rfl (Qt.not rfl) ?_;refine aX ?_
   repeat (refine gn ?_)
   exact (ih ⟨(i,(i + j) / 2),q1,by simp only;omega,by simp only;omega,by simp only;rw [← Ss.lQ hk py];exact q4⟩ (by simp only;omega)).aF ⟨rfl,rfl,rfl,rfl,rfl,rfl,rfl,rfl,rfl,rfl,trivial⟩
  | false =>
   rw [t3] at py;refine J.draw (by kernel_rfl) rfl ?_;refine JW.base none ?_;refine tk 0 ?_;refine tk 1 ?_;refine tk 2 ?_;refine tk 3 ?_;refine JD.take 4 rfl rfl (by kernel_rfl) rfl (qb rfl) (Qt.aD rfl rfl rfl (v6 ())) rfl ?_;refine JD.take 5 rfl rfl (by kernel_rfl) rfl (qb rfl) (Qt.aN rfl rfl (zy ()) (cy ())) rfl ?_;refine JD.take 6 rfl rfl (by kernel_rfl) rfl (qb rfl) (Qt.bk rfl eF (hz _)) rfl ?_;refine tk 7 ?_;refine tk 8 ?_;refine JD.take 9 rfl rfl (by kernel_rfl) rfl (qb rfl) (Qt.aN rfl rfl (zx ()) (cx ())) rfl ?_;refine JD.take 10 rfl rfl (by kernel_rfl) rfl (qb rfl) (Qt.bk rfl bx (hz _)) rfl ?_;refine jl 11 rfl rfl rfl rfl (Ld.fu CF y x ⟨[_],rfl⟩ (qb rfl) rfl rfl rfl) .none (fun _=>?_);refine jk 12 rfl rfl rfl rfl (Qt.cmp rfl rfl (congrArg some (fq t3))) ?_;refine jk 13 rfl rfl rfl rfl (Qt.not rfl) ?_;refine aX ?_
   repeat (first | (refine K.binOp ?_;refine jq rfl rfl rfl ((Qt.aD rfl rfl rfl (v5 ()))) ?_) | refine gn ?_)
   exact (ih ⟨((i + j) / 2 + 1,j),by simp only;omega,by simp only;omega,q3,by simp only;rw [← Ss.lP hk py];exact q4⟩ (by simp only;omega)).aF ⟨rfl,rfl,rfl,rfl,rfl,rfl,rfl,rfl,rfl,rfl,trivial⟩
 ·have t1:decide ((i:Int) < (j:Int))=false:=decide_eq_false (by omega);rw [Ss.kQ hk] at q4;subst q4;clear ih q1 q2 q3 hk hp k1 fd;have el:l=X ++ A1 ++ A2 ++ B1 ++ B2 ++ Y:=by rw [hl,eA,eB];simp
  have v2 (_:Unit):IntKind.i64.wrap ((n:Int) - ((a + A1.length:Nat):Int))=((m + B1.length:Nat):Int):=by rw [aV (by omega) (by omega)];omega
  obtain ⟨g1,iP⟩:∃ g,decide (((a + A1.length:Nat):Int) < (m:Int))=g:=⟨_,rfl⟩
  obtain ⟨g2,dM⟩:∃ g,decide ((m:Int) < ((m + B1.length:Nat):Int))=g:=⟨_,rfl⟩
  obtain ⟨g3,nM⟩:∃ g,decide ((a:Int) < ((a + A1.length:Nat):Int))=g:=⟨_,rfl⟩
  obtain ⟨g4,nN⟩:∃ g,decide (((a + A1.length:Nat):Int) < (aG:Int))=g:=⟨_,rfl⟩
  obtain ⟨g5,nQ⟩:∃ g,decide ((aG:Int) < ((m + B1.length:Nat):Int))=g:=⟨_,rfl⟩
  obtain ⟨g6,nR⟩:∃ g,decide (((m + B1.length:Nat):Int) < (b:Int))=g:=⟨_,rfl⟩
  repeat (first | (refine K.binOp ?_;refine jq rfl rfl rfl ((Qt.aD rfl rfl rfl (v2 ()))) ?_) | refine gn ?_)
  refine JO.lU (ι:=Unit) (fun _=>[(24,.c (nI (m + B1.length:Nat))),(20,.c (nI (a + A1.length:Nat))),(18,.c (nI aG)),(0,.c (.v v)),(1,.c (nI a)),(2,.c (nI m)),(3,.c (nI b)),(4,.c (.v fv))]) (fun _=>.row v 111 3 ((X ++ A1 ++ B1 ++ A2 ++ B2 ++ Y).map enc) :: C) (fun _=>?_) (fun KK rest=>?_)
  rotate_left
  ·cases g1 with
   | true =>
    cases g2 with
    | true =>
     have r1:=of_decide_eq_true iP;have r2:=of_decide_eq_true dM;have CR:=Fj (fv:=fv) hz v l (X ++ A1) A2 B1 (B2 ++ Y) (a + A1.length) m (m + B1.length) (by rw [el];simp) (by simp;omega) (by omega) rfl (by omega) (by omega) hn
     repeat (first | (refine K.call ?_;refine JO.ld (Ld.xx (CR) (qb rfl) rfl (.cons .refl (.cons .refl (.cons .refl (.cons .refl (.cons .refl .nil)))))) rfl (fun _=>?_)) | refine gn ?_)
     refine J.bq ?_ ((rest ()).aF ⟨rfl,rfl,rfl,rfl,rfl,rfl,rfl,rfl,trivial⟩);simp
    | false =>
     have r2:=of_decide_eq_false dM;have r3:B1=[]:=List.length_eq_zero_iff.1 (by omega)
     repeat (refine gn ?_)
     refine J.bq ?_ ((rest ()).aF ⟨rfl,rfl,rfl,rfl,rfl,rfl,rfl,rfl,trivial⟩);rw [el,r3];simp
   | false =>
    have r1:=of_decide_eq_false iP;have r3:A2=[]:=List.length_eq_zero_iff.1 (by omega)
    repeat (refine gn ?_)
    refine J.bq ?_ ((rest ()).aF ⟨rfl,rfl,rfl,rfl,rfl,rfl,rfl,rfl,trivial⟩);rw [el,r3];simp
  have nU:(X ++ A1 ++ B1 ++ A2 ++ B2 ++ Y).length≤1000000:=by
   have:(X ++ A1 ++ B1 ++ A2 ++ B2 ++ Y).length=l.length:=by rw [el];simp;omega
   omega
  have sD:(X ++ Ss.mg key A1 B1 ++ A2 ++ B2 ++ Y).length≤1000000:=by
   simp only [List.length_append,Ss.qo] at nU ⊢;omega
  clear hl el iP dM
  repeat (refine gn ?_)
  refine JO.lU (ι:=Unit) (fun _=>[(24,.c (nI (m + B1.length:Nat))),(18,.c (nI aG)),(0,.c (.v v)),(3,.c (nI b)),(4,.c (.v fv))]) (fun _=>.row v 111 3 ((X ++ Ss.mg key A1 B1 ++ A2 ++ B2 ++ Y).map enc) :: C) (fun _=>?_) (fun KK rest=>?_)
  rotate_left
  ·cases g3 with
   | true =>
    cases g4 with
    | true =>
     have r1:=of_decide_eq_true nM;have r2:=of_decide_eq_true nN;have CR:=IH (X ++ A1 ++ B1 ++ A2 ++ B2 ++ Y) X A1 B1 (A2 ++ B2 ++ Y) a (a + A1.length) aG (by omega) (by simp) ha rfl (by omega) (by omega) (by omega) nK.left nL.left nU
     repeat (first | (refine K.call ?_;refine JO.ld (Ld.dP (CR) (qb rfl) rfl (.cons .refl (.cons .refl (.cons .refl (.cons .refl (.cons .refl .nil)))))) rfl (fun _=>?_)) | refine gn ?_)
     refine J.bq ?_ ((rest ()).aF ⟨rfl,rfl,rfl,rfl,rfl,trivial⟩);simp
    | false =>
     have r2:=of_decide_eq_false nN;have r3:B1=[]:=List.length_eq_zero_iff.1 (by omega)
     repeat (refine gn ?_)
     refine J.bq ?_ ((rest ()).aF ⟨rfl,rfl,rfl,rfl,rfl,trivial⟩);rw [r3,Ss.jQ];simp
   | false =>
    have r1:=of_decide_eq_false nM;have r3:A1=[]:=List.length_eq_zero_iff.1 (by omega)
    repeat (refine gn ?_)
    refine J.bq ?_ ((rest ()).aF ⟨rfl,rfl,rfl,rfl,rfl,trivial⟩);rw [r3,Ss.jw];simp
  have lm:=Ss.qo (key:=key) A1 B1
  cases g5 with
  | true =>
   cases g6 with
   | true =>
    have r1:=of_decide_eq_true nQ;have r2:=of_decide_eq_true nR;have CR:=IH (X ++ Ss.mg key A1 B1 ++ A2 ++ B2 ++ Y) (X ++ Ss.mg key A1 B1) A2 B2 Y aG (m + B1.length) b (by omega) rfl (by rw [List.length_append,lm];omega) (by omega) (by omega) (by omega) (by omega) nK.right nL.right sD
    repeat (first | (refine K.call ?_;refine JO.ld (Ld.dP (CR) (qb rfl) rfl (.cons .refl (.cons .refl (.cons .refl (.cons .refl (.cons .refl .nil)))))) rfl (fun _=>?_)) | refine gn ?_)
    refine J.bq (L':=.row v 111 3 ((X ++ (Ss.mg key A1 B1 ++ Ss.mg key A2 B2) ++ Y).map enc) :: C) (by simp) ?_
    (exact J.fo func139 rfl .nil () (by exact .refl) rfl)
   | false =>
    have r2:=of_decide_eq_false nR;have r3:B2=[]:=List.length_eq_zero_iff.1 (by omega)
    repeat (refine gn ?_)
    refine J.bq (L':=.row v 111 3 ((X ++ (Ss.mg key A1 B1 ++ Ss.mg key A2 B2) ++ Y).map enc) :: C) (by rw [r3,Ss.jQ];simp) ?_
    (exact J.fo func139 rfl .nil () (by exact .refl) rfl)
  | false =>
   have r1:=of_decide_eq_false nQ;have r3:A2=[]:=List.length_eq_zero_iff.1 (by omega)
   repeat (refine gn ?_)
   refine J.bq (L':=.row v 111 3 ((X ++ (Ss.mg key A1 B1 ++ Ss.mg key A2 B2) ++ Y).map enc) :: C) (by rw [r3,Ss.jw];simp) ?_
   (exact J.fo func139 rfl .nil () (by exact .refl) rfl)
theorem xI (CF:dV prog fv C enc key) (hz:∀ x,(enc x).length=3) (v:Value):∀ (s:Nat) (l X A0 B0 Y:List α) (a m b:Nat),A0.length + B0.length≤s→l=X ++ A0 ++ B0 ++ Y→a=X.length→m=a + A0.length→b=m + B0.length→A0.length≠0→B0.length≠0→Ss.cu key A0→Ss.cu key B0→l.length≤1000000 →
  aA prog 139 [.c (.v v),.c (nI a),.c (nI m),.c (nI b),.c (.v fv)] (.row v 111 3 (l.map enc) :: C) (fun _:Unit=>(.aU [],.row v 111 3 ((X ++ Ss.mg key A0 B0 ++ Y).map enc) :: C))
 | 0,l,X,A0,B0,Y,a,m,b,hs,hl,ha,hm,hb,nA,nB,sA,sB,hn=>by omega
 | s + 1,l,X,A0,B0,Y,a,m,b,hs,hl,ha,hm,hb,nA,nB,sA,sB,hn=>by
  by_cases h1:A0.length=1
  ·exact Fk CF hz v l X A0 B0 Y a m b hl ha hm hb nA nB sA sB hn h1
  ·by_cases h2:B0.length=1
   ·exact Fo CF hz v l X A0 B0 Y a m b hl ha hm hb nA nB sA sB hn h1 h2
   ·exact Fp CF hz v s (xI CF hz v s) l X A0 B0 Y a m b hs hl ha hm hb nA nB sA sB hn h1 h2
end
end Fl
open Go.RowKit
namespace Fl
open Sx Go.Proofs.Tryz
set_option maxRecDepth 100000
set_option maxHeartbeats 4000000
section
variable {α:Type} {enc:α→List A} {key:α→Int} {fv:Value} {C:List ak}
theorem Fq (CF:dV prog fv C enc key) (hz:∀ x,(enc x).length=3) (v:Value) (l0:List α) (N:Nat) (hN:N=l0.length) (hs:N≤100000) :
  aA prog 94 [.c (.v v),.c (nI N),.c (.v fv)] (.row v 111 3 (l0.map enc) :: C) (fun _:Unit=>(.aU [],.row v 111 3 ((Ss.bg key l0).map enc) :: C)):=by
 refine aA.intro func94 rfl rfl rfl (fun ok e=>?_)
 repeat (refine gn ?_)
 refine J.loop (ι:={ q:List α × List α // q.1 ++ Ss.cr key 20 q.2=Ss.cr key 20 l0∧q.1.length + q.2.length=N }) (fun q=>[(7,.c (nI q.1.1.length)),(8,.c (nI (q.1.1.length + 20:Nat))),(6,.c (nI (20:Nat))),(0,.c (.v v)),(1,.c (nI N)),(2,.c (.v fv))]) (fun q=>.row v 111 3 ((q.1.1 ++ q.1.2).map enc) :: C) (fun q=>q.1.2.length) ⟨([],l0),rfl,by simp [hN]⟩ (fun X h=>h.aF ⟨rfl,rfl,rfl,rfl,rfl,rfl,trivial⟩) (fun q ih=>?_);obtain ⟨⟨Z,R⟩,ND,NF⟩:=q;simp only at ND NF ih ⊢
 by_cases hk:Z.length + 20≤N
 ·have t1:decide (((Z.length + 20:Nat):Int)≤(N:Int))=true:=decide_eq_true (by omega);have lt:(R.take 20).length=20:=by rw [List.length_take];omega
  have ld:(R.drop 20).length=R.length - 20:=List.length_drop;have ls:=Ss.fL (key:=key) (R.take 20);have CI:=Ap CF hz v (Z ++ R) Z (R.take 20) (R.drop 20) Z.length (Z.length + 20) (by rw [List.append_assoc,List.take_append_drop]) rfl (by omega) (by omega);have w1:IntKind.i64.wrap (((Z.length + 20:Nat):Int) + ((20:Nat):Int))=((Z.length + 20 + 20:Nat):Int):=dQ (by omega);rw [Ss.je (by omega) (by decide),← List.append_assoc] at ND
  repeat (first | (refine K.binOp ?_;refine jq rfl rfl rfl ((Qt.aD rfl rfl rfl w1)) ?_) | (refine K.call ?_;refine JO.ld (Ld.dP (CI) (qb rfl) rfl (by (exact bR.cons .refl (.cons .refl (.cons .refl (.cons .refl .nil)))))) rfl ?_;intro _) | refine gn ?_)
  exact (ih ⟨(Z ++ Ss.bg key (R.take 20),R.drop 20),ND,by simp only [List.length_append];omega⟩ (by simp only;omega)).aF ⟨by simp only [List.length_append,ls,lt];rfl,by simp only [List.length_append,ls,lt];rfl,rfl,rfl,rfl,rfl,trivial⟩
 ·have t1:decide (((Z.length + 20:Nat):Int)≤(N:Int))=false:=decide_eq_false (by omega);have CI:=Ap CF hz v (Z ++ R) Z R [] Z.length N (by simp) rfl (by omega) (by simp;omega);rw [Ss.g9 (by omega)] at ND;rw [List.append_nil,ND] at CI;clear ih hk
  repeat (first | (refine K.call ?_;refine JO.ld (Ld.dP (CI) (qb rfl) rfl (by (exact bR.cons .refl (.cons .refl (.cons .refl (.cons .refl .nil)))))) rfl ?_;intro _) | refine gn ?_)
  clear t1 CI ND NF;refine J.loop (ι:={ k:Nat // 0 < k∧k≤200020 }) (fun q=>[(6,.c (nI q.1)),(0,.c (.v v)),(1,.c (nI N)),(2,.c (.v fv))]) (fun q=>.row v 111 3 ((Ss.cr key q.1 l0).map enc) :: C) (fun q=>N - q.1) ⟨20,by omega,by omega⟩ (fun X h=>h.aF ⟨rfl,rfl,rfl,rfl,trivial⟩) (fun q ih=>?_);obtain ⟨k,k0,k1⟩:=q;simp only at k0 k1 ih ⊢
  by_cases hk:k < N
  ·have t1:decide ((k:Int) < (N:Int))=true:=decide_eq_true (by omega);have w2:IntKind.i64.wrap (2 * (k:Int))=((2 * k:Nat):Int):=by rw [aV (by omega) (by omega)];omega
   have w3:IntKind.i64.wrap ((k:Int) * 2)=((2 * k:Nat):Int):=by rw [aV (by omega) (by omega)];omega
   have cM:=ih ⟨2 * k,by omega,by omega⟩ (by simp only;omega);clear ih;simp only at cM
   repeat (first | (refine K.binOp ?_;refine jq rfl rfl rfl ((Qt.aD rfl rfl rfl w2)) ?_) | refine gn ?_)
   refine J.loop (ι:={ q:List α × List α // q.1 ++ Ss.cr key (2 * k) q.2=Ss.cr key (2 * k) l0∧q.1.length + q.2.length=N }) (fun q=>[(7,.c (nI q.1.1.length)),(8,.c (nI (q.1.1.length + 2 * k:Nat))),(6,.c (nI k)),(0,.c (.v v)),(1,.c (nI N)),(2,.c (.v fv))]) (fun q=>.row v 111 3 ((q.1.1 ++ Ss.cr key k q.1.2).map enc) :: C) (fun q=>q.1.2.length) ⟨([],l0),rfl,by simp [hN]⟩ (fun X h=>h.aF ⟨rfl,by rw [show ([]:List α).length + 2 * k=2 * k by simp];rfl,rfl,rfl,rfl,rfl,trivial⟩) (fun q ih=>?_);obtain ⟨⟨Z,R⟩,ND,NF⟩:=q;simp only at ND NF ih ⊢;have w4:IntKind.i64.wrap ((Z.length:Int) + (k:Int))=((Z.length + k:Nat):Int):=dQ (by omega);have lt:(R.take k).length=min k R.length:=List.length_take;have ld:(R.drop k).length=R.length - k:=List.length_drop;have ls:=Ss.fL (key:=key) (R.take k)
   by_cases hj:Z.length + 2 * k≤N
   ·have t2:decide (((Z.length + 2 * k:Nat):Int)≤(N:Int))=true:=decide_eq_true (by omega);have dG:((R.drop k).take k).length=k:=by rw [List.length_take];omega
    have sE:=Ss.fL (key:=key) ((R.drop k).take k);have As:(R.drop (2 * k)).length=R.length - 2 * k:=List.length_drop;have nV:(R.take (2 * k)).length=2 * k:=by rw [List.length_take];omega
    have nW:=Ss.fL (key:=key) (R.take (2 * k));have w5:IntKind.i64.wrap (((Z.length + 2 * k:Nat):Int) + ((2 * k:Nat):Int))=((Z.length + 2 * k + 2 * k:Nat):Int):=dQ (by omega);have e1:Ss.cr key k R=Ss.bg key (R.take k) ++ (Ss.bg key ((R.drop k).take k) ++ Ss.cr key k (R.drop (2 * k))):=by
     rw [Ss.je (by omega) (by omega),Ss.je (l:=R.drop k) (by omega) (by omega),List.drop_drop,show k + k=2 * k by omega]
    have e2:Ss.mg key (Ss.bg key (R.take k)) (Ss.bg key ((R.drop k).take k))=Ss.bg key (R.take (2 * k)):=by
     rw [Ss.qp,show 2 * k=k + k by omega,List.take_add]
    have lb:=Ss.uP (key:=key) (R.drop (2 * k)).length k (R.drop (2 * k)) (Nat.le_refl _);have CM:=xI CF hz v _ (Z ++ Ss.cr key k R) Z (Ss.bg key (R.take k)) (Ss.bg key ((R.drop k).take k)) (Ss.cr key k (R.drop (2 * k))) Z.length (Z.length + k) (Z.length + 2 * k) (Nat.le_refl _) (by rw [e1];simp) rfl (by omega) (by omega) (by omega) (by omega) (Ss.jd _) (Ss.jd _) (by rw [e1];simp only [List.length_append];omega);rw [e2] at CM;rw [Ss.je (by omega) (by omega),← List.append_assoc] at ND
    repeat (first | (refine K.binOp ?_;first | refine jq rfl rfl rfl ((Qt.aD rfl rfl rfl w4)) ?_ | refine jq rfl rfl rfl ((Qt.aD rfl rfl rfl w2)) ?_ | refine jq rfl rfl rfl ((Qt.aD rfl rfl rfl w5)) ?_) | (refine K.call ?_;refine JO.ld (Ld.dP (CM) (qb rfl) rfl (.cons .refl (.cons .refl (.cons .refl (.cons .refl (.cons .refl .nil)))))) rfl (fun _=>?_)) | refine gn ?_)
    exact (ih ⟨(Z ++ Ss.bg key (R.take (2 * k)),R.drop (2 * k)),ND,by simp only [List.length_append];omega⟩ (by simp only;omega)).aF ⟨by simp only [List.length_append,nW,nV];rfl,by simp only [List.length_append,nW,nV];rfl,rfl,rfl,rfl,rfl,trivial⟩
   ·have t2:decide (((Z.length + 2 * k:Nat):Int)≤(N:Int))=false:=decide_eq_false (by omega);clear ih;rw [Ss.g9 (by omega)] at ND
    by_cases hm:Z.length + k < N
    ·have t3:decide (((Z.length + k:Nat):Int) < (N:Int))=true:=decide_eq_true (by omega);have sE:=Ss.fL (key:=key) (R.drop k);have e1:Ss.cr key k R=Ss.bg key (R.take k) ++ Ss.bg key (R.drop k):=by
      rw [Ss.je (by omega) (by omega),Ss.g9 (l:=R.drop k) (by omega)]
     have e2:Ss.mg key (Ss.bg key (R.take k)) (Ss.bg key (R.drop k))=Ss.bg key R:=by
      rw [Ss.qp,List.take_append_drop]
     have CM:=xI CF hz v _ (Z ++ Ss.cr key k R) Z (Ss.bg key (R.take k)) (Ss.bg key (R.drop k)) [] Z.length (Z.length + k) N (Nat.le_refl _) (by rw [e1];simp) rfl (by omega) (by omega) (by omega) (by omega) (Ss.jd _) (Ss.jd _) (by rw [e1];simp only [List.length_append];omega);rw [e2,List.append_nil,ND] at CM
     repeat (first | (refine K.binOp ?_;first | refine jq rfl rfl rfl ((Qt.aD rfl rfl rfl w4)) ?_ | refine jq rfl rfl rfl ((Qt.aD rfl rfl rfl w3)) ?_) | (refine K.call ?_;refine JO.ld (Ld.dP (CM) (qb rfl) rfl (.cons .refl (.cons .refl (.cons .refl (.cons .refl (.cons .refl .nil)))))) rfl (fun _=>?_)) | refine gn ?_)
     exact cM.aF ⟨rfl,rfl,rfl,rfl,trivial⟩
    ·have t3:decide (((Z.length + k:Nat):Int) < (N:Int))=false:=decide_eq_false (by omega);rw [Ss.g9 (l:=R) (by omega),ND]
     repeat (first | (refine K.binOp ?_;first | refine jq rfl rfl rfl ((Qt.aD rfl rfl rfl w4)) ?_ | refine jq rfl rfl rfl ((Qt.aD rfl rfl rfl w3)) ?_) | refine gn ?_)
     exact cM.aF ⟨rfl,rfl,rfl,rfl,trivial⟩
  ·have t1:decide ((k:Int) < (N:Int))=false:=decide_eq_false (by omega);rw [Ss.g9 (by omega)]
   repeat (refine gn ?_)
   (exact J.fo func94 rfl .nil () (by exact .refl) rfl)
theorem Fs (CF:dV prog fv C enc key) (hz:∀ x,(enc x).length=3) (v:Value) (l0:List α) (hs:l0.length≤100000) :
  aA prog 78 [.c (.v v),.c (.v fv)] (.row v 111 3 (l0.map enc) :: C) (fun _:Unit=>(.aU [],.row v 111 3 ((Ss.bg key l0).map enc) :: C)):=by
 have CS:=Fq CF hz v l0 (l0.map enc).length (by simp) (by simp;omega);refine aA.intro func78 rfl rfl rfl (fun ok e=>?_)
 repeat (first | (refine K.call ?_;refine JO.ld (Ld.dP (CS) (qb rfl) rfl (by (exact bR.cons .refl (.cons .refl (.cons .refl .nil))))) rfl ?_;intro _) | refine gn ?_)
 (exact J.fo func78 rfl .nil () (by exact .refl) rfl)
end
end Fl
open Go.RowKit
namespace Fl
open Sx Go.Proofs.Tryz
set_option maxRecDepth 100000
set_option maxHeartbeats 4000000
section
variable {α:Type} {enc:α→List A} {key:α→Int} {fv:Value} {C:List ak}
theorem Ft (CF:dV prog fv C enc key) (hz:∀ x,(enc x).length=9) (v:Value) (X A0 Y:List α) (hs:X.length + A0.length + Y.length≤1000000) :
  aA prog 140 [.c (.v v),.c (nI X.length),.c (nI (X.length + A0.length:Nat)),.c (.v fv)] (.row v 115 9 ((X ++ A0 ++ Y).map enc) :: C) (fun _:Unit=>(.aU [],.row v 115 9 ((X ++ Ss.bg key A0 ++ Y).map enc) :: C)):=by
 refine aA.intro func140 rfl rfl rfl (fun ok e=>?_);have w0:IntKind.i64.wrap ((X.length:Int) + 1)=((X.length + 1:Nat):Int):=by rw [aV (by omega) (by omega)];omega
 repeat (first | (refine K.binOp ?_;refine jq rfl rfl rfl ((Qt.aD rfl rfl rfl w0)) ?_) | refine gn ?_)
 have e0:A0=Ss.bg key (A0.take 1) ++ A0.drop 1:=by cases A0 <;> rfl
 refine J.bq (L':=.row v 115 9 ((X ++ (Ss.bg key (A0.take 1) ++ A0.drop 1) ++ Y).map enc) :: C) (by rw [← e0]) ?_;refine J.loop (ι:={ k:Nat // 1≤k∧k≤A0.length + 1 }) (fun q=>[(8,.c (nI (X.length + q.1:Nat))),(0,.c (.v v)),(1,.c (nI X.length)),(2,.c (nI (X.length + A0.length:Nat))),(3,.c (.v fv))]) (fun q=>.row v 115 9 ((X ++ (Ss.bg key (A0.take q.1) ++ A0.drop q.1) ++ Y).map enc) :: C) (fun q=>A0.length - q.1) ⟨1,Nat.le_refl _,by omega⟩ (fun X h=>h.aF ⟨rfl,rfl,rfl,rfl,rfl,trivial⟩) (fun q ih=>?_);obtain ⟨k,k1,k2⟩:=q;simp only at k1 k2 ih ⊢
 by_cases hk:k < A0.length
 ·have t1:decide (((X.length + k:Nat):Int) < ((X.length + A0.length:Nat):Int))=true:=decide_eq_true (by omega);obtain ⟨x,hx⟩:∃ x,A0[k]?=some x:=⟨_,List.getElem?_eq_getElem hk⟩
  have hd:A0.drop k=x :: A0.drop (k + 1):=by rw [List.drop_eq_getElem_cons hk];rw [List.getElem?_eq_getElem hk] at hx;cases hx;rfl
  have ht:A0.take (k + 1)=A0.take k ++ [x]:=by rw [List.take_add_one,hx];rfl
  have cM:=ih ⟨k + 1,by omega,by omega⟩ (by simp only;omega);clear ih;simp only at cM;rw [ht,Ss.nJ] at cM;have lS:(Ss.bg key (A0.take k)).length=k:=by rw [Ss.fL,List.length_take];omega
  rw [hd];have lD:(A0.drop (k + 1)).length=A0.length - (k + 1):=List.length_drop;generalize A0.drop (k + 1)=D at cM lD ⊢;generalize Ss.bg key (A0.take k)=S at cM lS ⊢
  repeat (refine gn ?_)
  refine J.bq (L':=.row v 115 9 ((X ++ (S ++ x :: [] ++ D) ++ Y).map enc) :: C) (by simp) ?_;refine J.loop (ι:={ q:List α × List α // S=q.1 ++ q.2∧∀ y∈q.2,key x < key y }) (fun q=>[(9,.c (nI (X.length + q.1.1.length:Nat))),(8,.c (nI (X.length + k:Nat))),(0,.c (.v v)),(1,.c (nI X.length)),(2,.c (nI (X.length + A0.length:Nat))),(3,.c (.v fv))]) (fun q=>.row v 115 9 ((X ++ (q.1.1 ++ x :: q.1.2 ++ D) ++ Y).map enc) :: C) (fun q=>q.1.1.length) ⟨(S,[]),by simp,by simp⟩ (fun X h=>h.aF ⟨by rw [lS];rfl,rfl,rfl,rfl,rfl,rfl,trivial⟩) (fun q iO=>?_);obtain ⟨⟨S1,S2⟩,qS,qx⟩:=q;simp only at qS qx iO ⊢;have w1:IntKind.i64.wrap (((X.length + k:Nat):Int) + 1)=((X.length + (k + 1):Nat):Int):=by rw [aV (by omega) (by omega)];omega
  have out:(S1=[]∨∃ A' a,S1=A' ++ [a]∧key a≤key x)→Ss.ins key S x=S1 ++ x :: S2:=fun h=>by rw [qS];exact Ss.sv x S1 S2 qx h
  rcases List.eq_nil_or_concat S1 with h | ⟨aJ,z,h⟩
  ·have t2:decide (((X.length + S1.length:Nat):Int) > (X.length:Int))=false:=decide_eq_false (by rw [h];simp);have ho:=out (.inl h)
   repeat ((refine J.seq ?_))
   refine J.draw (by kernel_rfl) rfl ?_;refine JW.base none ?_;refine tk 0 ?_;refine tk 1 ?_;refine JD.take 2 rfl rfl (by kernel_rfl) rfl (qb rfl) (Qt.cmp rfl rfl (congrArg some t2)) rfl ?_;refine tk 3 ?_
   (refine JD.skip 4 rfl rfl (by kernel_rfl) rfl (qb rfl) ?_)
   (refine JD.skip 5 rfl rfl (by kernel_rfl) rfl (qb rfl) ?_)
   (refine JD.skip 6 rfl rfl (by kernel_rfl) rfl (qb rfl) ?_)
   refine JD.skip 7 rfl rfl (by kernel_rfl) rfl (qb rfl) ?_
   (refine JD.skip 8 rfl rfl (by kernel_rfl) rfl (qb rfl) ?_)
   (refine JD.skip 9 rfl rfl (by kernel_rfl) rfl (qb rfl) ?_)
   (refine JD.skip 10 rfl rfl (by kernel_rfl) rfl (qb rfl) ?_)
   (refine JD.skip 11 rfl rfl (by kernel_rfl) rfl (qb rfl) ?_)
   refine JD.skip 12 rfl rfl (by kernel_rfl) rfl (qb rfl) ?_
   (refine JD.skip 13 rfl rfl (by kernel_rfl) rfl (qb rfl) ?_)
   (refine JD.skip 14 rfl rfl (by kernel_rfl) rfl (qb rfl) ?_)
   (refine JD.skip 15 rfl rfl (by kernel_rfl) rfl (qb rfl) ?_)
   refine tk 16 ?_;refine aX ?_
   repeat (first | (refine K.binOp ?_;refine jq rfl rfl rfl ((Qt.aD rfl rfl rfl w1)) ?_) | refine gn ?_)
   refine J.bq ?_ (cM.aF ⟨rfl,rfl,rfl,rfl,rfl,trivial⟩);rw [ho]
  ·rw [List.concat_eq_append] at h;subst h;have l1:(aJ ++ [z]).length=aJ.length + 1:=by simp
   have lq:k=aJ.length + 1 + S2.length:=by rw [← lS,qS];simp;omega
   rw [l1];have t2:decide (((X.length + (aJ.length + 1):Nat):Int) > (X.length:Int))=true:=decide_eq_true (by omega);have w2:IntKind.i64.wrap (((X.length + (aJ.length + 1):Nat):Int) - 1)=((X.length + aJ.length:Nat):Int):=by rw [aV (by omega) (by omega)];omega
   have er:X ++ (aJ ++ [z] ++ x :: S2 ++ D) ++ Y=(X ++ aJ) ++ z :: x :: (S2 ++ D ++ Y):=by simp
   rw [er];have a1:((X ++ aJ) ++ z :: x :: (S2 ++ D ++ Y))[X.length + aJ.length]?=some z:=by rw [show X.length + aJ.length=(X ++ aJ).length by simp];exact Ss.at_app _ _ _
   have a2:((X ++ aJ) ++ z :: x :: (S2 ++ D ++ Y))[X.length + (aJ.length + 1)]?=some x:=by rw [show X.length + (aJ.length + 1)=((X ++ aJ) ++ [z]).length by simp only [List.length_append,List.length_singleton];omega,show (X ++ aJ) ++ z :: x :: (S2 ++ D ++ Y)=((X ++ aJ) ++ [z]) ++ x :: (S2 ++ D ++ Y) by simp];exact Ss.at_app _ _ _
   have b1:=cS (enc:=enc) a1;have b2:=cS (enc:=enc) a2;have c1:=dh (enc:=enc) a1;have c2:=dh (enc:=enc) a2;have z1:(0:Int)≤((X.length + aJ.length:Nat):Int):=Int.natCast_nonneg _;have z2:(0:Int)≤((X.length + (aJ.length + 1):Nat):Int):=Int.natCast_nonneg _;have sw:=ki (enc:=enc) a2 a1;rw [Ss.qh,Ss.mG (X ++ aJ) z x (S2 ++ D ++ Y) _ _ (by simp) (by simp;omega)] at sw;generalize hR:(X ++ aJ) ++ z :: x :: (S2 ++ D ++ Y)=R at er b1 b2 c1 c2 sw ⊢
   cases t3:decide (key x < key z) with
   | false =>
    have ho:=out (.inr ⟨aJ,z,rfl,by have:=of_decide_eq_false t3;omega⟩)
    repeat ((refine J.seq ?_))
    refine J.draw (by kernel_rfl) rfl ?_;refine JW.base none ?_;refine tk 0 ?_;refine tk 1 ?_;refine JD.take 2 rfl rfl (by kernel_rfl) rfl (qb rfl) (Qt.cmp rfl rfl (congrArg some t2)) rfl ?_;refine tk 3 ?_;refine tk 4 ?_;refine tk 5 ?_;refine tk 6 ?_
    (refine JD.take 7 rfl rfl (by kernel_rfl) rfl (qb rfl) (Qt.aN rfl rfl z2 c2) rfl ?_)
    (refine JD.take 8 rfl rfl (by kernel_rfl) rfl (qb rfl) (Qt.bk rfl b2 (hz _)) rfl ?_)
    refine tk 9 ?_;refine tk 10 ?_
    (refine JD.take 11 rfl rfl (by kernel_rfl) rfl (qb rfl) (Qt.aD rfl rfl rfl w2) rfl ?_)
    (refine JD.take 12 rfl rfl (by kernel_rfl) rfl (qb rfl) (Qt.aN rfl rfl z1 c1) rfl ?_)
    (refine JD.take 13 rfl rfl (by kernel_rfl) rfl (qb rfl) (Qt.bk rfl b1 (hz _)) rfl ?_)
    refine jl 14 rfl rfl rfl rfl (Ld.fu CF x z ⟨[_],rfl⟩ (qb rfl) rfl rfl rfl) .none (fun _=>?_)
    (refine JD.take 15 rfl rfl (by kernel_rfl) rfl (qb rfl) (Qt.cmp rfl rfl (congrArg some (fq t3))) rfl ?_)
    refine jk 16 rfl rfl rfl rfl (Qt.pick rfl rfl) ?_;refine aX ?_
    repeat (first | (refine K.binOp ?_;refine jq rfl rfl rfl ((Qt.aD rfl rfl rfl w1)) ?_) | refine gn ?_)
    refine J.bq ?_ (cM.aF ⟨rfl,rfl,rfl,rfl,rfl,trivial⟩);rw [ho,er]
   | true =>
    have sz:=hz;have b3:(R.map enc).set ((X.length + (aJ.length + 1):Nat):Int).toNat (enc z)=((R.map enc).set ((X.length + (aJ.length + 1):Nat):Int).toNat (enc z)):=rfl;have dH:((X.length + (aJ.length + 1):Nat):Int).toNat < (R.map enc).length:=by omega
    have dG:((X.length + aJ.length:Nat):Int).toNat < ((R.map enc).set ((X.length + (aJ.length + 1):Nat):Int).toNat (enc z)).length:=by rw [List.length_set];omega
    repeat ((refine J.seq ?_))
    refine J.draw (by kernel_rfl) rfl ?_;refine JW.base none ?_;refine tk 0 ?_;refine tk 1 ?_;refine JD.take 2 rfl rfl (by kernel_rfl) rfl (qb rfl) (Qt.cmp rfl rfl (congrArg some t2)) rfl ?_;refine tk 3 ?_;refine tk 4 ?_;refine tk 5 ?_;refine tk 6 ?_
    (refine JD.take 7 rfl rfl (by kernel_rfl) rfl (qb rfl) (Qt.aN rfl rfl z2 c2) rfl ?_)
    (refine JD.take 8 rfl rfl (by kernel_rfl) rfl (qb rfl) (Qt.bk rfl b2 (hz _)) rfl ?_)
    refine tk 9 ?_;refine tk 10 ?_
    (refine JD.take 11 rfl rfl (by kernel_rfl) rfl (qb rfl) (Qt.aD rfl rfl rfl w2) rfl ?_)
    (refine JD.take 12 rfl rfl (by kernel_rfl) rfl (qb rfl) (Qt.aN rfl rfl z1 c1) rfl ?_)
    (refine JD.take 13 rfl rfl (by kernel_rfl) rfl (qb rfl) (Qt.bk rfl b1 (hz _)) rfl ?_)
    refine jl 14 rfl rfl rfl rfl (Ld.fu CF x z ⟨[_],rfl⟩ (qb rfl) rfl rfl rfl) .none (fun _=>?_)
    (refine JD.take 15 rfl rfl (by kernel_rfl) rfl (qb rfl) (Qt.cmp rfl rfl (congrArg some (fq t3))) rfl ?_)
    refine jk 16 rfl rfl rfl rfl (Qt.pick rfl rfl) ?_;refine aX ?_
    repeat (refine gn ?_)
    refine J.draw (by kernel_rfl) rfl ?_;refine JW.iu none (.tmp 0) rfl ?_;refine tk 0 ?_;refine tk 1 ?_;refine tk 2 ?_;refine tk 3 ?_;refine JD.take 4 rfl rfl (by kernel_rfl) rfl (qb rfl) (Qt.aD rfl rfl rfl w2) rfl ?_;refine tk 5 ?_;refine tk 6 ?_;refine JD.take 7 rfl rfl (by kernel_rfl) rfl (qb rfl) (Qt.aD rfl rfl rfl w2) rfl ?_;refine JD.take 8 rfl rfl (by kernel_rfl) rfl (qb rfl) (Qt.aN rfl rfl z1 c1) rfl ?_;refine tk 10 ?_;refine tk 11 ?_;refine JD.take 12 rfl rfl (by kernel_rfl) rfl (qb rfl) (Qt.aN rfl rfl z2 c2) rfl ?_;refine JD.cF (i:=9) (j:=13) (by kernel_rfl) ?_ ?_;refine JS.q rfl rfl rfl (qb rfl) (Qt.bk rfl b1 (hz _)) ?_;refine jk 13 rfl rfl rfl rfl (Qt.bk rfl b2 (hz _)) ?_;refine JD.take 14 rfl rfl (by kernel_rfl) rfl (qb rfl) (Qt.aN rfl rfl z2 c2) rfl ?_;refine JD.cE (i:=15) (by kernel_rfl) ?_;refine JS.st rfl rfl rfl (Ld.bM rfl rfl rfl (hz _) dH) (.cK rfl) (fun _=>?_);refine JD.take 16 rfl rfl (by kernel_rfl) rfl (qb rfl) (Qt.aN rfl rfl z1 c1) rfl ?_;refine JD.cE (i:=17) (by kernel_rfl) ?_;refine JS.st rfl rfl rfl (Ld.bM rfl rfl rfl (hz _) dG) (.cK rfl) (fun _=>?_);refine aX ?_
    rotate_left
    refine JS.q rfl rfl rfl (qb rfl) (Qt.bk rfl b2 (hz _)) ?_;refine jk 9 rfl rfl rfl rfl (Qt.bk rfl b1 (hz _)) ?_;refine JD.take 14 rfl rfl (by kernel_rfl) rfl (qb rfl) (Qt.aN rfl rfl z2 c2) rfl ?_;refine JD.cE (i:=15) (by kernel_rfl) ?_;refine JS.st rfl rfl rfl (Ld.bM rfl rfl rfl (hz _) dH) (.cK rfl) (fun _=>?_);refine JD.take 16 rfl rfl (by kernel_rfl) rfl (qb rfl) (Qt.aN rfl rfl z1 c1) rfl ?_;refine JD.cE (i:=17) (by kernel_rfl) ?_;refine JS.st rfl rfl rfl (Ld.bM rfl rfl rfl (hz _) dG) (.cK rfl) (fun _=>?_);refine aX ?_
    rotate_left
    all_goals
     repeat (first | (refine K.binOp ?_;refine jq rfl rfl rfl ((Qt.aD rfl rfl rfl w2)) ?_) | refine gn ?_)
     refine J.bq ?_ ((iO ⟨(aJ,z :: S2),by simp [qS],by simp only [List.mem_cons];rintro y (rfl | hy);exact of_decide_eq_true t3;exact qx y hy⟩ (by simp only;omega)).aF ⟨rfl,rfl,rfl,rfl,rfl,rfl,trivial⟩);simp only;refine congrArg (fun r=>ak.row v 115 9 r :: C) (Eq.trans ?_ sw.symm);simp
 ·have t1:decide (((X.length + k:Nat):Int) < ((X.length + A0.length:Nat):Int))=false:=decide_eq_false (by omega);rw [List.take_of_length_le (by omega),List.drop_of_length_le (by omega),List.append_nil]
  repeat (refine gn ?_)
  (exact J.fo func140 rfl .nil () (by exact .refl) rfl)
theorem At (CF:dV prog fv C enc key) (hz:∀ x,(enc x).length=9) (v:Value) (l X A0 Y:List α) (a b:Nat) (hl:l=X ++ A0 ++ Y) (ha:a=X.length) (hb:b=a + A0.length) (hs:X.length + A0.length + Y.length≤1000000) :
  aA prog 140 [.c (.v v),.c (nI a),.c (nI b),.c (.v fv)] (.row v 115 9 (l.map enc) :: C) (fun _:Unit=>(.aU [],.row v 115 9 ((X ++ Ss.bg key A0 ++ Y).map enc) :: C)):=by
 subst hl ha hb;exact Ft CF hz v X A0 Y hs
theorem xJ (hz:∀ x,(enc x).length=9) (v:Value) (l:List α) (a b n:Nat) (ha:a + n≤l.length) (hb:b + n≤l.length) (hs:l.length≤1000000) :
  aA prog 171 [.c (.v v),.c (nI a),.c (nI b),.c (nI n),.c (.v fv)] [.row v 115 9 (l.map enc)] (fun _:Unit=>(.aU [],[.row v 115 9 ((Ss.eE l a b n).map enc)])):=by
 refine aA.intro func171 rfl rfl rfl (fun ok e=>?_)
 repeat (refine gn ?_)
 refine J.loop (ι:={ i:Nat // i≤n }) (fun q=>[(10,.c (nI q.1)),(0,.c (.v v)),(1,.c (nI a)),(2,.c (nI b)),(3,.c (nI n)),(4,.c (.v fv))]) (fun q=>[.row v 115 9 ((Ss.eE l a b q.1).map enc)]) (fun q=>n - q.1) ⟨0,Nat.zero_le _⟩ (fun X h=>h.aF ⟨rfl,rfl,rfl,rfl,rfl,rfl,trivial⟩) (fun q ih=>?_);obtain ⟨i,hi⟩:=q;simp only at hi ih ⊢
 by_cases hk:i < n
 ·have t1:decide ((i:Int) < (n:Int))=true:=decide_eq_true (by omega);have lR:=Ss.lO l a b i;have cM:=ih ⟨i + 1,by omega⟩ (by simp only;omega);clear ih;simp only [Ss.eE] at cM;generalize Ss.eE l a b i=R at lR cM ⊢;obtain ⟨x,a1⟩:∃ x,R[a + i]?=some x:=⟨_,List.getElem?_eq_getElem (by omega)⟩
  obtain ⟨y,a2⟩:∃ y,R[b + i]?=some y:=⟨_,List.getElem?_eq_getElem (by omega)⟩
  have w1:IntKind.i64.wrap ((a:Int) + (i:Int))=((a + i:Nat):Int):=dQ (by omega);have w2:IntKind.i64.wrap ((b:Int) + (i:Int))=((b + i:Nat):Int):=dQ (by omega);have w3:IntKind.i64.wrap ((i:Int) + 1)=((i + 1:Nat):Int):=by rw [aV (by omega) (by omega)];omega
  have b1:=cS (enc:=enc) a1;have b2:=cS (enc:=enc) a2;have c1:=dh (enc:=enc) a1;have c2:=dh (enc:=enc) a2;have z1:(0:Int)≤((a + i:Nat):Int):=Int.natCast_nonneg _;have z2:(0:Int)≤((b + i:Nat):Int):=Int.natCast_nonneg _;have sw:=ki (enc:=enc) a1 a2;have dH:((a + i:Nat):Int).toNat < (R.map enc).length:=by omega
  have dG:((b + i:Nat):Int).toNat < ((R.map enc).set ((a + i:Nat):Int).toNat (enc y)).length:=by rw [List.length_set];omega
  repeat (refine gn ?_)
  refine J.draw (by kernel_rfl) rfl ?_;refine JW.iu none (.tmp 0) rfl ?_;refine tk 0 ?_;refine tk 1 ?_;refine tk 2 ?_;refine JD.take 3 rfl rfl (by kernel_rfl) rfl (qb rfl) (Qt.aD rfl rfl rfl w1) rfl ?_;refine tk 4 ?_;refine tk 5 ?_;refine tk 6 ?_;refine JD.take 7 rfl rfl (by kernel_rfl) rfl (qb rfl) (Qt.aD rfl rfl rfl w2) rfl ?_;refine tk 8 ?_;refine tk 9 ?_;refine tk 10 ?_;refine JD.take 11 rfl rfl (by kernel_rfl) rfl (qb rfl) (Qt.aD rfl rfl rfl w2) rfl ?_;refine JD.take 12 rfl rfl (by kernel_rfl) rfl (qb rfl) (Qt.aN rfl rfl z2 c2) rfl ?_;refine tk 14 ?_;refine tk 15 ?_;refine tk 16 ?_;refine JD.take 17 rfl rfl (by kernel_rfl) rfl (qb rfl) (Qt.aD rfl rfl rfl w1) rfl ?_;refine JD.take 18 rfl rfl (by kernel_rfl) rfl (qb rfl) (Qt.aN rfl rfl z1 c1) rfl ?_;refine JD.cF (i:=13) (j:=19) (by kernel_rfl) ?_ ?_;refine JS.q rfl rfl rfl (qb rfl) (Qt.bk rfl b2 (hz _)) ?_;refine jk 19 rfl rfl rfl rfl (Qt.bk rfl b1 (hz _)) ?_;refine JD.take 20 rfl rfl (by kernel_rfl) rfl (qb rfl) (Qt.aN rfl rfl z1 c1) rfl ?_;refine JD.cE (i:=21) (by kernel_rfl) ?_;refine JS.st rfl rfl rfl (Ld.bM rfl rfl rfl (hz _) dH) (.cK rfl) (fun _=>?_);refine JD.take 22 rfl rfl (by kernel_rfl) rfl (qb rfl) (Qt.aN rfl rfl z2 c2) rfl ?_;refine JD.cE (i:=23) (by kernel_rfl) ?_;refine JS.st rfl rfl rfl (Ld.bM rfl rfl rfl (hz _) dG) (.cK rfl) (fun _=>?_);refine aX ?_
  rotate_left
  refine JS.q rfl rfl rfl (qb rfl) (Qt.bk rfl b1 (hz _)) ?_;refine jk 13 rfl rfl rfl rfl (Qt.bk rfl b2 (hz _)) ?_;refine JD.take 20 rfl rfl (by kernel_rfl) rfl (qb rfl) (Qt.aN rfl rfl z1 c1) rfl ?_;refine JD.cE (i:=21) (by kernel_rfl) ?_;refine JS.st rfl rfl rfl (Ld.bM rfl rfl rfl (hz _) dH) (.cK rfl) (fun _=>?_);refine JD.take 22 rfl rfl (by kernel_rfl) rfl (qb rfl) (Qt.aN rfl rfl z2 c2) rfl ?_;refine JD.cE (i:=23) (by kernel_rfl) ?_;refine JS.st rfl rfl rfl (Ld.bM rfl rfl rfl (hz _) dG) (.cK rfl) (fun _=>?_);refine aX ?_
  rotate_left
  all_goals
   repeat (first | (refine K.binOp ?_;refine jq rfl rfl rfl ((Qt.aD rfl rfl rfl w3)) ?_) | refine gn ?_)
   refine J.bq ?_ (cM.aF ⟨rfl,rfl,rfl,rfl,rfl,rfl,trivial⟩);exact congrArg (fun r=>[ak.row v 115 9 r]) sw.symm
 ·obtain rfl:i=n:=by omega
  have t1:decide ((i:Int) < (i:Int))=false:=decide_eq_false (by omega)
  repeat (refine gn ?_)
  (exact J.fo func171 rfl .nil () (by exact .refl) rfl)
theorem Fu (hz:∀ x,(enc x).length=9) (v:Value) (l0 X U V Y:List α) (a m b:Nat) (hl:l0=X ++ U ++ V ++ Y) (ha:a=X.length) (hm:m=a + U.length) (hb:b=m + V.length) (hu:U.length≠0) (hv:V.length≠0) (hs:l0.length≤1000000) :
  aA prog 162 [.c (.v v),.c (nI a),.c (nI m),.c (nI b),.c (.v fv)] [.row v 115 9 (l0.map enc)] (fun _:Unit=>(.aU [],[.row v 115 9 ((X ++ V ++ U ++ Y).map enc)])):=by
 have e0:=Ss.sk m _ X U V Y (Nat.le_refl _) hu hv (by omega);rw [← hl] at e0;have len:m + V.length≤l0.length:=by rw [hl];simp;omega
 generalize X ++ V ++ U ++ Y=r at e0 ⊢;have w0:IntKind.i64.wrap ((m:Int) - (a:Int))=(U.length:Int):=by rw [aV (by omega) (by omega)];omega
 have w1:IntKind.i64.wrap ((b:Int) - (m:Int))=(V.length:Int):=by rw [aV (by omega) (by omega)];omega
 refine aA.intro func162 rfl rfl rfl (fun ok e=>?_)
 repeat (first | (refine K.binOp ?_;first | refine jq rfl rfl rfl ((Qt.aD rfl rfl rfl w0)) ?_ | refine jq rfl rfl rfl ((Qt.aD rfl rfl rfl w1)) ?_) | refine gn ?_)
 refine J.loop (ι:={ q:List α × Nat × Nat // q.1.length=l0.length∧0 < q.2.1∧q.2.1≤m∧0 < q.2.2∧m + q.2.2≤l0.length∧Ss.jv q.1 m q.2.1 q.2.2=r }) (fun q=>[(10,.c (nI q.1.2.1)),(11,.c (nI q.1.2.2)),(0,.c (.v v)),(2,.c (nI m)),(4,.c (.v fv))]) (fun q=>[.row v 115 9 (q.1.1.map enc)]) (fun q=>q.1.2.1 + q.1.2.2) ⟨(l0,U.length,V.length),rfl,by simp only;omega,by simp only;omega,by simp only;omega,len,e0⟩ (fun X h=>h.aF ⟨rfl,rfl,rfl,rfl,rfl,trivial⟩) (fun q ih=>?_);obtain ⟨⟨l,i,j⟩,NF,qi,qm,qj,qn,qr⟩:=q;simp only at NF qi qm qj qn qr ih ⊢;have w2:IntKind.i64.wrap ((m:Int) - (i:Int))=((m - i:Nat):Int):=by rw [aV (by omega) (by omega)];omega
 rcases Nat.lt_trichotomy i j with h | h | h
 ·have t1:((i:Int) != (j:Int))=true:=by simp;omega
  have t2:decide ((i:Int) > (j:Int))=false:=decide_eq_false (by omega);have w3:IntKind.i64.wrap ((j:Int) - (i:Int))=((j - i:Nat):Int):=by rw [aV (by omega) (by omega)];omega
  have w4:IntKind.i64.wrap ((m:Int) + (j:Int))=((m + j:Nat):Int):=dQ (by omega);have w5:IntKind.i64.wrap (((m + j:Nat):Int) - (i:Int))=((m + j - i:Nat):Int):=by rw [aV (by omega) (by omega)];omega
  have CS:=xJ (fv:=fv) hz v l (m - i) (m + j - i) i (by omega) (by omega) (by omega)
  repeat (first | (refine K.binOp ?_;first | refine jq rfl rfl rfl ((Qt.aD rfl rfl rfl w2)) ?_ | refine jq rfl rfl rfl ((Qt.aD rfl rfl rfl w3)) ?_ | refine jq rfl rfl rfl ((Qt.aD rfl rfl rfl w4)) ?_ | refine jq rfl rfl rfl ((Qt.aD rfl rfl rfl w5)) ?_) | (refine K.call ?_;refine JO.ld (Ld.dP (CS) (qb rfl) rfl (.cons .refl (.cons .refl (.cons .refl (.cons .refl (.cons .refl .nil)))))) rfl (fun _=>?_)) | refine gn ?_)
  exact (ih ⟨(Ss.eE l (m - i) (m + j - i) i,i,j - i),by simp only [Ss.lO];exact NF,qi,qm,by simp only;omega,by simp only;omega,by simp only;rw [← Ss.uM l m i j h (by omega)];exact qr⟩ (by simp only;omega)).aF ⟨rfl,rfl,rfl,rfl,rfl,trivial⟩
 ·subst h;rw [Ss.uK] at qr;have t1:((i:Int) != (i:Int))=false:=by simp
  have CS:=xJ (fv:=fv) hz v l (m - i) m i (by omega) (by omega) (by omega);rw [qr] at CS
  repeat (first | (refine K.binOp ?_;refine jq rfl rfl rfl ((Qt.aD rfl rfl rfl w2)) ?_) | (refine K.call ?_;refine JO.ld (Ld.dP (CS) (qb rfl) rfl (.cons .refl (.cons .refl (.cons .refl (.cons .refl (.cons .refl .nil)))))) rfl (fun _=>?_)) | refine gn ?_)
  (exact J.fo func162 rfl .nil () (by exact .refl) rfl)
 ·have t1:((i:Int) != (j:Int))=true:=by simp;omega
  have t2:decide ((i:Int) > (j:Int))=true:=decide_eq_true (by omega);have w3:IntKind.i64.wrap ((i:Int) - (j:Int))=((i - j:Nat):Int):=by rw [aV (by omega) (by omega)];omega
  have CS:=xJ (fv:=fv) hz v l (m - i) m j (by omega) (by omega) (by omega)
  repeat (first | (refine K.binOp ?_;first | refine jq rfl rfl rfl ((Qt.aD rfl rfl rfl w2)) ?_ | refine jq rfl rfl rfl ((Qt.aD rfl rfl rfl w3)) ?_) | (refine K.call ?_;refine JO.ld (Ld.dP (CS) (qb rfl) rfl (.cons .refl (.cons .refl (.cons .refl (.cons .refl (.cons .refl .nil)))))) rfl (fun _=>?_)) | refine gn ?_)
  exact (ih ⟨(Ss.eE l (m - i) m j,i - j,j),by simp only [Ss.lO];exact NF,by simp only;omega,by simp only;omega,qj,qn,by simp only;rw [← Ss.uL l m i j h (by omega)];exact qr⟩ (by simp only;omega)).aF ⟨rfl,rfl,rfl,rfl,rfl,trivial⟩
end
end Fl
open Go.RowKit
namespace Fl
open Sx Go.Proofs.Tryz
set_option maxRecDepth 100000
set_option maxHeartbeats 4000000
section
variable {α:Type} {enc:α→List A} {key:α→Int} {fv:Value} {C:List ak}
theorem Fv (CF:dV prog fv C enc key) (hz:∀ x,(enc x).length=9) (v:Value) (l X A0 B0 Y:List α) (a m b:Nat) (hl:l=X ++ A0 ++ B0 ++ Y) (ha:a=X.length) (hm:m=a + A0.length) (hb:b=m + B0.length) (nA:A0.length≠0) (nB:B0.length≠0) (sA:Ss.cu key A0) (sB:Ss.cu key B0) (hn:l.length≤1000000) (h1:A0.length=1) :
  aA prog 141 [.c (.v v),.c (nI a),.c (nI m),.c (nI b),.c (.v fv)] (.row v 115 9 (l.map enc) :: C) (fun _:Unit=>(.aU [],.row v 115 9 ((X ++ Ss.mg key A0 B0 ++ Y).map enc) :: C)):=by
 have len:l.length=b + Y.length:=by rw [hl];simp;omega
 have w0:IntKind.i64.wrap ((m:Int) - (a:Int))=(A0.length:Int):=by rw [aV (by omega) (by omega)];omega
 have w1:IntKind.i64.wrap ((b:Int) - (m:Int))=(B0.length:Int):=by rw [aV (by omega) (by omega)];omega
 refine aA.intro func141 rfl rfl rfl (fun ok e=>?_);have t0:((A0.length:Int) == 1)=true:=by rw [h1];rfl
 obtain ⟨x,rfl⟩:=List.length_eq_one_iff.1 h1;obtain ⟨B1,B2,rfl,hr,k1,k2⟩:=Ss.xC (key x) (X ++ [x]) B0 Y m b (by simp;omega) hb sB;rw [Ss.xE k1 k2];rw [← hl] at hr;have ax:l[a]?=some x:=by rw [hl,ha,show X ++ [x] ++ (B1 ++ B2) ++ Y=X ++ x :: (B1 ++ B2 ++ Y) by simp];exact Ss.at_app _ _ _
 generalize hp:(fun h=>decide (Ss.ky key l h < key x))=p at hr;have nk:(B1 ++ B2).length=B1.length + B2.length:=List.length_append;have bx:=cS (enc:=enc) ax;have cx:=dh (enc:=enc) ax;have zx:(0:Int)≤(a:Int):=Int.natCast_nonneg _
 repeat (first | (refine K.binOp ?_;refine jq rfl rfl rfl ((Qt.aD rfl rfl rfl w0)) ?_) | refine gn ?_)
 refine J.loop (ι:={ q:Nat × Nat // m≤q.1∧q.1≤q.2∧q.2≤b∧Ss.bs p q.1 q.2=m + B1.length }) (fun q=>[(10,.c (nI q.1.1)),(11,.c (nI q.1.2)),(0,.c (.v v)),(1,.c (nI a)),(2,.c (nI m)),(3,.c (nI b)),(4,.c (.v fv))]) (fun q=>.row v 115 9 (l.map enc) :: C) (fun q=>q.1.2 - q.1.1) ⟨(m,b),Nat.le_refl _,by simp only;omega,Nat.le_refl _,hr⟩ (fun X h=>h.aF ⟨rfl,rfl,rfl,rfl,rfl,rfl,rfl,trivial⟩) (fun q ih=>?_);obtain ⟨⟨i,j⟩,q1,q2,q3,q4⟩:=q;simp only at q1 q2 q3 q4 ih ⊢
 by_cases hk:i < j
 ·have t1:decide ((i:Int) < (j:Int))=true:=decide_eq_true (by omega);obtain ⟨y,ay⟩:∃ y,l[(i + j) / 2]?=some y:=⟨_,List.getElem?_eq_getElem (by omega)⟩
  have eF:=cS (enc:=enc) ay
  have cy:=dh (enc:=enc) ay;have zy:(0:Int)≤(((i + j) / 2:Nat):Int):=Int.natCast_nonneg _;have py:p ((i + j) / 2)=decide (key y < key x):=by rw [← hp];simp only;rw [Ss.jy ay]
  have w2:IntKind.i64.wrap ((i:Int) + (j:Int))=((i + j:Nat):Int):=dQ (by omega);have w3:IntKind.u64.wrap ((i + j:Nat):Int)=((i + j:Nat):Int):=kj (by omega);have w4:IntKind.i64.wrap (((i + j) / 2:Nat):Int)=(((i + j) / 2:Nat):Int):=aV (by omega) (by omega);have w5:IntKind.i64.wrap ((((i + j) / 2:Nat):Int) + 1)=(((i + j) / 2 + 1:Nat):Int):=by rw [aV (by omega) (by omega)];omega
  have hh:i + j≤4000000:=by omega
  repeat (first | (refine K.binOp ?_;first | refine jq rfl rfl rfl ((Qt.aD rfl rfl rfl w2)) ?_ | refine jq rfl rfl rfl (Qt.bin rfl rfl (fun w=>kn hh)) ?_) | (refine K.convert ?_;first | refine jq rfl rfl rfl (Qt.conv rfl w3) ?_ | refine jq rfl rfl rfl (Qt.conv rfl w4) ?_) | refine gn ?_)
  cases t3:decide (key y < key x) with
  | true =>
   rw [t3] at py;refine J.draw (by kernel_rfl) rfl ?_;refine JW.base none ?_;refine tk 0 ?_;refine tk 1 ?_;refine tk 2 ?_;refine JD.take 3 rfl rfl (by kernel_rfl) rfl (qb rfl) (Qt.aN rfl rfl zy cy) rfl ?_;refine JD.take 4 rfl rfl (by kernel_rfl) rfl (qb rfl) (Qt.bk rfl eF (hz _)) rfl ?_;refine tk 5 ?_;refine tk 6 ?_;refine JD.take 7 rfl rfl (by kernel_rfl) rfl (qb rfl) (Qt.aN rfl rfl zx cx) rfl ?_;refine JD.take 8 rfl rfl (by kernel_rfl) rfl (qb rfl) (Qt.bk rfl bx (hz _)) rfl ?_;refine jl 9 rfl rfl rfl rfl (Ld.fu CF y x ⟨[_],rfl⟩ (qb rfl) rfl rfl rfl) .none (fun _=>?_);refine jk 10 rfl rfl rfl rfl (Qt.cmp rfl rfl (congrArg some (fq t3))) ?_;refine aX ?_
   repeat (first | (refine K.binOp ?_;refine jq rfl rfl rfl ((Qt.aD rfl rfl rfl w5)) ?_) | refine gn ?_)
   exact (ih ⟨((i + j) / 2 + 1,j),by simp only;omega,by simp only;omega,q3,by simp only;rw [← Ss.lP hk py];exact q4⟩ (by simp only;omega)).aF ⟨rfl,rfl,rfl,rfl,rfl,rfl,rfl,trivial⟩
  | false =>
   rw [t3] at py;refine J.draw (by kernel_rfl) rfl ?_;refine JW.base none ?_;refine tk 0 ?_;refine tk 1 ?_;refine tk 2 ?_;refine JD.take 3 rfl rfl (by kernel_rfl) rfl (qb rfl) (Qt.aN rfl rfl zy cy) rfl ?_;refine JD.take 4 rfl rfl (by kernel_rfl) rfl (qb rfl) (Qt.bk rfl eF (hz _)) rfl ?_;refine tk 5 ?_;refine tk 6 ?_;refine JD.take 7 rfl rfl (by kernel_rfl) rfl (qb rfl) (Qt.aN rfl rfl zx cx) rfl ?_;refine JD.take 8 rfl rfl (by kernel_rfl) rfl (qb rfl) (Qt.bk rfl bx (hz _)) rfl ?_;refine jl 9 rfl rfl rfl rfl (Ld.fu CF y x ⟨[_],rfl⟩ (qb rfl) rfl rfl rfl) .none (fun _=>?_);refine jk 10 rfl rfl rfl rfl (Qt.cmp rfl rfl (congrArg some (fq t3))) ?_;refine aX ?_
   repeat (refine gn ?_)
   exact (ih ⟨(i,(i + j) / 2),q1,by simp only;omega,by simp only;omega,by simp only;rw [← Ss.lQ hk py];exact q4⟩ (by simp only;omega)).aF ⟨rfl,rfl,rfl,rfl,rfl,rfl,rfl,trivial⟩
 ·have t1:decide ((i:Int) < (j:Int))=false:=decide_eq_false (by omega);rw [Ss.kQ hk] at q4;clear ih q1 q2 q3 hp hr bx cx;subst q4;rw [hl];clear hl ax
  repeat (refine gn ?_)
  refine J.bq (L':=.row v 115 9 ((X ++ ([] ++ x :: B1 ++ B2) ++ Y).map enc) :: C) (by simp) ?_;refine J.loop (ι:={ q:List α × List α // B1=q.1 ++ q.2 }) (fun q=>[(13,.c (nI (a + q.1.1.length:Nat))),(10,.c (nI (m + B1.length:Nat))),(0,.c (.v v)),(1,.c (nI a)),(4,.c (.v fv))]) (fun q=>.row v 115 9 ((X ++ (q.1.1 ++ x :: q.1.2 ++ B2) ++ Y).map enc) :: C) (fun q=>q.1.2.length) ⟨([],B1),rfl⟩ (fun X h=>h.aF ⟨rfl,rfl,rfl,rfl,rfl,trivial⟩) (fun q ih=>?_);obtain ⟨⟨S1,S2⟩,qS⟩:=q;simp only at qS ih ⊢;have lB:B1.length=S1.length + S2.length:=by rw [qS];simp
  have w2:IntKind.i64.wrap (((m + B1.length:Nat):Int) - 1)=((m + B1.length - 1:Nat):Int):=by rw [aV (by omega) (by omega)];omega
  cases S2 with
  | nil =>
   have t2:decide (((a + S1.length:Nat):Int) < ((m + B1.length - 1:Nat):Int))=false:=decide_eq_false (by simp at lB h1 hm;omega);rw [List.append_nil] at qS;subst qS
   repeat (first | (refine K.binOp ?_;refine jq rfl rfl rfl ((Qt.aD rfl rfl rfl w2)) ?_) | refine gn ?_)
   refine J.bq (L':=.row v 115 9 ((X ++ (B1 ++ x :: B2) ++ Y).map enc) :: C) (by simp) ?_
   (exact J.nG func141 rfl .nil () (by exact .refl) rfl)
  | cons z S2 =>
   have t2:decide (((a + S1.length:Nat):Int) < ((m + B1.length - 1:Nat):Int))=true:=decide_eq_true (by simp only [List.length_cons,List.length_nil] at lB hm;omega);have w3:IntKind.i64.wrap (((a + S1.length:Nat):Int) + 1)=((a + (S1.length + 1):Nat):Int):=by simp only [List.length_cons,List.length_nil] at lB hm;rw [aV (by omega) (by omega)];omega
   have er:X ++ (S1 ++ x :: z :: S2 ++ B2) ++ Y=(X ++ S1) ++ x :: z :: (S2 ++ B2 ++ Y):=by simp
   rw [er];have a1:((X ++ S1) ++ x :: z :: (S2 ++ B2 ++ Y))[a + S1.length]?=some x:=by rw [show a + S1.length=(X ++ S1).length by simp;omega];exact Ss.at_app _ _ _
   have a2:((X ++ S1) ++ x :: z :: (S2 ++ B2 ++ Y))[a + (S1.length + 1)]?=some z:=by rw [show a + (S1.length + 1)=((X ++ S1) ++ [x]).length by simp only [List.length_append,List.length_singleton];omega,show (X ++ S1) ++ x :: z :: (S2 ++ B2 ++ Y)=((X ++ S1) ++ [x]) ++ z :: (S2 ++ B2 ++ Y) by simp];exact Ss.at_app _ _ _
   have b1:=cS (enc:=enc) a1;have b2:=cS (enc:=enc) a2;have c1:=dh (enc:=enc) a1;have c2:=dh (enc:=enc) a2;have z1:(0:Int)≤((a + S1.length:Nat):Int):=Int.natCast_nonneg _;have z2:(0:Int)≤((a + (S1.length + 1):Nat):Int):=Int.natCast_nonneg _;have sw:=ki (enc:=enc) a1 a2;rw [Ss.mG (X ++ S1) x z (S2 ++ B2 ++ Y) _ _ (by simp;omega) (by simp;omega)] at sw;generalize hR:(X ++ S1) ++ x :: z :: (S2 ++ B2 ++ Y)=R at er b1 b2 c1 c2 sw ⊢;have dH:((a + S1.length:Nat):Int).toNat < (R.map enc).length:=by omega
   have dG:((a + (S1.length + 1):Nat):Int).toNat < ((R.map enc).set ((a + S1.length:Nat):Int).toNat (enc z)).length:=by rw [List.length_set];omega
   repeat (first | (refine K.binOp ?_;refine jq rfl rfl rfl ((Qt.aD rfl rfl rfl w2)) ?_) | refine gn ?_)
   refine J.draw (by kernel_rfl) rfl ?_;refine JW.iu none (.tmp 0) rfl ?_;refine tk 0 ?_;refine tk 1 ?_;refine tk 2 ?_;refine tk 3 ?_;refine JD.take 4 rfl rfl (by kernel_rfl) rfl (qb rfl) (Qt.aD rfl rfl rfl w3) rfl ?_;refine tk 5 ?_;refine tk 6 ?_;refine JD.take 7 rfl rfl (by kernel_rfl) rfl (qb rfl) (Qt.aD rfl rfl rfl w3) rfl ?_;refine JD.take 8 rfl rfl (by kernel_rfl) rfl (qb rfl) (Qt.aN rfl rfl z2 c2) rfl ?_;refine tk 10 ?_;refine tk 11 ?_;refine JD.take 12 rfl rfl (by kernel_rfl) rfl (qb rfl) (Qt.aN rfl rfl z1 c1) rfl ?_;refine JD.cF (i:=9) (j:=13) (by kernel_rfl) ?_ ?_;refine JS.q rfl rfl rfl (qb rfl) (Qt.bk rfl b2 (hz _)) ?_;refine jk 13 rfl rfl rfl rfl (Qt.bk rfl b1 (hz _)) ?_;refine JD.take 14 rfl rfl (by kernel_rfl) rfl (qb rfl) (Qt.aN rfl rfl z1 c1) rfl ?_;refine JD.cE (i:=15) (by kernel_rfl) ?_;refine JS.st rfl rfl rfl (Ld.bM rfl rfl rfl (hz _) dH) (.cK rfl) (fun _=>?_);refine JD.take 16 rfl rfl (by kernel_rfl) rfl (qb rfl) (Qt.aN rfl rfl z2 c2) rfl ?_;refine JD.cE (i:=17) (by kernel_rfl) ?_;refine JS.st rfl rfl rfl (Ld.bM rfl rfl rfl (hz _) dG) (.cK rfl) (fun _=>?_);refine aX ?_
   rotate_left
   refine JS.q rfl rfl rfl (qb rfl) (Qt.bk rfl b1 (hz _)) ?_;refine jk 9 rfl rfl rfl rfl (Qt.bk rfl b2 (hz _)) ?_;refine JD.take 14 rfl rfl (by kernel_rfl) rfl (qb rfl) (Qt.aN rfl rfl z1 c1) rfl ?_;refine JD.cE (i:=15) (by kernel_rfl) ?_;refine JS.st rfl rfl rfl (Ld.bM rfl rfl rfl (hz _) dH) (.cK rfl) (fun _=>?_);refine JD.take 16 rfl rfl (by kernel_rfl) rfl (qb rfl) (Qt.aN rfl rfl z2 c2) rfl ?_;refine JD.cE (i:=17) (by kernel_rfl) ?_;refine JS.st rfl rfl rfl (Ld.bM rfl rfl rfl (hz _) dG) (.cK rfl) (fun _=>?_);refine aX ?_
   rotate_left
   all_goals
    repeat (first | (refine K.binOp ?_;refine jq rfl rfl rfl ((Qt.aD rfl rfl rfl w3)) ?_) | refine gn ?_)
    refine J.bq ?_ ((ih ⟨(S1 ++ [z],S2),by simp [qS]⟩ (by simp)).aF ⟨by simp only [List.length_append,List.length_singleton];rfl,rfl,rfl,rfl,rfl,trivial⟩);simp only;refine congrArg (fun r=>ak.row v 115 9 r :: C) (Eq.trans ?_ sw.symm);simp
theorem Fx (CF:dV prog fv C enc key) (hz:∀ x,(enc x).length=9) (v:Value) (l X A0 B0 Y:List α) (a m b:Nat) (hl:l=X ++ A0 ++ B0 ++ Y) (ha:a=X.length) (hm:m=a + A0.length) (hb:b=m + B0.length) (nA:A0.length≠0) (nB:B0.length≠0) (sA:Ss.cu key A0) (sB:Ss.cu key B0) (hn:l.length≤1000000) (h1:A0.length≠1) (h2:B0.length=1) :
  aA prog 141 [.c (.v v),.c (nI a),.c (nI m),.c (nI b),.c (.v fv)] (.row v 115 9 (l.map enc) :: C) (fun _:Unit=>(.aU [],.row v 115 9 ((X ++ Ss.mg key A0 B0 ++ Y).map enc) :: C)):=by
 have len:l.length=b + Y.length:=by rw [hl];simp;omega
 have w0:IntKind.i64.wrap ((m:Int) - (a:Int))=(A0.length:Int):=by rw [aV (by omega) (by omega)];omega
 have w1:IntKind.i64.wrap ((b:Int) - (m:Int))=(B0.length:Int):=by rw [aV (by omega) (by omega)];omega
 refine aA.intro func141 rfl rfl rfl (fun ok e=>?_);have t0:((A0.length:Int) == 1)=false:=by simp;omega
 have t9:((B0.length:Int) == 1)=true:=by rw [h2];rfl
 obtain ⟨y,rfl⟩:=List.length_eq_one_iff.1 h2;obtain ⟨A1,A2,rfl,hr,k1,k2⟩:=Ss.xD (key y) X A0 ([y] ++ Y) a m ha hm sA;rw [Ss.xF k1 k2];rw [show X ++ (A1 ++ A2) ++ ([y] ++ Y)=l by rw [hl];simp] at hr;have ay:l[m]?=some y:=by rw [hl,show X ++ (A1 ++ A2) ++ [y] ++ Y=(X ++ (A1 ++ A2)) ++ y :: Y by simp,show m=(X ++ (A1 ++ A2)).length by rw [List.length_append];omega];exact Ss.at_app _ _ _
 generalize hp:(fun h=>!decide (key y < Ss.ky key l h))=p at hr;have nk:(A1 ++ A2).length=A1.length + A2.length:=List.length_append;have eF:=cS (enc:=enc) ay
 have cy:=dh (enc:=enc) ay;have zy:(0:Int)≤(m:Int):=Int.natCast_nonneg _
 repeat (first | (refine K.binOp ?_;first | refine jq rfl rfl rfl ((Qt.aD rfl rfl rfl w0)) ?_ | refine jq rfl rfl rfl ((Qt.aD rfl rfl rfl w1)) ?_) | refine gn ?_)
 refine J.loop (ι:={ q:Nat × Nat // a≤q.1∧q.1≤q.2∧q.2≤m∧Ss.bs p q.1 q.2=a + A1.length }) (fun q=>[(14,.c (nI q.1.1)),(15,.c (nI q.1.2)),(0,.c (.v v)),(2,.c (nI m)),(4,.c (.v fv))]) (fun q=>.row v 115 9 (l.map enc) :: C) (fun q=>q.1.2 - q.1.1) ⟨(a,m),Nat.le_refl _,by simp only;omega,Nat.le_refl _,hr⟩ (fun X h=>h.aF ⟨rfl,rfl,rfl,rfl,rfl,trivial⟩) (fun q ih=>?_);obtain ⟨⟨i,j⟩,q1,q2,q3,q4⟩:=q;simp only at q1 q2 q3 q4 ih ⊢
 by_cases hk:i < j
 ·have t1:decide ((i:Int) < (j:Int))=true:=decide_eq_true (by omega);obtain ⟨x,ax⟩:∃ x,l[(i + j) / 2]?=some x:=⟨_,List.getElem?_eq_getElem (by omega)⟩
  have bx:=cS (enc:=enc) ax;have cx:=dh (enc:=enc) ax;have zx:(0:Int)≤(((i + j) / 2:Nat):Int):=Int.natCast_nonneg _;have py:p ((i + j) / 2)=!decide (key y < key x):=by rw [← hp];simp only;rw [Ss.jy ax]
  have w2:IntKind.i64.wrap ((i:Int) + (j:Int))=((i + j:Nat):Int):=dQ (by omega);have w3:IntKind.u64.wrap ((i + j:Nat):Int)=((i + j:Nat):Int):=kj (by omega);have w4:IntKind.i64.wrap (((i + j) / 2:Nat):Int)=(((i + j) / 2:Nat):Int):=aV (by omega) (by omega);have w5:IntKind.i64.wrap ((((i + j) / 2:Nat):Int) + 1)=(((i + j) / 2 + 1:Nat):Int):=by rw [aV (by omega) (by omega)];omega
  have hh:i + j≤4000000:=by omega
  repeat (first | (refine K.binOp ?_;first | refine jq rfl rfl rfl ((Qt.aD rfl rfl rfl w2)) ?_ | refine jq rfl rfl rfl (Qt.bin rfl rfl (fun w=>kn hh)) ?_) | (refine K.convert ?_;first | refine jq rfl rfl rfl (Qt.conv rfl w3) ?_ | refine jq rfl rfl rfl (Qt.conv rfl w4) ?_) | refine gn ?_)
  cases t3:decide (key y < key x) with
  | true =>
   rw [t3] at py;refine J.draw (by kernel_rfl) rfl ?_;refine JW.base none ?_;refine tk 0 ?_;refine tk 1 ?_;refine tk 2 ?_;refine JD.take 3 rfl rfl (by kernel_rfl) rfl (qb rfl) (Qt.aN rfl rfl zy cy) rfl ?_;refine JD.take 4 rfl rfl (by kernel_rfl) rfl (qb rfl) (Qt.bk rfl eF (hz _)) rfl ?_;refine tk 5 ?_;refine tk 6 ?_;refine JD.take 7 rfl rfl (by kernel_rfl) rfl (qb rfl) (Qt.aN rfl rfl zx cx) rfl ?_;refine JD.take 8 rfl rfl (by kernel_rfl) rfl (qb rfl) (Qt.bk rfl bx (hz _)) rfl ?_;refine jl 9 rfl rfl rfl rfl (Ld.fu CF y x ⟨[_],rfl⟩ (qb rfl) rfl rfl rfl) .none (fun _=>?_);refine jk 10 rfl rfl rfl rfl (Qt.cmp rfl rfl (congrArg some (fq t3))) ?_;refine jk 11 rfl rfl rfl rfl (Qt.not rfl) ?_;refine aX ?_
   repeat (refine gn ?_)
   exact (ih ⟨(i,(i + j) / 2),q1,by simp only;omega,by simp only;omega,by simp only;rw [← Ss.lQ hk py];exact q4⟩ (by simp only;omega)).aF ⟨rfl,rfl,rfl,rfl,rfl,trivial⟩
  | false =>
   rw [t3] at py;refine J.draw (by kernel_rfl) rfl ?_;refine JW.base none ?_;refine tk 0 ?_;refine tk 1 ?_;refine tk 2 ?_;refine JD.take 3 rfl rfl (by kernel_rfl) rfl (qb rfl) (Qt.aN rfl rfl zy cy) rfl ?_;refine JD.take 4 rfl rfl (by kernel_rfl) rfl (qb rfl) (Qt.bk rfl eF (hz _)) rfl ?_;refine tk 5 ?_;refine tk 6 ?_;refine JD.take 7 rfl rfl (by kernel_rfl) rfl (qb rfl) (Qt.aN rfl rfl zx cx) rfl ?_;refine JD.take 8 rfl rfl (by kernel_rfl) rfl (qb rfl) (Qt.bk rfl bx (hz _)) rfl ?_;refine jl 9 rfl rfl rfl rfl (Ld.fu CF y x ⟨[_],rfl⟩ (qb rfl) rfl rfl rfl) .none (fun _=>?_);refine jk 10 rfl rfl rfl rfl (Qt.cmp rfl rfl (congrArg some (fq t3))) ?_;refine jk 11 rfl rfl rfl rfl (Qt.not rfl) ?_;refine aX ?_
   repeat (first | (refine K.binOp ?_;refine jq rfl rfl rfl ((Qt.aD rfl rfl rfl w5)) ?_) | refine gn ?_)
   exact (ih ⟨((i + j) / 2 + 1,j),by simp only;omega,by simp only;omega,q3,by simp only;rw [← Ss.lP hk py];exact q4⟩ (by simp only;omega)).aF ⟨rfl,rfl,rfl,rfl,rfl,trivial⟩
 ·have t1:decide ((i:Int) < (j:Int))=false:=decide_eq_false (by omega);rw [Ss.kQ hk] at q4;clear ih q1 q2 q3 hp hr eF cy
  subst q4;rw [hl];clear hl ay
  repeat (refine gn ?_)
  refine J.bq (L':=.row v 115 9 ((X ++ (A1 ++ A2 ++ y :: []) ++ Y).map enc) :: C) (by simp) ?_;refine J.loop (ι:={ q:List α × List α // A2=q.1 ++ q.2 }) (fun q=>[(17,.c (nI (a + A1.length + q.1.1.length:Nat))),(14,.c (nI (a + A1.length:Nat))),(0,.c (.v v)),(4,.c (.v fv))]) (fun q=>.row v 115 9 ((X ++ (A1 ++ q.1.1 ++ y :: q.1.2) ++ Y).map enc) :: C) (fun q=>q.1.1.length) ⟨(A2,[]),by simp⟩ (fun X h=>h.aF ⟨by rw [show m=a + A1.length + A2.length by omega];rfl,rfl,rfl,rfl,trivial⟩) (fun q ih=>?_);obtain ⟨⟨S1,S2⟩,qS⟩:=q;simp only at qS ih ⊢;have lB:A2.length=S1.length + S2.length:=by rw [qS];simp
  rcases List.eq_nil_or_concat S1 with h | ⟨aJ,z,h⟩
  ·subst h;have t2:decide (((a + A1.length + ([]:List α).length:Nat):Int) > ((a + A1.length:Nat):Int))=false:=decide_eq_false (by simp);rw [List.nil_append] at qS;subst qS
   repeat (refine gn ?_)
   refine J.bq (L':=.row v 115 9 ((X ++ (A1 ++ y :: A2) ++ Y).map enc) :: C) (by simp) ?_
   (exact J.nG func141 rfl .nil () (by exact .refl) rfl)
  ·rw [List.concat_eq_append] at h;subst h;have l1:(aJ ++ [z]).length=aJ.length + 1:=by simp
   rw [l1] at lB ⊢;have t2:decide (((a + A1.length + (aJ.length + 1):Nat):Int) > ((a + A1.length:Nat):Int))=true:=decide_eq_true (by omega);have w3:IntKind.i64.wrap (((a + A1.length + (aJ.length + 1):Nat):Int) - 1)=((a + A1.length + aJ.length:Nat):Int):=by rw [aV (by omega) (by omega)];omega
   have er:X ++ (A1 ++ (aJ ++ [z]) ++ y :: S2) ++ Y=(X ++ A1 ++ aJ) ++ z :: y :: (S2 ++ Y):=by simp
   rw [er];have a1:((X ++ A1 ++ aJ) ++ z :: y :: (S2 ++ Y))[a + A1.length + aJ.length]?=some z:=by rw [show a + A1.length + aJ.length=(X ++ A1 ++ aJ).length by simp;omega];exact Ss.at_app _ _ _
   have a2:((X ++ A1 ++ aJ) ++ z :: y :: (S2 ++ Y))[a + A1.length + (aJ.length + 1)]?=some y:=by rw [show a + A1.length + (aJ.length + 1)=((X ++ A1 ++ aJ) ++ [z]).length by simp only [List.length_append,List.length_singleton];omega,show (X ++ A1 ++ aJ) ++ z :: y :: (S2 ++ Y)=((X ++ A1 ++ aJ) ++ [z]) ++ y :: (S2 ++ Y) by simp];exact Ss.at_app _ _ _
   have b1:=cS (enc:=enc) a1;have b2:=cS (enc:=enc) a2;have c1:=dh (enc:=enc) a1;have c2:=dh (enc:=enc) a2;have z1:(0:Int)≤((a + A1.length + aJ.length:Nat):Int):=Int.natCast_nonneg _;have z2:(0:Int)≤((a + A1.length + (aJ.length + 1):Nat):Int):=Int.natCast_nonneg _;have sw:=ki (enc:=enc) a2 a1;rw [Ss.qh,Ss.mG (X ++ A1 ++ aJ) z y (S2 ++ Y) _ _ (by simp;omega) (by simp;omega)] at sw;generalize hR:(X ++ A1 ++ aJ) ++ z :: y :: (S2 ++ Y)=R at er b1 b2 c1 c2 sw ⊢;have dH:((a + A1.length + (aJ.length + 1):Nat):Int).toNat < (R.map enc).length:=by omega
   have dG:((a + A1.length + aJ.length:Nat):Int).toNat < ((R.map enc).set ((a + A1.length + (aJ.length + 1):Nat):Int).toNat (enc z)).length:=by rw [List.length_set];omega
   repeat (refine gn ?_)
   refine J.draw (by kernel_rfl) rfl ?_;refine JW.iu none (.tmp 0) rfl ?_;refine tk 0 ?_;refine tk 1 ?_;refine tk 2 ?_;refine tk 3 ?_;refine JD.take 4 rfl rfl (by kernel_rfl) rfl (qb rfl) (Qt.aD rfl rfl rfl w3) rfl ?_;refine tk 5 ?_;refine tk 6 ?_;refine JD.take 7 rfl rfl (by kernel_rfl) rfl (qb rfl) (Qt.aD rfl rfl rfl w3) rfl ?_;refine JD.take 8 rfl rfl (by kernel_rfl) rfl (qb rfl) (Qt.aN rfl rfl z1 c1) rfl ?_;refine tk 10 ?_;refine tk 11 ?_;refine JD.take 12 rfl rfl (by kernel_rfl) rfl (qb rfl) (Qt.aN rfl rfl z2 c2) rfl ?_;refine JD.cF (i:=9) (j:=13) (by kernel_rfl) ?_ ?_;refine JS.q rfl rfl rfl (qb rfl) (Qt.bk rfl b1 (hz _)) ?_;refine jk 13 rfl rfl rfl rfl (Qt.bk rfl b2 (hz _)) ?_;refine JD.take 14 rfl rfl (by kernel_rfl) rfl (qb rfl) (Qt.aN rfl rfl z2 c2) rfl ?_;refine JD.cE (i:=15) (by kernel_rfl) ?_;refine JS.st rfl rfl rfl (Ld.bM rfl rfl rfl (hz _) dH) (.cK rfl) (fun _=>?_);refine JD.take 16 rfl rfl (by kernel_rfl) rfl (qb rfl) (Qt.aN rfl rfl z1 c1) rfl ?_;refine JD.cE (i:=17) (by kernel_rfl) ?_;refine JS.st rfl rfl rfl (Ld.bM rfl rfl rfl (hz _) dG) (.cK rfl) (fun _=>?_);refine aX ?_
   rotate_left
   refine JS.q rfl rfl rfl (qb rfl) (Qt.bk rfl b2 (hz _)) ?_;refine jk 9 rfl rfl rfl rfl (Qt.bk rfl b1 (hz _)) ?_;refine JD.take 14 rfl rfl (by kernel_rfl) rfl (qb rfl) (Qt.aN rfl rfl z2 c2) rfl ?_;refine JD.cE (i:=15) (by kernel_rfl) ?_;refine JS.st rfl rfl rfl (Ld.bM rfl rfl rfl (hz _) dH) (.cK rfl) (fun _=>?_);refine JD.take 16 rfl rfl (by kernel_rfl) rfl (qb rfl) (Qt.aN rfl rfl z1 c1) rfl ?_;refine JD.cE (i:=17) (by kernel_rfl) ?_;refine JS.st rfl rfl rfl (Ld.bM rfl rfl rfl (hz _) dG) (.cK rfl) (fun _=>?_);refine aX ?_
   rotate_left
   all_goals
    repeat (first | (refine K.binOp ?_;refine jq rfl rfl rfl ((Qt.aD rfl rfl rfl w3)) ?_) | refine gn ?_)
    refine J.bq ?_ ((ih ⟨(aJ,z :: S2),by simp [qS]⟩ (by simp)).aF ⟨rfl,rfl,rfl,rfl,trivial⟩);simp only;refine congrArg (fun r=>ak.row v 115 9 r :: C) (Eq.trans ?_ sw.symm);simp
end
end Fl
open Go.RowKit
namespace Fl
open Sx Go.Proofs.Tryz
set_option maxRecDepth 100000
set_option maxHeartbeats 4000000
section
variable {α:Type} {enc:α→List A} {key:α→Int} {fv:Value} {C:List ak}
theorem Fy (CF:dV prog fv C enc key) (hz:∀ x,(enc x).length=9) (v:Value) (s:Nat) (IH:∀ (l X A0 B0 Y:List α) (a m b:Nat),A0.length + B0.length≤s→l=X ++ A0 ++ B0 ++ Y→a=X.length→m=a + A0.length→b=m + B0.length→A0.length≠0→B0.length≠0→Ss.cu key A0→Ss.cu key B0→l.length≤1000000 →
  aA prog 141 [.c (.v v),.c (nI a),.c (nI m),.c (nI b),.c (.v fv)] (.row v 115 9 (l.map enc) :: C) (fun _:Unit=>(.aU [],.row v 115 9 ((X ++ Ss.mg key A0 B0 ++ Y).map enc) :: C))) (l X A0 B0 Y:List α) (a m b:Nat) (hs:A0.length + B0.length≤s + 1) (hl:l=X ++ A0 ++ B0 ++ Y) (ha:a=X.length) (hm:m=a + A0.length) (hb:b=m + B0.length) (nA:A0.length≠0) (nB:B0.length≠0) (sA:Ss.cu key A0) (sB:Ss.cu key B0) (hn:l.length≤1000000) (h1:A0.length≠1) (h2:B0.length≠1) :
  aA prog 141 [.c (.v v),.c (nI a),.c (nI m),.c (nI b),.c (.v fv)] (.row v 115 9 (l.map enc) :: C) (fun _:Unit=>(.aU [],.row v 115 9 ((X ++ Ss.mg key A0 B0 ++ Y).map enc) :: C)):=by
 have len:l.length=b + Y.length:=by rw [hl];simp;omega
 have w0 (_:Unit):IntKind.i64.wrap ((m:Int) - (a:Int))=(A0.length:Int):=by rw [aV (by omega) (by omega)];omega
 have w1 (_:Unit):IntKind.i64.wrap ((b:Int) - (m:Int))=(B0.length:Int):=by rw [aV (by omega) (by omega)];omega
 refine aA.intro func141 rfl rfl rfl (fun ok e=>?_);have t0:((A0.length:Int) == 1)=false:=by simp;omega
 have t9:((B0.length:Int) == 1)=false:=by simp;omega
 obtain ⟨aG,kf⟩:∃ aG,(a + b) / 2=aG:=⟨_,rfl⟩
 obtain ⟨n,j4⟩:∃ n,aG + m=n:=⟨_,rfl⟩
 obtain ⟨s0,r0,h0⟩:∃ s0 r0,m > aG∧s0=n - b∧r0=aG∨¬ m > aG∧s0=a∧r0=m:=by
  by_cases c:m > aG
  ·exact ⟨_,_,.inl ⟨c,rfl,rfl⟩⟩
  ·exact ⟨_,_,.inr ⟨c,rfl,rfl⟩⟩
 generalize hp:(fun c=>!decide (Ss.ky key l (n - 1 - c) < Ss.ky key l c))=p;obtain ⟨A1,A2,B1,B2,eA,eB,k1,k2,k3,k4,k5⟩:=Ss.parts X A0 B0 Y a m b ha hm hb sA sB (by rintro rfl;exact nA rfl) (by rintro rfl;exact nB rfl) aG n s0 r0 kf.symm j4.symm h0 p (fun c _ _=>by rw [← hp,← hl]);have lA:A0.length=A1.length + A2.length:=by rw [eA,List.length_append]
 have lB:B0.length=B1.length + B2.length:=by rw [eB,List.length_append]
 have nK:=eA ▸ sA;have nL:=eB ▸ sB;have em:Ss.mg key A0 B0=Ss.mg key A1 B1 ++ Ss.mg key A2 B2:=by rw [eA,eB];exact Ss.lT k4 k5
 rw [em];have w2 (_:Unit):IntKind.i64.wrap ((a:Int) + (b:Int))=((a + b:Nat):Int):=dQ (by omega);have w3 (_:Unit):IntKind.u64.wrap ((a + b:Nat):Int)=((a + b:Nat):Int):=kj (by omega);have w4 (_:Unit):IntKind.i64.wrap (((a + b) / 2:Nat):Int)=(aG:Int):=by rw [kf];exact aV (by omega) (by omega)
 have w5 (_:Unit):IntKind.i64.wrap ((aG:Int) + (m:Int))=(n:Int):=by rw [dQ (by omega),j4]
 have w6 (_:Unit):IntKind.i64.wrap ((n:Int) - (b:Int))=(n:Int) - (b:Int):=aV (by omega) (by omega);have w7 (_:Unit):IntKind.i64.wrap ((n:Int) - 1)=((n - 1:Nat):Int):=by rw [aV (by omega) (by omega)];omega
 have hh:a + b≤4000000:=by omega
 obtain ⟨g,hg⟩:∃ g,decide ((m:Int) > (aG:Int))=g:=⟨_,rfl⟩
 repeat (first | (refine K.binOp ?_;first | refine jq rfl rfl rfl ((Qt.aD rfl rfl rfl (w0 ()))) ?_ | refine jq rfl rfl rfl ((Qt.aD rfl rfl rfl (w1 ()))) ?_ | refine jq rfl rfl rfl ((Qt.aD rfl rfl rfl (w2 ()))) ?_ | refine jq rfl rfl rfl (Qt.bin rfl rfl (fun w=>kn hh)) ?_ | refine jq rfl rfl rfl ((Qt.aD rfl rfl rfl (w5 ()))) ?_) | (refine K.convert ?_;first | refine jq rfl rfl rfl (Qt.conv rfl (w3 ())) ?_ | refine jq rfl rfl rfl (Qt.conv rfl (w4 ())) ?_) | refine gn ?_)
 refine J.lU (ι:=Unit) (fun _=>[(20,.c (nI s0)),(21,.c (nI r0)),(18,.c (nI aG)),(19,.c (nI n)),(0,.c (.v v)),(1,.c (nI a)),(2,.c (nI m)),(3,.c (nI b)),(4,.c (.v fv))]) (fun _=>.row v 115 9 (l.map enc) :: C) (fun _=>?_) (fun KK rest=>?_)
 rotate_left
 ·rcases h0 with ⟨c,rfl,rfl⟩ | ⟨c,rfl,rfl⟩
  ·obtain rfl:g=true:=by rw [← hg];exact decide_eq_true (by omega)
   have w8 (_:Unit):IntKind.i64.wrap ((n:Int) - (b:Int))=((n - b:Nat):Int):=by rw [w6 ()];omega
   repeat (first | (refine K.binOp ?_;refine jq rfl rfl rfl ((Qt.aD rfl rfl rfl (w8 ()))) ?_) | refine gn ?_)
   exact (rest ()).aF ⟨rfl,rfl,rfl,rfl,rfl,rfl,rfl,rfl,rfl,trivial⟩
  ·obtain rfl:g=false:=by rw [← hg];exact decide_eq_false (by omega)
   repeat (refine gn ?_)
   exact (rest ()).aF ⟨rfl,rfl,rfl,rfl,rfl,rfl,rfl,rfl,rfl,trivial⟩
 have xH:a < aG∧aG < b:=by omega
 have fc:s0≤r0∧r0≤1000000∧n≤2000000:=by omega
 have fd:∀ c,s0≤c→c < r0→c < l.length∧n - 1 - c < l.length∧c + 1≤n:=by omega
 rw [k1] at k2;have k2:n=m + B1.length + (a + A1.length):=by omega
 clear h0 kf j4 hg w6;obtain ⟨sy,Aq,Ar⟩:=fc
 repeat (first | (refine K.binOp ?_;refine jq rfl rfl rfl ((Qt.aD rfl rfl rfl (w7 ()))) ?_) | refine gn ?_)
 refine J.loop (ι:={ q:Nat × Nat // s0≤q.1∧q.1≤q.2∧q.2≤r0∧Ss.bs p q.1 q.2=a + A1.length }) (fun q=>[(20,.c (nI q.1.1)),(21,.c (nI q.1.2)),(22,.c (nI (n - 1:Nat))),(18,.c (nI aG)),(19,.c (nI n)),(0,.c (.v v)),(1,.c (nI a)),(2,.c (nI m)),(3,.c (nI b)),(4,.c (.v fv))]) (fun q=>.row v 115 9 (l.map enc) :: C) (fun q=>q.1.2 - q.1.1) ⟨(s0,r0),Nat.le_refl _,sy,Nat.le_refl _,k1⟩ (fun X h=>h.aF ⟨rfl,rfl,rfl,rfl,rfl,rfl,rfl,rfl,rfl,rfl,trivial⟩) (fun q ih=>?_);obtain ⟨⟨i,j⟩,q1,q2,q3,q4⟩:=q;simp only at q1 q2 q3 q4 ih ⊢
 by_cases hk:i < j
 ·have t1:decide ((i:Int) < (j:Int))=true:=decide_eq_true (by omega);obtain ⟨f1,f2,f3⟩:=fd ((i + j) / 2) (by omega) (by omega);obtain ⟨x,ax⟩:∃ x,l[(i + j) / 2]?=some x:=⟨_,List.getElem?_eq_getElem f1⟩
  obtain ⟨y,ay⟩:∃ y,l[n - 1 - (i + j) / 2]?=some y:=⟨_,List.getElem?_eq_getElem f2⟩
  have bx:=cS (enc:=enc) ax;have cx (_:Unit):=dh (enc:=enc) ax;have zx (_:Unit):(0:Int)≤(((i + j) / 2:Nat):Int):=Int.natCast_nonneg _;have eF:=cS (enc:=enc) ay
  have cy (_:Unit):=dh (enc:=enc) ay;have zy (_:Unit):(0:Int)≤((n - 1 - (i + j) / 2:Nat):Int):=Int.natCast_nonneg _;have py:p ((i + j) / 2)=!decide (key y < key x):=by rw [← hp];simp only;rw [Ss.jy ax,Ss.jy ay]
  have v2 (_:Unit):IntKind.i64.wrap ((i:Int) + (j:Int))=((i + j:Nat):Int):=dQ (by omega);have v3 (_:Unit):IntKind.u64.wrap ((i + j:Nat):Int)=((i + j:Nat):Int):=kj (by omega);have v4 (_:Unit):IntKind.i64.wrap (((i + j) / 2:Nat):Int)=(((i + j) / 2:Nat):Int):=aV (by omega) (by omega);have v5 (_:Unit):IntKind.i64.wrap ((((i + j) / 2:Nat):Int) + 1)=(((i + j) / 2 + 1:Nat):Int):=by rw [aV (by omega) (by omega)];omega
  have v6 (_:Unit):IntKind.i64.wrap (((n - 1:Nat):Int) - (((i + j) / 2:Nat):Int))=((n - 1 - (i + j) / 2:Nat):Int):=by rw [aV (by omega) (by omega)];omega
  have sC:i + j≤4000000:=by omega
  repeat (first | (refine K.binOp ?_;first | refine jq rfl rfl rfl ((Qt.aD rfl rfl rfl (v2 ()))) ?_ | refine jq rfl rfl rfl (Qt.bin rfl rfl (fun w=>kn sC)) ?_) | (refine K.convert ?_;first | refine jq rfl rfl rfl (Qt.conv rfl (v3 ())) ?_ | refine jq rfl rfl rfl (Qt.conv rfl (v4 ())) ?_) | refine gn ?_)
  cases t3:decide (key y < key x) with
  | true =>
   rw [t3] at py;refine J.draw (by kernel_rfl) rfl ?_;refine JW.base none ?_;refine tk 0 ?_;refine tk 1 ?_;refine tk 2 ?_;refine tk 3 ?_;refine JD.take 4 rfl rfl (by kernel_rfl) rfl (qb rfl) (Qt.aD rfl rfl rfl (v6 ())) rfl ?_;refine JD.take 5 rfl rfl (by kernel_rfl) rfl (qb rfl) (Qt.aN rfl rfl (zy ()) (cy ())) rfl ?_;refine JD.take 6 rfl rfl (by kernel_rfl) rfl (qb rfl) (Qt.bk rfl eF (hz _)) rfl ?_;refine tk 7 ?_;refine tk 8 ?_;refine JD.take 9 rfl rfl (by kernel_rfl) rfl (qb rfl) (Qt.aN rfl rfl (zx ()) (cx ())) rfl ?_;refine JD.take 10 rfl rfl (by kernel_rfl) rfl (qb rfl) (Qt.bk rfl bx (hz _)) rfl ?_;refine jl 11 rfl rfl rfl rfl (Ld.fu CF y x ⟨[_],rfl⟩ (qb rfl) rfl rfl rfl) .none (fun _=>?_);refine jk 12 rfl rfl rfl rfl (Qt.cmp rfl rfl (congrArg some (fq t3))) ?_;refine jk 13 rfl rfl rfl rfl (Qt.not rfl) ?_;refine aX ?_
   repeat (refine gn ?_)
   exact (ih ⟨(i,(i + j) / 2),q1,by simp only;omega,by simp only;omega,by simp only;rw [← Ss.lQ hk py];exact q4⟩ (by simp only;omega)).aF ⟨rfl,rfl,rfl,rfl,rfl,rfl,rfl,rfl,rfl,rfl,trivial⟩
  | false =>
   rw [t3] at py;refine J.draw (by kernel_rfl) rfl ?_;refine JW.base none ?_;refine tk 0 ?_;refine tk 1 ?_;refine tk 2 ?_;refine tk 3 ?_;refine JD.take 4 rfl rfl (by kernel_rfl) rfl (qb rfl) (Qt.aD rfl rfl rfl (v6 ())) rfl ?_;refine JD.take 5 rfl rfl (by kernel_rfl) rfl (qb rfl) (Qt.aN rfl rfl (zy ()) (cy ())) rfl ?_;refine JD.take 6 rfl rfl (by kernel_rfl) rfl (qb rfl) (Qt.bk rfl eF (hz _)) rfl ?_;refine tk 7 ?_;refine tk 8 ?_;refine JD.take 9 rfl rfl (by kernel_rfl) rfl (qb rfl) (Qt.aN rfl rfl (zx ()) (cx ())) rfl ?_;refine JD.take 10 rfl rfl (by kernel_rfl) rfl (qb rfl) (Qt.bk rfl bx (hz _)) rfl ?_;refine jl 11 rfl rfl rfl rfl (Ld.fu CF y x ⟨[_],rfl⟩ (qb rfl) rfl rfl rfl) .none (fun _=>?_);refine jk 12 rfl rfl rfl rfl (Qt.cmp rfl rfl (congrArg some (fq t3))) ?_;refine jk 13 rfl rfl rfl rfl (Qt.not rfl) ?_;refine aX ?_
   repeat (first | (refine K.binOp ?_;refine jq rfl rfl rfl ((Qt.aD rfl rfl rfl (v5 ()))) ?_) | refine gn ?_)
   exact (ih ⟨((i + j) / 2 + 1,j),by simp only;omega,by simp only;omega,q3,by simp only;rw [← Ss.lP hk py];exact q4⟩ (by simp only;omega)).aF ⟨rfl,rfl,rfl,rfl,rfl,rfl,rfl,rfl,rfl,rfl,trivial⟩
 ·have t1:decide ((i:Int) < (j:Int))=false:=decide_eq_false (by omega);rw [Ss.kQ hk] at q4;subst q4;clear ih q1 q2 q3 hk hp k1 fd;have el:l=X ++ A1 ++ A2 ++ B1 ++ B2 ++ Y:=by rw [hl,eA,eB];simp
  have v2 (_:Unit):IntKind.i64.wrap ((n:Int) - ((a + A1.length:Nat):Int))=((m + B1.length:Nat):Int):=by rw [aV (by omega) (by omega)];omega
  obtain ⟨g1,iP⟩:∃ g,decide (((a + A1.length:Nat):Int) < (m:Int))=g:=⟨_,rfl⟩
  obtain ⟨g2,dM⟩:∃ g,decide ((m:Int) < ((m + B1.length:Nat):Int))=g:=⟨_,rfl⟩
  obtain ⟨g3,nM⟩:∃ g,decide ((a:Int) < ((a + A1.length:Nat):Int))=g:=⟨_,rfl⟩
  obtain ⟨g4,nN⟩:∃ g,decide (((a + A1.length:Nat):Int) < (aG:Int))=g:=⟨_,rfl⟩
  obtain ⟨g5,nQ⟩:∃ g,decide ((aG:Int) < ((m + B1.length:Nat):Int))=g:=⟨_,rfl⟩
  obtain ⟨g6,nR⟩:∃ g,decide (((m + B1.length:Nat):Int) < (b:Int))=g:=⟨_,rfl⟩
  repeat (first | (refine K.binOp ?_;refine jq rfl rfl rfl ((Qt.aD rfl rfl rfl (v2 ()))) ?_) | refine gn ?_)
  refine JO.lU (ι:=Unit) (fun _=>[(24,.c (nI (m + B1.length:Nat))),(20,.c (nI (a + A1.length:Nat))),(18,.c (nI aG)),(0,.c (.v v)),(1,.c (nI a)),(2,.c (nI m)),(3,.c (nI b)),(4,.c (.v fv))]) (fun _=>.row v 115 9 ((X ++ A1 ++ B1 ++ A2 ++ B2 ++ Y).map enc) :: C) (fun _=>?_) (fun KK rest=>?_)
  rotate_left
  ·cases g1 with
   | true =>
    cases g2 with
    | true =>
     have r1:=of_decide_eq_true iP;have r2:=of_decide_eq_true dM;have CR:=Fu (fv:=fv) hz v l (X ++ A1) A2 B1 (B2 ++ Y) (a + A1.length) m (m + B1.length) (by rw [el];simp) (by simp;omega) (by omega) rfl (by omega) (by omega) hn
     repeat (first | (refine K.call ?_;refine JO.ld (Ld.xx (CR) (qb rfl) rfl (.cons .refl (.cons .refl (.cons .refl (.cons .refl (.cons .refl .nil)))))) rfl (fun _=>?_)) | refine gn ?_)
     refine J.bq ?_ ((rest ()).aF ⟨rfl,rfl,rfl,rfl,rfl,rfl,rfl,rfl,trivial⟩);simp
    | false =>
     have r2:=of_decide_eq_false dM;have r3:B1=[]:=List.length_eq_zero_iff.1 (by omega)
     repeat (refine gn ?_)
     refine J.bq ?_ ((rest ()).aF ⟨rfl,rfl,rfl,rfl,rfl,rfl,rfl,rfl,trivial⟩);rw [el,r3];simp
   | false =>
    have r1:=of_decide_eq_false iP;have r3:A2=[]:=List.length_eq_zero_iff.1 (by omega)
    repeat (refine gn ?_)
    refine J.bq ?_ ((rest ()).aF ⟨rfl,rfl,rfl,rfl,rfl,rfl,rfl,rfl,trivial⟩);rw [el,r3];simp
  have nU:(X ++ A1 ++ B1 ++ A2 ++ B2 ++ Y).length≤1000000:=by
   have:(X ++ A1 ++ B1 ++ A2 ++ B2 ++ Y).length=l.length:=by rw [el];simp;omega
   omega
  have sD:(X ++ Ss.mg key A1 B1 ++ A2 ++ B2 ++ Y).length≤1000000:=by
   simp only [List.length_append,Ss.qo] at nU ⊢;omega
  clear hl el iP dM
  repeat (refine gn ?_)
  refine JO.lU (ι:=Unit) (fun _=>[(24,.c (nI (m + B1.length:Nat))),(18,.c (nI aG)),(0,.c (.v v)),(3,.c (nI b)),(4,.c (.v fv))]) (fun _=>.row v 115 9 ((X ++ Ss.mg key A1 B1 ++ A2 ++ B2 ++ Y).map enc) :: C) (fun _=>?_) (fun KK rest=>?_)
  rotate_left
  ·cases g3 with
   | true =>
    cases g4 with
    | true =>
     have r1:=of_decide_eq_true nM;have r2:=of_decide_eq_true nN;have CR:=IH (X ++ A1 ++ B1 ++ A2 ++ B2 ++ Y) X A1 B1 (A2 ++ B2 ++ Y) a (a + A1.length) aG (by omega) (by simp) ha rfl (by omega) (by omega) (by omega) nK.left nL.left nU
     repeat (first | (refine K.call ?_;refine JO.ld (Ld.dP (CR) (qb rfl) rfl (.cons .refl (.cons .refl (.cons .refl (.cons .refl (.cons .refl .nil)))))) rfl (fun _=>?_)) | refine gn ?_)
     refine J.bq ?_ ((rest ()).aF ⟨rfl,rfl,rfl,rfl,rfl,trivial⟩);simp
    | false =>
     have r2:=of_decide_eq_false nN;have r3:B1=[]:=List.length_eq_zero_iff.1 (by omega)
     repeat (refine gn ?_)
     refine J.bq ?_ ((rest ()).aF ⟨rfl,rfl,rfl,rfl,rfl,trivial⟩);rw [r3,Ss.jQ];simp
   | false =>
    have r1:=of_decide_eq_false nM;have r3:A1=[]:=List.length_eq_zero_iff.1 (by omega)
    repeat (refine gn ?_)
    refine J.bq ?_ ((rest ()).aF ⟨rfl,rfl,rfl,rfl,rfl,trivial⟩);rw [r3,Ss.jw];simp
  have lm:=Ss.qo (key:=key) A1 B1
  cases g5 with
  | true =>
   cases g6 with
   | true =>
    have r1:=of_decide_eq_true nQ;have r2:=of_decide_eq_true nR;have CR:=IH (X ++ Ss.mg key A1 B1 ++ A2 ++ B2 ++ Y) (X ++ Ss.mg key A1 B1) A2 B2 Y aG (m + B1.length) b (by omega) rfl (by rw [List.length_append,lm];omega) (by omega) (by omega) (by omega) (by omega) nK.right nL.right sD
    repeat (first | (refine K.call ?_;refine JO.ld (Ld.dP (CR) (qb rfl) rfl (.cons .refl (.cons .refl (.cons .refl (.cons .refl (.cons .refl .nil)))))) rfl (fun _=>?_)) | refine gn ?_)
    refine J.bq (L':=.row v 115 9 ((X ++ (Ss.mg key A1 B1 ++ Ss.mg key A2 B2) ++ Y).map enc) :: C) (by simp) ?_
    (exact J.fo func141 rfl .nil () (by exact .refl) rfl)
   | false =>
    have r2:=of_decide_eq_false nR;have r3:B2=[]:=List.length_eq_zero_iff.1 (by omega)
    repeat (refine gn ?_)
    refine J.bq (L':=.row v 115 9 ((X ++ (Ss.mg key A1 B1 ++ Ss.mg key A2 B2) ++ Y).map enc) :: C) (by rw [r3,Ss.jQ];simp) ?_
    (exact J.fo func141 rfl .nil () (by exact .refl) rfl)
  | false =>
   have r1:=of_decide_eq_false nQ;have r3:A2=[]:=List.length_eq_zero_iff.1 (by omega)
   repeat (refine gn ?_)
   refine J.bq (L':=.row v 115 9 ((X ++ (Ss.mg key A1 B1 ++ Ss.mg key A2 B2) ++ Y).map enc) :: C) (by rw [r3,Ss.jw];simp) ?_
   (exact J.fo func141 rfl .nil () (by exact .refl) rfl)
theorem xK (CF:dV prog fv C enc key) (hz:∀ x,(enc x).length=9) (v:Value):∀ (s:Nat) (l X A0 B0 Y:List α) (a m b:Nat),A0.length + B0.length≤s→l=X ++ A0 ++ B0 ++ Y→a=X.length→m=a + A0.length→b=m + B0.length→A0.length≠0→B0.length≠0→Ss.cu key A0→Ss.cu key B0→l.length≤1000000 →
  aA prog 141 [.c (.v v),.c (nI a),.c (nI m),.c (nI b),.c (.v fv)] (.row v 115 9 (l.map enc) :: C) (fun _:Unit=>(.aU [],.row v 115 9 ((X ++ Ss.mg key A0 B0 ++ Y).map enc) :: C))
 | 0,l,X,A0,B0,Y,a,m,b,hs,hl,ha,hm,hb,nA,nB,sA,sB,hn=>by omega
 | s + 1,l,X,A0,B0,Y,a,m,b,hs,hl,ha,hm,hb,nA,nB,sA,sB,hn=>by
  by_cases h1:A0.length=1
  ·exact Fv CF hz v l X A0 B0 Y a m b hl ha hm hb nA nB sA sB hn h1
  ·by_cases h2:B0.length=1
   ·exact Fx CF hz v l X A0 B0 Y a m b hl ha hm hb nA nB sA sB hn h1 h2
   ·exact Fy CF hz v s (xK CF hz v s) l X A0 B0 Y a m b hs hl ha hm hb nA nB sA sB hn h1 h2
end
end Fl
open Go.RowKit
namespace Fl
open Sx Go.Proofs.Tryz
set_option maxRecDepth 100000
set_option maxHeartbeats 4000000
section
variable {α:Type} {enc:α→List A} {key:α→Int} {fv:Value} {C:List ak}
theorem Fz (CF:dV prog fv C enc key) (hz:∀ x,(enc x).length=9) (v:Value) (l0:List α) (N:Nat) (hN:N=l0.length) (hs:N≤100000) :
  aA prog 95 [.c (.v v),.c (nI N),.c (.v fv)] (.row v 115 9 (l0.map enc) :: C) (fun _:Unit=>(.aU [],.row v 115 9 ((Ss.bg key l0).map enc) :: C)):=by
 refine aA.intro func95 rfl rfl rfl (fun ok e=>?_)
 repeat (refine gn ?_)
 refine J.loop (ι:={ q:List α × List α // q.1 ++ Ss.cr key 20 q.2=Ss.cr key 20 l0∧q.1.length + q.2.length=N }) (fun q=>[(7,.c (nI q.1.1.length)),(8,.c (nI (q.1.1.length + 20:Nat))),(6,.c (nI (20:Nat))),(0,.c (.v v)),(1,.c (nI N)),(2,.c (.v fv))]) (fun q=>.row v 115 9 ((q.1.1 ++ q.1.2).map enc) :: C) (fun q=>q.1.2.length) ⟨([],l0),rfl,by simp [hN]⟩ (fun X h=>h.aF ⟨rfl,rfl,rfl,rfl,rfl,rfl,trivial⟩) (fun q ih=>?_);obtain ⟨⟨Z,R⟩,ND,NF⟩:=q;simp only at ND NF ih ⊢
 by_cases hk:Z.length + 20≤N
 ·have t1:decide (((Z.length + 20:Nat):Int)≤(N:Int))=true:=decide_eq_true (by omega);have lt:(R.take 20).length=20:=by rw [List.length_take];omega
  have ld:(R.drop 20).length=R.length - 20:=List.length_drop;have ls:=Ss.fL (key:=key) (R.take 20);have CI:=At CF hz v (Z ++ R) Z (R.take 20) (R.drop 20) Z.length (Z.length + 20) (by rw [List.append_assoc,List.take_append_drop]) rfl (by omega) (by omega);have w1:IntKind.i64.wrap (((Z.length + 20:Nat):Int) + ((20:Nat):Int))=((Z.length + 20 + 20:Nat):Int):=dQ (by omega);rw [Ss.je (by omega) (by decide),← List.append_assoc] at ND
  repeat (first | (refine K.binOp ?_;refine jq rfl rfl rfl ((Qt.aD rfl rfl rfl w1)) ?_) | (refine K.call ?_;refine JO.ld (Ld.dP (CI) (qb rfl) rfl (by (exact bR.cons .refl (.cons .refl (.cons .refl (.cons .refl .nil)))))) rfl ?_;intro _) | refine gn ?_)
  exact (ih ⟨(Z ++ Ss.bg key (R.take 20),R.drop 20),ND,by simp only [List.length_append];omega⟩ (by simp only;omega)).aF ⟨by simp only [List.length_append,ls,lt];rfl,by simp only [List.length_append,ls,lt];rfl,rfl,rfl,rfl,rfl,trivial⟩
 ·have t1:decide (((Z.length + 20:Nat):Int)≤(N:Int))=false:=decide_eq_false (by omega);have CI:=At CF hz v (Z ++ R) Z R [] Z.length N (by simp) rfl (by omega) (by simp;omega);rw [Ss.g9 (by omega)] at ND;rw [List.append_nil,ND] at CI;clear ih hk
  repeat (first | (refine K.call ?_;refine JO.ld (Ld.dP (CI) (qb rfl) rfl (by (exact bR.cons .refl (.cons .refl (.cons .refl (.cons .refl .nil)))))) rfl ?_;intro _) | refine gn ?_)
  clear t1 CI ND NF;refine J.loop (ι:={ k:Nat // 0 < k∧k≤200020 }) (fun q=>[(6,.c (nI q.1)),(0,.c (.v v)),(1,.c (nI N)),(2,.c (.v fv))]) (fun q=>.row v 115 9 ((Ss.cr key q.1 l0).map enc) :: C) (fun q=>N - q.1) ⟨20,by omega,by omega⟩ (fun X h=>h.aF ⟨rfl,rfl,rfl,rfl,trivial⟩) (fun q ih=>?_);obtain ⟨k,k0,k1⟩:=q;simp only at k0 k1 ih ⊢
  by_cases hk:k < N
  ·have t1:decide ((k:Int) < (N:Int))=true:=decide_eq_true (by omega);have w2:IntKind.i64.wrap (2 * (k:Int))=((2 * k:Nat):Int):=by rw [aV (by omega) (by omega)];omega
   have w3:IntKind.i64.wrap ((k:Int) * 2)=((2 * k:Nat):Int):=by rw [aV (by omega) (by omega)];omega
   have cM:=ih ⟨2 * k,by omega,by omega⟩ (by simp only;omega);clear ih;simp only at cM
   repeat (first | (refine K.binOp ?_;refine jq rfl rfl rfl ((Qt.aD rfl rfl rfl w2)) ?_) | refine gn ?_)
   refine J.loop (ι:={ q:List α × List α // q.1 ++ Ss.cr key (2 * k) q.2=Ss.cr key (2 * k) l0∧q.1.length + q.2.length=N }) (fun q=>[(7,.c (nI q.1.1.length)),(8,.c (nI (q.1.1.length + 2 * k:Nat))),(6,.c (nI k)),(0,.c (.v v)),(1,.c (nI N)),(2,.c (.v fv))]) (fun q=>.row v 115 9 ((q.1.1 ++ Ss.cr key k q.1.2).map enc) :: C) (fun q=>q.1.2.length) ⟨([],l0),rfl,by simp [hN]⟩ (fun X h=>h.aF ⟨rfl,by rw [show ([]:List α).length + 2 * k=2 * k by simp];rfl,rfl,rfl,rfl,rfl,trivial⟩) (fun q ih=>?_);obtain ⟨⟨Z,R⟩,ND,NF⟩:=q;simp only at ND NF ih ⊢;have w4:IntKind.i64.wrap ((Z.length:Int) + (k:Int))=((Z.length + k:Nat):Int):=dQ (by omega);have lt:(R.take k).length=min k R.length:=List.length_take;have ld:(R.drop k).length=R.length - k:=List.length_drop;have ls:=Ss.fL (key:=key) (R.take k)
   by_cases hj:Z.length + 2 * k≤N
   ·have t2:decide (((Z.length + 2 * k:Nat):Int)≤(N:Int))=true:=decide_eq_true (by omega);have dG:((R.drop k).take k).length=k:=by rw [List.length_take];omega
    have sE:=Ss.fL (key:=key) ((R.drop k).take k);have As:(R.drop (2 * k)).length=R.length - 2 * k:=List.length_drop;have nV:(R.take (2 * k)).length=2 * k:=by rw [List.length_take];omega
    have nW:=Ss.fL (key:=key) (R.take (2 * k));have w5:IntKind.i64.wrap (((Z.length + 2 * k:Nat):Int) + ((2 * k:Nat):Int))=((Z.length + 2 * k + 2 * k:Nat):Int):=dQ (by omega);have e1:Ss.cr key k R=Ss.bg key (R.take k) ++ (Ss.bg key ((R.drop k).take k) ++ Ss.cr key k (R.drop (2 * k))):=by
     rw [Ss.je (by omega) (by omega),Ss.je (l:=R.drop k) (by omega) (by omega),List.drop_drop,show k + k=2 * k by omega]
    have e2:Ss.mg key (Ss.bg key (R.take k)) (Ss.bg key ((R.drop k).take k))=Ss.bg key (R.take (2 * k)):=by
     rw [Ss.qp,show 2 * k=k + k by omega,List.take_add]
    have lb:=Ss.uP (key:=key) (R.drop (2 * k)).length k (R.drop (2 * k)) (Nat.le_refl _);have CM:=xK CF hz v _ (Z ++ Ss.cr key k R) Z (Ss.bg key (R.take k)) (Ss.bg key ((R.drop k).take k)) (Ss.cr key k (R.drop (2 * k))) Z.length (Z.length + k) (Z.length + 2 * k) (Nat.le_refl _) (by rw [e1];simp) rfl (by omega) (by omega) (by omega) (by omega) (Ss.jd _) (Ss.jd _) (by rw [e1];simp only [List.length_append];omega);rw [e2] at CM;rw [Ss.je (by omega) (by omega),← List.append_assoc] at ND
    repeat (first | (refine K.binOp ?_;first | refine jq rfl rfl rfl ((Qt.aD rfl rfl rfl w4)) ?_ | refine jq rfl rfl rfl ((Qt.aD rfl rfl rfl w2)) ?_ | refine jq rfl rfl rfl ((Qt.aD rfl rfl rfl w5)) ?_) | (refine K.call ?_;refine JO.ld (Ld.dP (CM) (qb rfl) rfl (.cons .refl (.cons .refl (.cons .refl (.cons .refl (.cons .refl .nil)))))) rfl (fun _=>?_)) | refine gn ?_)
    exact (ih ⟨(Z ++ Ss.bg key (R.take (2 * k)),R.drop (2 * k)),ND,by simp only [List.length_append];omega⟩ (by simp only;omega)).aF ⟨by simp only [List.length_append,nW,nV];rfl,by simp only [List.length_append,nW,nV];rfl,rfl,rfl,rfl,rfl,trivial⟩
   ·have t2:decide (((Z.length + 2 * k:Nat):Int)≤(N:Int))=false:=decide_eq_false (by omega);clear ih;rw [Ss.g9 (by omega)] at ND
    by_cases hm:Z.length + k < N
    ·have t3:decide (((Z.length + k:Nat):Int) < (N:Int))=true:=decide_eq_true (by omega);have sE:=Ss.fL (key:=key) (R.drop k);have e1:Ss.cr key k R=Ss.bg key (R.take k) ++ Ss.bg key (R.drop k):=by
      rw [Ss.je (by omega) (by omega),Ss.g9 (l:=R.drop k) (by omega)]
     have e2:Ss.mg key (Ss.bg key (R.take k)) (Ss.bg key (R.drop k))=Ss.bg key R:=by
      rw [Ss.qp,List.take_append_drop]
     have CM:=xK CF hz v _ (Z ++ Ss.cr key k R) Z (Ss.bg key (R.take k)) (Ss.bg key (R.drop k)) [] Z.length (Z.length + k) N (Nat.le_refl _) (by rw [e1];simp) rfl (by omega) (by omega) (by omega) (by omega) (Ss.jd _) (Ss.jd _) (by rw [e1];simp only [List.length_append];omega);rw [e2,List.append_nil,ND] at CM
     repeat (first | (refine K.binOp ?_;first | refine jq rfl rfl rfl ((Qt.aD rfl rfl rfl w4)) ?_ | refine jq rfl rfl rfl ((Qt.aD rfl rfl rfl w3)) ?_) | (refine K.call ?_;refine JO.ld (Ld.dP (CM) (qb rfl) rfl (.cons .refl (.cons .refl (.cons .refl (.cons .refl (.cons .refl .nil)))))) rfl (fun _=>?_)) | refine gn ?_)
     exact cM.aF ⟨rfl,rfl,rfl,rfl,trivial⟩
    ·have t3:decide (((Z.length + k:Nat):Int) < (N:Int))=false:=decide_eq_false (by omega);rw [Ss.g9 (l:=R) (by omega),ND]
     repeat (first | (refine K.binOp ?_;first | refine jq rfl rfl rfl ((Qt.aD rfl rfl rfl w4)) ?_ | refine jq rfl rfl rfl ((Qt.aD rfl rfl rfl w3)) ?_) | refine gn ?_)
     exact cM.aF ⟨rfl,rfl,rfl,rfl,trivial⟩
  ·have t1:decide ((k:Int) < (N:Int))=false:=decide_eq_false (by omega);rw [Ss.g9 (by omega)]
   repeat (refine gn ?_)
   (exact J.fo func95 rfl .nil () (by exact .refl) rfl)
theorem FA (CF:dV prog fv C enc key) (hz:∀ x,(enc x).length=9) (v:Value) (l0:List α) (hs:l0.length≤100000) :
  aA prog 80 [.c (.v v),.c (.v fv)] (.row v 115 9 (l0.map enc) :: C) (fun _:Unit=>(.aU [],.row v 115 9 ((Ss.bg key l0).map enc) :: C)):=by
 have CS:=Fz CF hz v l0 (l0.map enc).length (by simp) (by simp;omega);refine aA.intro func80 rfl rfl rfl (fun ok e=>?_)
 repeat (first | (refine K.call ?_;refine JO.ld (Ld.dP (CS) (qb rfl) rfl (by (exact bR.cons .refl (.cons .refl (.cons .refl .nil))))) rfl ?_;intro _) | refine gn ?_)
 (exact J.fo func80 rfl .nil () (by exact .refl) rfl)
end
end Fl
open Go.RowKit
namespace Fl
open Sx Go.Proofs.Tryz
set_option maxRecDepth 100000
theorem sF {ok:Nat→Prop} {w:World}:∀ {zs ys:List Value},RC ok w (vs zs) ys→ys=zs
 | [],ys,h=>by unfold vs at h;simpa [RC] using h
 | z :: zs,ys,h=>by
  change RC ok w (A.v z :: vs zs) ys at h
  unfold RC at h;obtain ⟨x,xs,rfl,h1,h2⟩:=h;unfold RA at h1;rw [h1.1,sF h2]
theorem dV.box {P:Program} {F:FuncId} {b:Nat} {T:TypeId} {zs:List Value} {α:Type} {enc:α→List A} {key:α→Int} [aS P F] (hC:∀ x y,aA P F [.agg (enc x),.agg (enc y),.c (.v (.pointer (some ⟨b,0,none⟩)))] [.box b T (vs zs)] (fun _:Unit=>(.c (.v (.int .i64 (cq (key x) (key y)))),[.box b T (vs zs)]))) :
  dV P (.func (.func F) #[] #[.pointer (some ⟨b,0,none⟩)]) [.box b T (vs zs)] enc key:=by
 constructor;intro c f L X ps af gd t tys x y z p q hL ht hx hy hz;obtain ⟨E,rfl⟩:=hL;refine ⟨fun a w s K Q hK=>?_⟩;have h1:=(Ld.xk (P:=P) (c:=c) (T:=X) (ps:=ps) (af:=af) (gd:=gd) (L:=E ++ [.box b T (vs zs)]) (f:=f) (tys:=tys) (args:=[y,z,.const (.pointer (some ⟨b,0,none⟩))]) E (fun _=>E ++ [.box b T (vs zs)]) (hC p q) List.perm_append_comm (fun _=>List.perm_append_comm) ht (by simp only [fS,hy,hz];rfl) (.cons .refl (.cons .refl (.cons .refl .nil)))).go a w s K Q (fun u v w' kp sx hf=>hK u v w' ?_ sx hf)
 ·have e:=s.val hx;unfold Oper.wp at h1 ⊢;rw [show execOp a.eval ⟨some t,.call ⟨.value x,#[y,z],tys⟩,X,ps,af,gd⟩=execOp a.eval ⟨some t,.call ⟨.value (.func F),[y,z,.const (.pointer (some ⟨b,0,none⟩))].toArray,tys⟩,X,ps,af,gd⟩ by
   simp only [execOp,resolve,e,Deferred.ofValue];simp [Act.eval,invoke,Deferred.ofValue]]
  exact h1
 ·refine ⟨kp.os,kp.tape,kp.output,kp.size,fun k hk _=>?_⟩
  by_cases hb:k=b
  ·subst hb;obtain ⟨v1,h2,h3⟩:=s.res (.box k T (vs zs)) (by simp);obtain ⟨v2,h4,h5⟩:=sx.res (.box k T (vs zs)) (by simp);rw [sF h3] at h2;rw [sF h5] at h4;exact h4.trans h2.symm
  ·exact kp.block k hk (by simp [bL,ak.cA,hb])
section
variable {P:Program} {c:Cx} {f:Fm} {L:List ak} {T:TypeId} {ps:String} {af:Array Edge} {gd:Option (Nat × Bool)} {t:Nat}
theorem Qt.mkFun {x:Operand} {F:FuncId} {p:Option Addr} (h:aY f x=some (.c (.v (.pointer p)))):Qt P c [] ⟨t,.makeFunc (.func F) #[] #[x],T,ps,af,gd⟩ f L (.c (.v (.func (.func F) #[] #[.pointer p]))):=⟨fun a w s=>by
 have rx:=s.val h;refine ⟨.func (.func F) #[] #[.pointer p],by unfold RD RA;exact ⟨rfl,rfl⟩,fun w' k=>?_⟩;simp [execOp,rx,Instr.makeFunc,Sem.run_bind]⟩
end
instance:fU prog 117:=⟨by kernel_rfl⟩
instance:fU prog 113:=⟨by kernel_rfl⟩
instance:eD prog 117 1:=⟨by kernel_rfl⟩
instance:eD prog 113 1:=⟨by kernel_rfl⟩
theorem Au (x:Int):Pure prog 62 [.c (nI x)] (.c (bI false)):=by
 have t1:(x != x)=false:=by simp
 refine aA.intro func62 rfl rfl rfl (fun ok e=>?_)
 repeat (refine gn ?_)
 exact az func62
theorem xL (x y:Int):Pure prog 24 [.c (nI x),.c (nI y)] (.c (nI (cq x y))):=by
 have CX:=Au x;have CY:=Au y;unfold cq;refine aA.intro func24 rfl rfl rfl (fun ok e=>?_)
 by_cases h:x < y
 ·have t1:decide (x < y)=true:=decide_eq_true h;rw [if_pos h]
  repeat (first | refine aM t1 ?_ | refine aO (CX) ?_ | refine aO (CY) ?_ | refine gn ?_)
  exact az func24
 ·have t1:decide (x < y)=false:=decide_eq_false h;rw [if_neg h]
  by_cases h2:x > y
  ·have t2:decide (x > y)=true:=decide_eq_true h2;rw [if_pos h2]
   repeat (first | refine aM t1 ?_ | refine aM t2 ?_ | refine aO (CX) ?_ | refine aO (CY) ?_ | refine gn ?_)
   exact az func24
  ·have t2:decide (x > y)=false:=decide_eq_false h2;rw [if_neg h2]
   repeat (first | refine aM t1 ?_ | refine aM t2 ?_ | refine aO (CX) ?_ | refine aO (CY) ?_ | refine gn ?_)
   exact az func24
end Fl
namespace Ta
structure Ev where
 step:Int
 g:Int
 op:Int
 FB:Bool
 res:Md.ak
structure Pt where
 step:Int
 kind:Int
 at_:Int
end Ta
namespace Fl
open Sx Go.Proofs.Tryz
def jf (e:Ta.Ev):List A:=[nI e.step,nI e.g,nI e.op,bI e.FB,nI e.res.code,nI e.res.cs,nI e.res.v,bI e.res.ok,nI e.res.n]
def ko (e:Ta.Pt):List A:=[nI e.step,nI e.kind,nI e.at_]
theorem Av (e:Ta.Ev):Pure prog 55 [.agg (jf e)] (.c (nI e.step)):=by
 refine aA.intro func55 rfl rfl rfl (fun ok e=>?_)
 repeat (first | refine au ?_ | intro _)
 (exact J.r9 [_] rfl func55 rfl (.cons (.tmp rfl) .nil) () (by exact .refl) rfl)
theorem Aw (e:Ta.Pt):Pure prog 53 [.agg (ko e)] (.c (nI e.step)):=by
 refine aA.intro func53 rfl rfl rfl (fun ok e=>?_)
 repeat (first | refine au ?_ | intro _)
 (exact J.r9 [_] rfl func53 rfl (.cons (.tmp rfl) .nil) () (by exact .refl) rfl)
theorem FC (b:Nat) (x y:Ta.Ev):aA prog 81 [.agg (jf x),.agg (jf y),.c (.v (.pointer (some ⟨b,0,none⟩)))] [.box b 117 (vs [.func (.func 55) #[] #[]])] (fun _:Unit=>(.c (nI (cq x.step y.step)),[.box b 117 (vs [.func (.func 55) #[] #[]])])):=by
 have CX:=Av x;have CY:=Av y;have CC:=xL x.step y.step;refine aA.intro func81 rfl rfl rfl (fun ok e=>?_)
 repeat (first | refine au ?_ | intro _)
 refine J.draw (by kernel_rfl) rfl ?_;refine JW.base none ?_;refine tk 0 ?_;refine tk 1 ?_;refine tk 3 ?_;refine tk 4 ?_;refine jl 2 rfl rfl rfl rfl (Ld.rX rfl CX (qb rfl) rfl (.cons .refl .nil)) .none (fun _=>?_);refine jl 5 rfl rfl rfl rfl (Ld.rX rfl CY (qb rfl) rfl (.cons .refl .nil)) .none (fun _=>?_);refine cz 6 (CC) ?_;refine jk 7 rfl rfl rfl rfl (Qt.assign rfl) ?_;refine aX ?_
 repeat (fail)
 (exact J.r9 [_,_] rfl func81 rfl (.cons (.tmp rfl) .nil) () (by exact .refl) rfl)
theorem FD (b:Nat) (x y:Ta.Pt):aA prog 79 [.agg (ko x),.agg (ko y),.c (.v (.pointer (some ⟨b,0,none⟩)))] [.box b 113 (vs [.func (.func 53) #[] #[]])] (fun _:Unit=>(.c (nI (cq x.step y.step)),[.box b 113 (vs [.func (.func 53) #[] #[]])])):=by
 have CX:=Aw x;have CY:=Aw y;have CC:=xL x.step y.step;refine aA.intro func79 rfl rfl rfl (fun ok e=>?_)
 repeat (first | refine au ?_ | intro _)
 refine J.draw (by kernel_rfl) rfl ?_;refine JW.base none ?_;refine tk 0 ?_;refine tk 1 ?_;refine tk 3 ?_;refine tk 4 ?_;refine jl 2 rfl rfl rfl rfl (Ld.rX rfl CX (qb rfl) rfl (.cons .refl .nil)) .none (fun _=>?_);refine jl 5 rfl rfl rfl rfl (Ld.rX rfl CY (qb rfl) rfl (.cons .refl .nil)) .none (fun _=>?_);refine cz 6 (CC) ?_;refine jk 7 rfl rfl rfl rfl (Qt.assign rfl) ?_;refine aX ?_
 repeat (fail)
 (exact J.r9 [_,_] rfl func79 rfl (.cons (.tmp rfl) .nil) () (by exact .refl) rfl)
end Fl
namespace Ta
def tm (s:Sx.ai) (g:Nat):Sx.Mk:=if ((Sx.aa s g).place == 2)=true∨((Sx.aa s g).place == 3)=true then { Sx.mark s g 0 with bS:=0 } else Sx.mark s g 0
def now (s:Sx.ai) (g:Nat):List Sx.Mk:=if ((Sx.aa s g).call == 0)=true then [] else [tm s g]
def gD (s:Sx.ai):Nat→List Sx.Mk
 | 0=>s.done
 | k + 1=>gD s k ++ now s k
def told (s:Sx.ai):List Sx.Mk:=gD s s.gs.length
def marks (s:Sx.ai):List Sx.Mk:=Ss.bg (fun m:Sx.Mk=>m.call) (told s)
theorem FE (s:Sx.ai) (g:Nat):(now s g).length≤1:=by unfold now;split <;> simp
theorem qu (s:Sx.ai):∀ k,(gD s k).length≤s.done.length + k
 | 0=>Nat.le_refl _
 | k + 1=>by
  have:=qu s k;have:=FE s k;rw [gD,List.length_append];omega
end Ta
namespace Ss
theorem scan {α:Type} {key:α→Int} {l:List α} (h:cu key l) (x:α):∃ A B,l=A ++ B∧ins key l x=A ++ x :: B∧(∀ (i:Nat) (y:α),l[i]?=some y→(decide (key y≤key x)=true↔i < A.length)):=by
 obtain ⟨A,B,rfl,h1,h2⟩:=h.part (key x);refine ⟨A,B,rfl,uO h1 h2,fun i y hy=>?_⟩;rw [decide_eq_true_iff]
 by_cases hi:i < A.length
 ·rw [List.getElem?_append_left hi] at hy;exact ⟨fun _=>hi,fun _=>h1 y (List.mem_of_getElem? hy)⟩
 ·rw [List.getElem?_append_right (by omega)] at hy;have:=h2 y (List.mem_of_getElem? hy);exact ⟨fun h=>by omega,fun h=>absurd h hi⟩
end Ss
open Go.RowKit
namespace Fl
open Sx Go.Proofs.Tryz
set_option maxRecDepth 100000
set_option maxHeartbeats 4000000
section
variable {α:Type} {enc:α→List A} {key:α→Int} {fv:Value} {C:List ak}
theorem FF (CF:dV prog fv C enc key) (hz:∀ x,(enc x).length=13) (v:Value) (X A0 Y:List α) (hs:X.length + A0.length + Y.length≤1000000) :
  aA prog 88 [.c (.v v),.c (nI X.length),.c (nI (X.length + A0.length:Nat)),.c (.v fv)] (.row v 46 13 ((X ++ A0 ++ Y).map enc) :: C) (fun _:Unit=>(.aU [],.row v 46 13 ((X ++ Ss.bg key A0 ++ Y).map enc) :: C)):=by
 refine aA.intro func88 rfl rfl rfl (fun ok e=>?_);have w0:IntKind.i64.wrap ((X.length:Int) + 1)=((X.length + 1:Nat):Int):=by rw [aV (by omega) (by omega)];omega
 repeat (first | (refine K.binOp ?_;refine jq rfl rfl rfl ((Qt.aD rfl rfl rfl w0)) ?_) | refine gn ?_)
 have e0:A0=Ss.bg key (A0.take 1) ++ A0.drop 1:=by cases A0 <;> rfl
 refine J.bq (L':=.row v 46 13 ((X ++ (Ss.bg key (A0.take 1) ++ A0.drop 1) ++ Y).map enc) :: C) (by rw [← e0]) ?_;refine J.loop (ι:={ k:Nat // 1≤k∧k≤A0.length + 1 }) (fun q=>[(8,.c (nI (X.length + q.1:Nat))),(0,.c (.v v)),(1,.c (nI X.length)),(2,.c (nI (X.length + A0.length:Nat))),(3,.c (.v fv))]) (fun q=>.row v 46 13 ((X ++ (Ss.bg key (A0.take q.1) ++ A0.drop q.1) ++ Y).map enc) :: C) (fun q=>A0.length - q.1) ⟨1,Nat.le_refl _,by omega⟩ (fun X h=>h.aF ⟨rfl,rfl,rfl,rfl,rfl,trivial⟩) (fun q ih=>?_);obtain ⟨k,k1,k2⟩:=q;simp only at k1 k2 ih ⊢
 by_cases hk:k < A0.length
 ·have t1:decide (((X.length + k:Nat):Int) < ((X.length + A0.length:Nat):Int))=true:=decide_eq_true (by omega);obtain ⟨x,hx⟩:∃ x,A0[k]?=some x:=⟨_,List.getElem?_eq_getElem hk⟩
  have hd:A0.drop k=x :: A0.drop (k + 1):=by rw [List.drop_eq_getElem_cons hk];rw [List.getElem?_eq_getElem hk] at hx;cases hx;rfl
  have ht:A0.take (k + 1)=A0.take k ++ [x]:=by rw [List.take_add_one,hx];rfl
  have cM:=ih ⟨k + 1,by omega,by omega⟩ (by simp only;omega);clear ih;simp only at cM;rw [ht,Ss.nJ] at cM;have lS:(Ss.bg key (A0.take k)).length=k:=by rw [Ss.fL,List.length_take];omega
  rw [hd];have lD:(A0.drop (k + 1)).length=A0.length - (k + 1):=List.length_drop;generalize A0.drop (k + 1)=D at cM lD ⊢;generalize Ss.bg key (A0.take k)=S at cM lS ⊢
  repeat (refine gn ?_)
  refine J.bq (L':=.row v 46 13 ((X ++ (S ++ x :: [] ++ D) ++ Y).map enc) :: C) (by simp) ?_;refine J.loop (ι:={ q:List α × List α // S=q.1 ++ q.2∧∀ y∈q.2,key x < key y }) (fun q=>[(9,.c (nI (X.length + q.1.1.length:Nat))),(8,.c (nI (X.length + k:Nat))),(0,.c (.v v)),(1,.c (nI X.length)),(2,.c (nI (X.length + A0.length:Nat))),(3,.c (.v fv))]) (fun q=>.row v 46 13 ((X ++ (q.1.1 ++ x :: q.1.2 ++ D) ++ Y).map enc) :: C) (fun q=>q.1.1.length) ⟨(S,[]),by simp,by simp⟩ (fun X h=>h.aF ⟨by rw [lS];rfl,rfl,rfl,rfl,rfl,rfl,trivial⟩) (fun q iO=>?_);obtain ⟨⟨S1,S2⟩,qS,qx⟩:=q;simp only at qS qx iO ⊢;have w1:IntKind.i64.wrap (((X.length + k:Nat):Int) + 1)=((X.length + (k + 1):Nat):Int):=by rw [aV (by omega) (by omega)];omega
  have out:(S1=[]∨∃ A' a,S1=A' ++ [a]∧key a≤key x)→Ss.ins key S x=S1 ++ x :: S2:=fun h=>by rw [qS];exact Ss.sv x S1 S2 qx h
  rcases List.eq_nil_or_concat S1 with h | ⟨aJ,z,h⟩
  ·have t2:decide (((X.length + S1.length:Nat):Int) > (X.length:Int))=false:=decide_eq_false (by rw [h];simp);have ho:=out (.inl h)
   repeat ((refine J.seq ?_))
   refine J.draw (by kernel_rfl) rfl ?_;refine JW.base none ?_;refine tk 0 ?_;refine tk 1 ?_;refine JD.take 2 rfl rfl (by kernel_rfl) rfl (qb rfl) (Qt.cmp rfl rfl (congrArg some t2)) rfl ?_;refine tk 3 ?_
   (refine JD.skip 4 rfl rfl (by kernel_rfl) rfl (qb rfl) ?_)
   (refine JD.skip 5 rfl rfl (by kernel_rfl) rfl (qb rfl) ?_)
   (refine JD.skip 6 rfl rfl (by kernel_rfl) rfl (qb rfl) ?_)
   refine JD.skip 7 rfl rfl (by kernel_rfl) rfl (qb rfl) ?_
   (refine JD.skip 8 rfl rfl (by kernel_rfl) rfl (qb rfl) ?_)
   (refine JD.skip 9 rfl rfl (by kernel_rfl) rfl (qb rfl) ?_)
   (refine JD.skip 10 rfl rfl (by kernel_rfl) rfl (qb rfl) ?_)
   (refine JD.skip 11 rfl rfl (by kernel_rfl) rfl (qb rfl) ?_)
   refine JD.skip 12 rfl rfl (by kernel_rfl) rfl (qb rfl) ?_
   (refine JD.skip 13 rfl rfl (by kernel_rfl) rfl (qb rfl) ?_)
   (refine JD.skip 14 rfl rfl (by kernel_rfl) rfl (qb rfl) ?_)
   (refine JD.skip 15 rfl rfl (by kernel_rfl) rfl (qb rfl) ?_)
   refine tk 16 ?_;refine aX ?_
   repeat (first | (refine K.binOp ?_;refine jq rfl rfl rfl ((Qt.aD rfl rfl rfl w1)) ?_) | refine gn ?_)
   refine J.bq ?_ (cM.aF ⟨rfl,rfl,rfl,rfl,rfl,trivial⟩);rw [ho]
  ·rw [List.concat_eq_append] at h;subst h;have l1:(aJ ++ [z]).length=aJ.length + 1:=by simp
   have lq:k=aJ.length + 1 + S2.length:=by rw [← lS,qS];simp;omega
   rw [l1];have t2:decide (((X.length + (aJ.length + 1):Nat):Int) > (X.length:Int))=true:=decide_eq_true (by omega);have w2:IntKind.i64.wrap (((X.length + (aJ.length + 1):Nat):Int) - 1)=((X.length + aJ.length:Nat):Int):=by rw [aV (by omega) (by omega)];omega
   have er:X ++ (aJ ++ [z] ++ x :: S2 ++ D) ++ Y=(X ++ aJ) ++ z :: x :: (S2 ++ D ++ Y):=by simp
   rw [er];have a1:((X ++ aJ) ++ z :: x :: (S2 ++ D ++ Y))[X.length + aJ.length]?=some z:=by rw [show X.length + aJ.length=(X ++ aJ).length by simp];exact Ss.at_app _ _ _
   have a2:((X ++ aJ) ++ z :: x :: (S2 ++ D ++ Y))[X.length + (aJ.length + 1)]?=some x:=by rw [show X.length + (aJ.length + 1)=((X ++ aJ) ++ [z]).length by simp only [List.length_append,List.length_singleton];omega,show (X ++ aJ) ++ z :: x :: (S2 ++ D ++ Y)=((X ++ aJ) ++ [z]) ++ x :: (S2 ++ D ++ Y) by simp];exact Ss.at_app _ _ _
   have b1:=cS (enc:=enc) a1;have b2:=cS (enc:=enc) a2;have c1:=dh (enc:=enc) a1;have c2:=dh (enc:=enc) a2;have z1:(0:Int)≤((X.length + aJ.length:Nat):Int):=Int.natCast_nonneg _;have z2:(0:Int)≤((X.length + (aJ.length + 1):Nat):Int):=Int.natCast_nonneg _;have sw:=ki (enc:=enc) a2 a1;rw [Ss.qh,Ss.mG (X ++ aJ) z x (S2 ++ D ++ Y) _ _ (by simp) (by simp;omega)] at sw;generalize hR:(X ++ aJ) ++ z :: x :: (S2 ++ D ++ Y)=R at er b1 b2 c1 c2 sw ⊢
   cases t3:decide (key x < key z) with
   | false =>
    have ho:=out (.inr ⟨aJ,z,rfl,by have:=of_decide_eq_false t3;omega⟩)
    repeat ((refine J.seq ?_))
    refine J.draw (by kernel_rfl) rfl ?_;refine JW.base none ?_;refine tk 0 ?_;refine tk 1 ?_;refine JD.take 2 rfl rfl (by kernel_rfl) rfl (qb rfl) (Qt.cmp rfl rfl (congrArg some t2)) rfl ?_;refine tk 3 ?_;refine tk 4 ?_;refine tk 5 ?_;refine tk 6 ?_
    (refine JD.take 7 rfl rfl (by kernel_rfl) rfl (qb rfl) (Qt.aN rfl rfl z2 c2) rfl ?_)
    (refine JD.take 8 rfl rfl (by kernel_rfl) rfl (qb rfl) (Qt.bk rfl b2 (hz _)) rfl ?_)
    refine tk 9 ?_;refine tk 10 ?_
    (refine JD.take 11 rfl rfl (by kernel_rfl) rfl (qb rfl) (Qt.aD rfl rfl rfl w2) rfl ?_)
    (refine JD.take 12 rfl rfl (by kernel_rfl) rfl (qb rfl) (Qt.aN rfl rfl z1 c1) rfl ?_)
    (refine JD.take 13 rfl rfl (by kernel_rfl) rfl (qb rfl) (Qt.bk rfl b1 (hz _)) rfl ?_)
    refine jl 14 rfl rfl rfl rfl (Ld.fu CF x z ⟨[_],rfl⟩ (qb rfl) rfl rfl rfl) .none (fun _=>?_)
    (refine JD.take 15 rfl rfl (by kernel_rfl) rfl (qb rfl) (Qt.cmp rfl rfl (congrArg some (fq t3))) rfl ?_)
    refine jk 16 rfl rfl rfl rfl (Qt.pick rfl rfl) ?_;refine aX ?_
    repeat (first | (refine K.binOp ?_;refine jq rfl rfl rfl ((Qt.aD rfl rfl rfl w1)) ?_) | refine gn ?_)
    refine J.bq ?_ (cM.aF ⟨rfl,rfl,rfl,rfl,rfl,trivial⟩);rw [ho,er]
   | true =>
    have sz:=hz;have b3:(R.map enc).set ((X.length + (aJ.length + 1):Nat):Int).toNat (enc z)=((R.map enc).set ((X.length + (aJ.length + 1):Nat):Int).toNat (enc z)):=rfl;have dH:((X.length + (aJ.length + 1):Nat):Int).toNat < (R.map enc).length:=by omega
    have dG:((X.length + aJ.length:Nat):Int).toNat < ((R.map enc).set ((X.length + (aJ.length + 1):Nat):Int).toNat (enc z)).length:=by rw [List.length_set];omega
    repeat ((refine J.seq ?_))
    refine J.draw (by kernel_rfl) rfl ?_;refine JW.base none ?_;refine tk 0 ?_;refine tk 1 ?_;refine JD.take 2 rfl rfl (by kernel_rfl) rfl (qb rfl) (Qt.cmp rfl rfl (congrArg some t2)) rfl ?_;refine tk 3 ?_;refine tk 4 ?_;refine tk 5 ?_;refine tk 6 ?_
    (refine JD.take 7 rfl rfl (by kernel_rfl) rfl (qb rfl) (Qt.aN rfl rfl z2 c2) rfl ?_)
    (refine JD.take 8 rfl rfl (by kernel_rfl) rfl (qb rfl) (Qt.bk rfl b2 (hz _)) rfl ?_)
    refine tk 9 ?_;refine tk 10 ?_
    (refine JD.take 11 rfl rfl (by kernel_rfl) rfl (qb rfl) (Qt.aD rfl rfl rfl w2) rfl ?_)
    (refine JD.take 12 rfl rfl (by kernel_rfl) rfl (qb rfl) (Qt.aN rfl rfl z1 c1) rfl ?_)
    (refine JD.take 13 rfl rfl (by kernel_rfl) rfl (qb rfl) (Qt.bk rfl b1 (hz _)) rfl ?_)
    refine jl 14 rfl rfl rfl rfl (Ld.fu CF x z ⟨[_],rfl⟩ (qb rfl) rfl rfl rfl) .none (fun _=>?_)
    (refine JD.take 15 rfl rfl (by kernel_rfl) rfl (qb rfl) (Qt.cmp rfl rfl (congrArg some (fq t3))) rfl ?_)
    refine jk 16 rfl rfl rfl rfl (Qt.pick rfl rfl) ?_;refine aX ?_
    repeat (refine gn ?_)
    refine J.draw (by kernel_rfl) rfl ?_;refine JW.iu none (.tmp 0) rfl ?_;refine tk 0 ?_;refine tk 1 ?_;refine tk 2 ?_;refine tk 3 ?_;refine JD.take 4 rfl rfl (by kernel_rfl) rfl (qb rfl) (Qt.aD rfl rfl rfl w2) rfl ?_;refine tk 5 ?_;refine tk 6 ?_;refine JD.take 7 rfl rfl (by kernel_rfl) rfl (qb rfl) (Qt.aD rfl rfl rfl w2) rfl ?_;refine JD.take 8 rfl rfl (by kernel_rfl) rfl (qb rfl) (Qt.aN rfl rfl z1 c1) rfl ?_;refine tk 10 ?_;refine tk 11 ?_;refine JD.take 12 rfl rfl (by kernel_rfl) rfl (qb rfl) (Qt.aN rfl rfl z2 c2) rfl ?_;refine JD.cF (i:=9) (j:=13) (by kernel_rfl) ?_ ?_;refine JS.q rfl rfl rfl (qb rfl) (Qt.bk rfl b1 (hz _)) ?_;refine jk 13 rfl rfl rfl rfl (Qt.bk rfl b2 (hz _)) ?_;refine JD.take 14 rfl rfl (by kernel_rfl) rfl (qb rfl) (Qt.aN rfl rfl z2 c2) rfl ?_;refine JD.cE (i:=15) (by kernel_rfl) ?_;refine JS.st rfl rfl rfl (Ld.bM rfl rfl rfl (hz _) dH) (.cK rfl) (fun _=>?_);refine JD.take 16 rfl rfl (by kernel_rfl) rfl (qb rfl) (Qt.aN rfl rfl z1 c1) rfl ?_;refine JD.cE (i:=17) (by kernel_rfl) ?_;refine JS.st rfl rfl rfl (Ld.bM rfl rfl rfl (hz _) dG) (.cK rfl) (fun _=>?_);refine aX ?_
    rotate_left
    refine JS.q rfl rfl rfl (qb rfl) (Qt.bk rfl b2 (hz _)) ?_;refine jk 9 rfl rfl rfl rfl (Qt.bk rfl b1 (hz _)) ?_;refine JD.take 14 rfl rfl (by kernel_rfl) rfl (qb rfl) (Qt.aN rfl rfl z2 c2) rfl ?_;refine JD.cE (i:=15) (by kernel_rfl) ?_;refine JS.st rfl rfl rfl (Ld.bM rfl rfl rfl (hz _) dH) (.cK rfl) (fun _=>?_);refine JD.take 16 rfl rfl (by kernel_rfl) rfl (qb rfl) (Qt.aN rfl rfl z1 c1) rfl ?_;refine JD.cE (i:=17) (by kernel_rfl) ?_;refine JS.st rfl rfl rfl (Ld.bM rfl rfl rfl (hz _) dG) (.cK rfl) (fun _=>?_);refine aX ?_
    rotate_left
    all_goals
     repeat (first | (refine K.binOp ?_;refine jq rfl rfl rfl ((Qt.aD rfl rfl rfl w2)) ?_) | refine gn ?_)
     refine J.bq ?_ ((iO ⟨(aJ,z :: S2),by simp [qS],by simp only [List.mem_cons];rintro y (rfl | hy);exact of_decide_eq_true t3;exact qx y hy⟩ (by simp only;omega)).aF ⟨rfl,rfl,rfl,rfl,rfl,rfl,trivial⟩);simp only;refine congrArg (fun r=>ak.row v 46 13 r :: C) (Eq.trans ?_ sw.symm);simp
 ·have t1:decide (((X.length + k:Nat):Int) < ((X.length + A0.length:Nat):Int))=false:=decide_eq_false (by omega);rw [List.take_of_length_le (by omega),List.drop_of_length_le (by omega),List.append_nil]
  repeat (refine gn ?_)
  (exact J.fo func88 rfl .nil () (by exact .refl) rfl)
theorem Ax (CF:dV prog fv C enc key) (hz:∀ x,(enc x).length=13) (v:Value) (l X A0 Y:List α) (a b:Nat) (hl:l=X ++ A0 ++ Y) (ha:a=X.length) (hb:b=a + A0.length) (hs:X.length + A0.length + Y.length≤1000000) :
  aA prog 88 [.c (.v v),.c (nI a),.c (nI b),.c (.v fv)] (.row v 46 13 (l.map enc) :: C) (fun _:Unit=>(.aU [],.row v 46 13 ((X ++ Ss.bg key A0 ++ Y).map enc) :: C)):=by
 subst hl ha hb;exact FF CF hz v X A0 Y hs
theorem xM (hz:∀ x,(enc x).length=13) (v:Value) (l:List α) (a b n:Nat) (ha:a + n≤l.length) (hb:b + n≤l.length) (hs:l.length≤1000000) :
  aA prog 160 [.c (.v v),.c (nI a),.c (nI b),.c (nI n),.c (.v fv)] [.row v 46 13 (l.map enc)] (fun _:Unit=>(.aU [],[.row v 46 13 ((Ss.eE l a b n).map enc)])):=by
 refine aA.intro func160 rfl rfl rfl (fun ok e=>?_)
 repeat (refine gn ?_)
 refine J.loop (ι:={ i:Nat // i≤n }) (fun q=>[(10,.c (nI q.1)),(0,.c (.v v)),(1,.c (nI a)),(2,.c (nI b)),(3,.c (nI n)),(4,.c (.v fv))]) (fun q=>[.row v 46 13 ((Ss.eE l a b q.1).map enc)]) (fun q=>n - q.1) ⟨0,Nat.zero_le _⟩ (fun X h=>h.aF ⟨rfl,rfl,rfl,rfl,rfl,rfl,trivial⟩) (fun q ih=>?_);obtain ⟨i,hi⟩:=q;simp only at hi ih ⊢
 by_cases hk:i < n
 ·have t1:decide ((i:Int) < (n:Int))=true:=decide_eq_true (by omega);have lR:=Ss.lO l a b i;have cM:=ih ⟨i + 1,by omega⟩ (by simp only;omega);clear ih;simp only [Ss.eE] at cM;generalize Ss.eE l a b i=R at lR cM ⊢;obtain ⟨x,a1⟩:∃ x,R[a + i]?=some x:=⟨_,List.getElem?_eq_getElem (by omega)⟩
  obtain ⟨y,a2⟩:∃ y,R[b + i]?=some y:=⟨_,List.getElem?_eq_getElem (by omega)⟩
  have w1:IntKind.i64.wrap ((a:Int) + (i:Int))=((a + i:Nat):Int):=dQ (by omega);have w2:IntKind.i64.wrap ((b:Int) + (i:Int))=((b + i:Nat):Int):=dQ (by omega);have w3:IntKind.i64.wrap ((i:Int) + 1)=((i + 1:Nat):Int):=by rw [aV (by omega) (by omega)];omega
  have b1:=cS (enc:=enc) a1;have b2:=cS (enc:=enc) a2;have c1:=dh (enc:=enc) a1;have c2:=dh (enc:=enc) a2;have z1:(0:Int)≤((a + i:Nat):Int):=Int.natCast_nonneg _;have z2:(0:Int)≤((b + i:Nat):Int):=Int.natCast_nonneg _;have sw:=ki (enc:=enc) a1 a2;have dH:((a + i:Nat):Int).toNat < (R.map enc).length:=by omega
  have dG:((b + i:Nat):Int).toNat < ((R.map enc).set ((a + i:Nat):Int).toNat (enc y)).length:=by rw [List.length_set];omega
  repeat (refine gn ?_)
  refine J.draw (by kernel_rfl) rfl ?_;refine JW.iu none (.tmp 0) rfl ?_;refine tk 0 ?_;refine tk 1 ?_;refine tk 2 ?_;refine JD.take 3 rfl rfl (by kernel_rfl) rfl (qb rfl) (Qt.aD rfl rfl rfl w1) rfl ?_;refine tk 4 ?_;refine tk 5 ?_;refine tk 6 ?_;refine JD.take 7 rfl rfl (by kernel_rfl) rfl (qb rfl) (Qt.aD rfl rfl rfl w2) rfl ?_;refine tk 8 ?_;refine tk 9 ?_;refine tk 10 ?_;refine JD.take 11 rfl rfl (by kernel_rfl) rfl (qb rfl) (Qt.aD rfl rfl rfl w2) rfl ?_;refine JD.take 12 rfl rfl (by kernel_rfl) rfl (qb rfl) (Qt.aN rfl rfl z2 c2) rfl ?_;refine tk 14 ?_;refine tk 15 ?_;refine tk 16 ?_;refine JD.take 17 rfl rfl (by kernel_rfl) rfl (qb rfl) (Qt.aD rfl rfl rfl w1) rfl ?_;refine JD.take 18 rfl rfl (by kernel_rfl) rfl (qb rfl) (Qt.aN rfl rfl z1 c1) rfl ?_;refine JD.cF (i:=13) (j:=19) (by kernel_rfl) ?_ ?_;refine JS.q rfl rfl rfl (qb rfl) (Qt.bk rfl b2 (hz _)) ?_;refine jk 19 rfl rfl rfl rfl (Qt.bk rfl b1 (hz _)) ?_;refine JD.take 20 rfl rfl (by kernel_rfl) rfl (qb rfl) (Qt.aN rfl rfl z1 c1) rfl ?_;refine JD.cE (i:=21) (by kernel_rfl) ?_;refine JS.st rfl rfl rfl (Ld.bM rfl rfl rfl (hz _) dH) (.cK rfl) (fun _=>?_);refine JD.take 22 rfl rfl (by kernel_rfl) rfl (qb rfl) (Qt.aN rfl rfl z2 c2) rfl ?_;refine JD.cE (i:=23) (by kernel_rfl) ?_;refine JS.st rfl rfl rfl (Ld.bM rfl rfl rfl (hz _) dG) (.cK rfl) (fun _=>?_);refine aX ?_
  rotate_left
  refine JS.q rfl rfl rfl (qb rfl) (Qt.bk rfl b1 (hz _)) ?_;refine jk 13 rfl rfl rfl rfl (Qt.bk rfl b2 (hz _)) ?_;refine JD.take 20 rfl rfl (by kernel_rfl) rfl (qb rfl) (Qt.aN rfl rfl z1 c1) rfl ?_;refine JD.cE (i:=21) (by kernel_rfl) ?_;refine JS.st rfl rfl rfl (Ld.bM rfl rfl rfl (hz _) dH) (.cK rfl) (fun _=>?_);refine JD.take 22 rfl rfl (by kernel_rfl) rfl (qb rfl) (Qt.aN rfl rfl z2 c2) rfl ?_;refine JD.cE (i:=23) (by kernel_rfl) ?_;refine JS.st rfl rfl rfl (Ld.bM rfl rfl rfl (hz _) dG) (.cK rfl) (fun _=>?_);refine aX ?_
  rotate_left
  all_goals
   repeat (first | (refine K.binOp ?_;refine jq rfl rfl rfl ((Qt.aD rfl rfl rfl w3)) ?_) | refine gn ?_)
   refine J.bq ?_ (cM.aF ⟨rfl,rfl,rfl,rfl,rfl,rfl,trivial⟩);exact congrArg (fun r=>[ak.row v 46 13 r]) sw.symm
 ·obtain rfl:i=n:=by omega
  have t1:decide ((i:Int) < (i:Int))=false:=decide_eq_false (by omega)
  repeat (refine gn ?_)
  (exact J.fo func160 rfl .nil () (by exact .refl) rfl)
theorem FG (hz:∀ x,(enc x).length=13) (v:Value) (l0 X U V Y:List α) (a m b:Nat) (hl:l0=X ++ U ++ V ++ Y) (ha:a=X.length) (hm:m=a + U.length) (hb:b=m + V.length) (hu:U.length≠0) (hv:V.length≠0) (hs:l0.length≤1000000) :
  aA prog 134 [.c (.v v),.c (nI a),.c (nI m),.c (nI b),.c (.v fv)] [.row v 46 13 (l0.map enc)] (fun _:Unit=>(.aU [],[.row v 46 13 ((X ++ V ++ U ++ Y).map enc)])):=by
 have e0:=Ss.sk m _ X U V Y (Nat.le_refl _) hu hv (by omega);rw [← hl] at e0;have len:m + V.length≤l0.length:=by rw [hl];simp;omega
 generalize X ++ V ++ U ++ Y=r at e0 ⊢;have w0:IntKind.i64.wrap ((m:Int) - (a:Int))=(U.length:Int):=by rw [aV (by omega) (by omega)];omega
 have w1:IntKind.i64.wrap ((b:Int) - (m:Int))=(V.length:Int):=by rw [aV (by omega) (by omega)];omega
 refine aA.intro func134 rfl rfl rfl (fun ok e=>?_)
 repeat (first | (refine K.binOp ?_;first | refine jq rfl rfl rfl ((Qt.aD rfl rfl rfl w0)) ?_ | refine jq rfl rfl rfl ((Qt.aD rfl rfl rfl w1)) ?_) | refine gn ?_)
 refine J.loop (ι:={ q:List α × Nat × Nat // q.1.length=l0.length∧0 < q.2.1∧q.2.1≤m∧0 < q.2.2∧m + q.2.2≤l0.length∧Ss.jv q.1 m q.2.1 q.2.2=r }) (fun q=>[(10,.c (nI q.1.2.1)),(11,.c (nI q.1.2.2)),(0,.c (.v v)),(2,.c (nI m)),(4,.c (.v fv))]) (fun q=>[.row v 46 13 (q.1.1.map enc)]) (fun q=>q.1.2.1 + q.1.2.2) ⟨(l0,U.length,V.length),rfl,by simp only;omega,by simp only;omega,by simp only;omega,len,e0⟩ (fun X h=>h.aF ⟨rfl,rfl,rfl,rfl,rfl,trivial⟩) (fun q ih=>?_);obtain ⟨⟨l,i,j⟩,NF,qi,qm,qj,qn,qr⟩:=q;simp only at NF qi qm qj qn qr ih ⊢;have w2:IntKind.i64.wrap ((m:Int) - (i:Int))=((m - i:Nat):Int):=by rw [aV (by omega) (by omega)];omega
 rcases Nat.lt_trichotomy i j with h | h | h
 ·have t1:((i:Int) != (j:Int))=true:=by simp;omega
  have t2:decide ((i:Int) > (j:Int))=false:=decide_eq_false (by omega);have w3:IntKind.i64.wrap ((j:Int) - (i:Int))=((j - i:Nat):Int):=by rw [aV (by omega) (by omega)];omega
  have w4:IntKind.i64.wrap ((m:Int) + (j:Int))=((m + j:Nat):Int):=dQ (by omega);have w5:IntKind.i64.wrap (((m + j:Nat):Int) - (i:Int))=((m + j - i:Nat):Int):=by rw [aV (by omega) (by omega)];omega
  have CS:=xM (fv:=fv) hz v l (m - i) (m + j - i) i (by omega) (by omega) (by omega)
  repeat (first | (refine K.binOp ?_;first | refine jq rfl rfl rfl ((Qt.aD rfl rfl rfl w2)) ?_ | refine jq rfl rfl rfl ((Qt.aD rfl rfl rfl w3)) ?_ | refine jq rfl rfl rfl ((Qt.aD rfl rfl rfl w4)) ?_ | refine jq rfl rfl rfl ((Qt.aD rfl rfl rfl w5)) ?_) | (refine K.call ?_;refine JO.ld (Ld.dP (CS) (qb rfl) rfl (.cons .refl (.cons .refl (.cons .refl (.cons .refl (.cons .refl .nil)))))) rfl (fun _=>?_)) | refine gn ?_)
  exact (ih ⟨(Ss.eE l (m - i) (m + j - i) i,i,j - i),by simp only [Ss.lO];exact NF,qi,qm,by simp only;omega,by simp only;omega,by simp only;rw [← Ss.uM l m i j h (by omega)];exact qr⟩ (by simp only;omega)).aF ⟨rfl,rfl,rfl,rfl,rfl,trivial⟩
 ·subst h;rw [Ss.uK] at qr;have t1:((i:Int) != (i:Int))=false:=by simp
  have CS:=xM (fv:=fv) hz v l (m - i) m i (by omega) (by omega) (by omega);rw [qr] at CS
  repeat (first | (refine K.binOp ?_;refine jq rfl rfl rfl ((Qt.aD rfl rfl rfl w2)) ?_) | (refine K.call ?_;refine JO.ld (Ld.dP (CS) (qb rfl) rfl (.cons .refl (.cons .refl (.cons .refl (.cons .refl (.cons .refl .nil)))))) rfl (fun _=>?_)) | refine gn ?_)
  (exact J.fo func134 rfl .nil () (by exact .refl) rfl)
 ·have t1:((i:Int) != (j:Int))=true:=by simp;omega
  have t2:decide ((i:Int) > (j:Int))=true:=decide_eq_true (by omega);have w3:IntKind.i64.wrap ((i:Int) - (j:Int))=((i - j:Nat):Int):=by rw [aV (by omega) (by omega)];omega
  have CS:=xM (fv:=fv) hz v l (m - i) m j (by omega) (by omega) (by omega)
  repeat (first | (refine K.binOp ?_;first | refine jq rfl rfl rfl ((Qt.aD rfl rfl rfl w2)) ?_ | refine jq rfl rfl rfl ((Qt.aD rfl rfl rfl w3)) ?_) | (refine K.call ?_;refine JO.ld (Ld.dP (CS) (qb rfl) rfl (.cons .refl (.cons .refl (.cons .refl (.cons .refl (.cons .refl .nil)))))) rfl (fun _=>?_)) | refine gn ?_)
  exact (ih ⟨(Ss.eE l (m - i) m j,i - j,j),by simp only [Ss.lO];exact NF,by simp only;omega,by simp only;omega,qj,qn,by simp only;rw [← Ss.uL l m i j h (by omega)];exact qr⟩ (by simp only;omega)).aF ⟨rfl,rfl,rfl,rfl,rfl,trivial⟩
end
end Fl
open Go.RowKit
namespace Fl
open Sx Go.Proofs.Tryz
set_option maxRecDepth 100000
set_option maxHeartbeats 4000000
section
variable {α:Type} {enc:α→List A} {key:α→Int} {fv:Value} {C:List ak}
theorem FH (CF:dV prog fv C enc key) (hz:∀ x,(enc x).length=13) (v:Value) (l X A0 B0 Y:List α) (a m b:Nat) (hl:l=X ++ A0 ++ B0 ++ Y) (ha:a=X.length) (hm:m=a + A0.length) (hb:b=m + B0.length) (nA:A0.length≠0) (nB:B0.length≠0) (sA:Ss.cu key A0) (sB:Ss.cu key B0) (hn:l.length≤1000000) (h1:A0.length=1) :
  aA prog 89 [.c (.v v),.c (nI a),.c (nI m),.c (nI b),.c (.v fv)] (.row v 46 13 (l.map enc) :: C) (fun _:Unit=>(.aU [],.row v 46 13 ((X ++ Ss.mg key A0 B0 ++ Y).map enc) :: C)):=by
 have len:l.length=b + Y.length:=by rw [hl];simp;omega
 have w0:IntKind.i64.wrap ((m:Int) - (a:Int))=(A0.length:Int):=by rw [aV (by omega) (by omega)];omega
 have w1:IntKind.i64.wrap ((b:Int) - (m:Int))=(B0.length:Int):=by rw [aV (by omega) (by omega)];omega
 refine aA.intro func89 rfl rfl rfl (fun ok e=>?_);have t0:((A0.length:Int) == 1)=true:=by rw [h1];rfl
 obtain ⟨x,rfl⟩:=List.length_eq_one_iff.1 h1;obtain ⟨B1,B2,rfl,hr,k1,k2⟩:=Ss.xC (key x) (X ++ [x]) B0 Y m b (by simp;omega) hb sB;rw [Ss.xE k1 k2];rw [← hl] at hr;have ax:l[a]?=some x:=by rw [hl,ha,show X ++ [x] ++ (B1 ++ B2) ++ Y=X ++ x :: (B1 ++ B2 ++ Y) by simp];exact Ss.at_app _ _ _
 generalize hp:(fun h=>decide (Ss.ky key l h < key x))=p at hr;have nk:(B1 ++ B2).length=B1.length + B2.length:=List.length_append;have bx:=cS (enc:=enc) ax;have cx:=dh (enc:=enc) ax;have zx:(0:Int)≤(a:Int):=Int.natCast_nonneg _
 repeat (first | (refine K.binOp ?_;refine jq rfl rfl rfl ((Qt.aD rfl rfl rfl w0)) ?_) | refine gn ?_)
 refine J.loop (ι:={ q:Nat × Nat // m≤q.1∧q.1≤q.2∧q.2≤b∧Ss.bs p q.1 q.2=m + B1.length }) (fun q=>[(10,.c (nI q.1.1)),(11,.c (nI q.1.2)),(0,.c (.v v)),(1,.c (nI a)),(2,.c (nI m)),(3,.c (nI b)),(4,.c (.v fv))]) (fun q=>.row v 46 13 (l.map enc) :: C) (fun q=>q.1.2 - q.1.1) ⟨(m,b),Nat.le_refl _,by simp only;omega,Nat.le_refl _,hr⟩ (fun X h=>h.aF ⟨rfl,rfl,rfl,rfl,rfl,rfl,rfl,trivial⟩) (fun q ih=>?_);obtain ⟨⟨i,j⟩,q1,q2,q3,q4⟩:=q;simp only at q1 q2 q3 q4 ih ⊢
 by_cases hk:i < j
 ·have t1:decide ((i:Int) < (j:Int))=true:=decide_eq_true (by omega);obtain ⟨y,ay⟩:∃ y,l[(i + j) / 2]?=some y:=⟨_,List.getElem?_eq_getElem (by omega)⟩
  have eF:=cS (enc:=enc) ay
  have cy:=dh (enc:=enc) ay;have zy:(0:Int)≤(((i + j) / 2:Nat):Int):=Int.natCast_nonneg _;have py:p ((i + j) / 2)=decide (key y < key x):=by rw [← hp];simp only;rw [Ss.jy ay]
  have w2:IntKind.i64.wrap ((i:Int) + (j:Int))=((i + j:Nat):Int):=dQ (by omega);have w3:IntKind.u64.wrap ((i + j:Nat):Int)=((i + j:Nat):Int):=kj (by omega);have w4:IntKind.i64.wrap (((i + j) / 2:Nat):Int)=(((i + j) / 2:Nat):Int):=aV (by omega) (by omega);have w5:IntKind.i64.wrap ((((i + j) / 2:Nat):Int) + 1)=(((i + j) / 2 + 1:Nat):Int):=by rw [aV (by omega) (by omega)];omega
  have hh:i + j≤4000000:=by omega
  repeat (first | (refine K.binOp ?_;first | refine jq rfl rfl rfl ((Qt.aD rfl rfl rfl w2)) ?_ | refine jq rfl rfl rfl (Qt.bin rfl rfl (fun w=>kn hh)) ?_) | (refine K.convert ?_;first | refine jq rfl rfl rfl (Qt.conv rfl w3) ?_ | refine jq rfl rfl rfl (Qt.conv rfl w4) ?_) | refine gn ?_)
  cases t3:decide (key y < key x) with
  | true =>
   rw [t3] at py;refine J.draw (by kernel_rfl) rfl ?_;refine JW.base none ?_;refine tk 0 ?_;refine tk 1 ?_;refine tk 2 ?_;refine JD.take 3 rfl rfl (by kernel_rfl) rfl (qb rfl) (Qt.aN rfl rfl zy cy) rfl ?_;refine JD.take 4 rfl rfl (by kernel_rfl) rfl (qb rfl) (Qt.bk rfl eF (hz _)) rfl ?_;refine tk 5 ?_;refine tk 6 ?_;refine JD.take 7 rfl rfl (by kernel_rfl) rfl (qb rfl) (Qt.aN rfl rfl zx cx) rfl ?_;refine JD.take 8 rfl rfl (by kernel_rfl) rfl (qb rfl) (Qt.bk rfl bx (hz _)) rfl ?_;refine jl 9 rfl rfl rfl rfl (Ld.fu CF y x ⟨[_],rfl⟩ (qb rfl) rfl rfl rfl) .none (fun _=>?_);refine jk 10 rfl rfl rfl rfl (Qt.cmp rfl rfl (congrArg some (fq t3))) ?_;refine aX ?_
   repeat (first | (refine K.binOp ?_;refine jq rfl rfl rfl ((Qt.aD rfl rfl rfl w5)) ?_) | refine gn ?_)
   exact (ih ⟨((i + j) / 2 + 1,j),by simp only;omega,by simp only;omega,q3,by simp only;rw [← Ss.lP hk py];exact q4⟩ (by simp only;omega)).aF ⟨rfl,rfl,rfl,rfl,rfl,rfl,rfl,trivial⟩
  | false =>
   rw [t3] at py;refine J.draw (by kernel_rfl) rfl ?_;refine JW.base none ?_;refine tk 0 ?_;refine tk 1 ?_;refine tk 2 ?_;refine JD.take 3 rfl rfl (by kernel_rfl) rfl (qb rfl) (Qt.aN rfl rfl zy cy) rfl ?_;refine JD.take 4 rfl rfl (by kernel_rfl) rfl (qb rfl) (Qt.bk rfl eF (hz _)) rfl ?_;refine tk 5 ?_;refine tk 6 ?_;refine JD.take 7 rfl rfl (by kernel_rfl) rfl (qb rfl) (Qt.aN rfl rfl zx cx) rfl ?_;refine JD.take 8 rfl rfl (by kernel_rfl) rfl (qb rfl) (Qt.bk rfl bx (hz _)) rfl ?_;refine jl 9 rfl rfl rfl rfl (Ld.fu CF y x ⟨[_],rfl⟩ (qb rfl) rfl rfl rfl) .none (fun _=>?_);refine jk 10 rfl rfl rfl rfl (Qt.cmp rfl rfl (congrArg some (fq t3))) ?_;refine aX ?_
   repeat (refine gn ?_)
   exact (ih ⟨(i,(i + j) / 2),q1,by simp only;omega,by simp only;omega,by simp only;rw [← Ss.lQ hk py];exact q4⟩ (by simp only;omega)).aF ⟨rfl,rfl,rfl,rfl,rfl,rfl,rfl,trivial⟩
 ·have t1:decide ((i:Int) < (j:Int))=false:=decide_eq_false (by omega);rw [Ss.kQ hk] at q4;clear ih q1 q2 q3 hp hr bx cx;subst q4;rw [hl];clear hl ax
  repeat (refine gn ?_)
  refine J.bq (L':=.row v 46 13 ((X ++ ([] ++ x :: B1 ++ B2) ++ Y).map enc) :: C) (by simp) ?_;refine J.loop (ι:={ q:List α × List α // B1=q.1 ++ q.2 }) (fun q=>[(13,.c (nI (a + q.1.1.length:Nat))),(10,.c (nI (m + B1.length:Nat))),(0,.c (.v v)),(1,.c (nI a)),(4,.c (.v fv))]) (fun q=>.row v 46 13 ((X ++ (q.1.1 ++ x :: q.1.2 ++ B2) ++ Y).map enc) :: C) (fun q=>q.1.2.length) ⟨([],B1),rfl⟩ (fun X h=>h.aF ⟨rfl,rfl,rfl,rfl,rfl,trivial⟩) (fun q ih=>?_);obtain ⟨⟨S1,S2⟩,qS⟩:=q;simp only at qS ih ⊢;have lB:B1.length=S1.length + S2.length:=by rw [qS];simp
  have w2:IntKind.i64.wrap (((m + B1.length:Nat):Int) - 1)=((m + B1.length - 1:Nat):Int):=by rw [aV (by omega) (by omega)];omega
  cases S2 with
  | nil =>
   have t2:decide (((a + S1.length:Nat):Int) < ((m + B1.length - 1:Nat):Int))=false:=decide_eq_false (by simp at lB h1 hm;omega);rw [List.append_nil] at qS;subst qS
   repeat (first | (refine K.binOp ?_;refine jq rfl rfl rfl ((Qt.aD rfl rfl rfl w2)) ?_) | refine gn ?_)
   refine J.bq (L':=.row v 46 13 ((X ++ (B1 ++ x :: B2) ++ Y).map enc) :: C) (by simp) ?_
   (exact J.nG func89 rfl .nil () (by exact .refl) rfl)
  | cons z S2 =>
   have t2:decide (((a + S1.length:Nat):Int) < ((m + B1.length - 1:Nat):Int))=true:=decide_eq_true (by simp only [List.length_cons,List.length_nil] at lB hm;omega);have w3:IntKind.i64.wrap (((a + S1.length:Nat):Int) + 1)=((a + (S1.length + 1):Nat):Int):=by simp only [List.length_cons,List.length_nil] at lB hm;rw [aV (by omega) (by omega)];omega
   have er:X ++ (S1 ++ x :: z :: S2 ++ B2) ++ Y=(X ++ S1) ++ x :: z :: (S2 ++ B2 ++ Y):=by simp
   rw [er];have a1:((X ++ S1) ++ x :: z :: (S2 ++ B2 ++ Y))[a + S1.length]?=some x:=by rw [show a + S1.length=(X ++ S1).length by simp;omega];exact Ss.at_app _ _ _
   have a2:((X ++ S1) ++ x :: z :: (S2 ++ B2 ++ Y))[a + (S1.length + 1)]?=some z:=by rw [show a + (S1.length + 1)=((X ++ S1) ++ [x]).length by simp only [List.length_append,List.length_singleton];omega,show (X ++ S1) ++ x :: z :: (S2 ++ B2 ++ Y)=((X ++ S1) ++ [x]) ++ z :: (S2 ++ B2 ++ Y) by simp];exact Ss.at_app _ _ _
   have b1:=cS (enc:=enc) a1;have b2:=cS (enc:=enc) a2;have c1:=dh (enc:=enc) a1;have c2:=dh (enc:=enc) a2;have z1:(0:Int)≤((a + S1.length:Nat):Int):=Int.natCast_nonneg _;have z2:(0:Int)≤((a + (S1.length + 1):Nat):Int):=Int.natCast_nonneg _;have sw:=ki (enc:=enc) a1 a2;rw [Ss.mG (X ++ S1) x z (S2 ++ B2 ++ Y) _ _ (by simp;omega) (by simp;omega)] at sw;generalize hR:(X ++ S1) ++ x :: z :: (S2 ++ B2 ++ Y)=R at er b1 b2 c1 c2 sw ⊢;have dH:((a + S1.length:Nat):Int).toNat < (R.map enc).length:=by omega
   have dG:((a + (S1.length + 1):Nat):Int).toNat < ((R.map enc).set ((a + S1.length:Nat):Int).toNat (enc z)).length:=by rw [List.length_set];omega
   repeat (first | (refine K.binOp ?_;refine jq rfl rfl rfl ((Qt.aD rfl rfl rfl w2)) ?_) | refine gn ?_)
   refine J.draw (by kernel_rfl) rfl ?_;refine JW.iu none (.tmp 0) rfl ?_;refine tk 0 ?_;refine tk 1 ?_;refine tk 2 ?_;refine tk 3 ?_;refine JD.take 4 rfl rfl (by kernel_rfl) rfl (qb rfl) (Qt.aD rfl rfl rfl w3) rfl ?_;refine tk 5 ?_;refine tk 6 ?_;refine JD.take 7 rfl rfl (by kernel_rfl) rfl (qb rfl) (Qt.aD rfl rfl rfl w3) rfl ?_;refine JD.take 8 rfl rfl (by kernel_rfl) rfl (qb rfl) (Qt.aN rfl rfl z2 c2) rfl ?_;refine tk 10 ?_;refine tk 11 ?_;refine JD.take 12 rfl rfl (by kernel_rfl) rfl (qb rfl) (Qt.aN rfl rfl z1 c1) rfl ?_;refine JD.cF (i:=9) (j:=13) (by kernel_rfl) ?_ ?_;refine JS.q rfl rfl rfl (qb rfl) (Qt.bk rfl b2 (hz _)) ?_;refine jk 13 rfl rfl rfl rfl (Qt.bk rfl b1 (hz _)) ?_;refine JD.take 14 rfl rfl (by kernel_rfl) rfl (qb rfl) (Qt.aN rfl rfl z1 c1) rfl ?_;refine JD.cE (i:=15) (by kernel_rfl) ?_;refine JS.st rfl rfl rfl (Ld.bM rfl rfl rfl (hz _) dH) (.cK rfl) (fun _=>?_);refine JD.take 16 rfl rfl (by kernel_rfl) rfl (qb rfl) (Qt.aN rfl rfl z2 c2) rfl ?_;refine JD.cE (i:=17) (by kernel_rfl) ?_;refine JS.st rfl rfl rfl (Ld.bM rfl rfl rfl (hz _) dG) (.cK rfl) (fun _=>?_);refine aX ?_
   rotate_left
   refine JS.q rfl rfl rfl (qb rfl) (Qt.bk rfl b1 (hz _)) ?_;refine jk 9 rfl rfl rfl rfl (Qt.bk rfl b2 (hz _)) ?_;refine JD.take 14 rfl rfl (by kernel_rfl) rfl (qb rfl) (Qt.aN rfl rfl z1 c1) rfl ?_;refine JD.cE (i:=15) (by kernel_rfl) ?_;refine JS.st rfl rfl rfl (Ld.bM rfl rfl rfl (hz _) dH) (.cK rfl) (fun _=>?_);refine JD.take 16 rfl rfl (by kernel_rfl) rfl (qb rfl) (Qt.aN rfl rfl z2 c2) rfl ?_;refine JD.cE (i:=17) (by kernel_rfl) ?_;refine JS.st rfl rfl rfl (Ld.bM rfl rfl rfl (hz _) dG) (.cK rfl) (fun _=>?_);refine aX ?_
   rotate_left
   all_goals
    repeat (first | (refine K.binOp ?_;refine jq rfl rfl rfl ((Qt.aD rfl rfl rfl w3)) ?_) | refine gn ?_)
    refine J.bq ?_ ((ih ⟨(S1 ++ [z],S2),by simp [qS]⟩ (by simp)).aF ⟨by simp only [List.length_append,List.length_singleton];rfl,rfl,rfl,rfl,rfl,trivial⟩);simp only;refine congrArg (fun r=>ak.row v 46 13 r :: C) (Eq.trans ?_ sw.symm);simp
theorem FI (CF:dV prog fv C enc key) (hz:∀ x,(enc x).length=13) (v:Value) (l X A0 B0 Y:List α) (a m b:Nat) (hl:l=X ++ A0 ++ B0 ++ Y) (ha:a=X.length) (hm:m=a + A0.length) (hb:b=m + B0.length) (nA:A0.length≠0) (nB:B0.length≠0) (sA:Ss.cu key A0) (sB:Ss.cu key B0) (hn:l.length≤1000000) (h1:A0.length≠1) (h2:B0.length=1) :
  aA prog 89 [.c (.v v),.c (nI a),.c (nI m),.c (nI b),.c (.v fv)] (.row v 46 13 (l.map enc) :: C) (fun _:Unit=>(.aU [],.row v 46 13 ((X ++ Ss.mg key A0 B0 ++ Y).map enc) :: C)):=by
 have len:l.length=b + Y.length:=by rw [hl];simp;omega
 have w0:IntKind.i64.wrap ((m:Int) - (a:Int))=(A0.length:Int):=by rw [aV (by omega) (by omega)];omega
 have w1:IntKind.i64.wrap ((b:Int) - (m:Int))=(B0.length:Int):=by rw [aV (by omega) (by omega)];omega
 refine aA.intro func89 rfl rfl rfl (fun ok e=>?_);have t0:((A0.length:Int) == 1)=false:=by simp;omega
 have t9:((B0.length:Int) == 1)=true:=by rw [h2];rfl
 obtain ⟨y,rfl⟩:=List.length_eq_one_iff.1 h2;obtain ⟨A1,A2,rfl,hr,k1,k2⟩:=Ss.xD (key y) X A0 ([y] ++ Y) a m ha hm sA;rw [Ss.xF k1 k2];rw [show X ++ (A1 ++ A2) ++ ([y] ++ Y)=l by rw [hl];simp] at hr;have ay:l[m]?=some y:=by rw [hl,show X ++ (A1 ++ A2) ++ [y] ++ Y=(X ++ (A1 ++ A2)) ++ y :: Y by simp,show m=(X ++ (A1 ++ A2)).length by rw [List.length_append];omega];exact Ss.at_app _ _ _
 generalize hp:(fun h=>!decide (key y < Ss.ky key l h))=p at hr;have nk:(A1 ++ A2).length=A1.length + A2.length:=List.length_append;have eF:=cS (enc:=enc) ay
 have cy:=dh (enc:=enc) ay;have zy:(0:Int)≤(m:Int):=Int.natCast_nonneg _
 repeat (first | (refine K.binOp ?_;first | refine jq rfl rfl rfl ((Qt.aD rfl rfl rfl w0)) ?_ | refine jq rfl rfl rfl ((Qt.aD rfl rfl rfl w1)) ?_) | refine gn ?_)
 refine J.loop (ι:={ q:Nat × Nat // a≤q.1∧q.1≤q.2∧q.2≤m∧Ss.bs p q.1 q.2=a + A1.length }) (fun q=>[(14,.c (nI q.1.1)),(15,.c (nI q.1.2)),(0,.c (.v v)),(2,.c (nI m)),(4,.c (.v fv))]) (fun q=>.row v 46 13 (l.map enc) :: C) (fun q=>q.1.2 - q.1.1) ⟨(a,m),Nat.le_refl _,by simp only;omega,Nat.le_refl _,hr⟩ (fun X h=>h.aF ⟨rfl,rfl,rfl,rfl,rfl,trivial⟩) (fun q ih=>?_);obtain ⟨⟨i,j⟩,q1,q2,q3,q4⟩:=q;simp only at q1 q2 q3 q4 ih ⊢
 by_cases hk:i < j
 ·have t1:decide ((i:Int) < (j:Int))=true:=decide_eq_true (by omega);obtain ⟨x,ax⟩:∃ x,l[(i + j) / 2]?=some x:=⟨_,List.getElem?_eq_getElem (by omega)⟩
  have bx:=cS (enc:=enc) ax;have cx:=dh (enc:=enc) ax;have zx:(0:Int)≤(((i + j) / 2:Nat):Int):=Int.natCast_nonneg _;have py:p ((i + j) / 2)=!decide (key y < key x):=by rw [← hp];simp only;rw [Ss.jy ax]
  have w2:IntKind.i64.wrap ((i:Int) + (j:Int))=((i + j:Nat):Int):=dQ (by omega);have w3:IntKind.u64.wrap ((i + j:Nat):Int)=((i + j:Nat):Int):=kj (by omega);have w4:IntKind.i64.wrap (((i + j) / 2:Nat):Int)=(((i + j) / 2:Nat):Int):=aV (by omega) (by omega);have w5:IntKind.i64.wrap ((((i + j) / 2:Nat):Int) + 1)=(((i + j) / 2 + 1:Nat):Int):=by rw [aV (by omega) (by omega)];omega
  have hh:i + j≤4000000:=by omega
  repeat (first | (refine K.binOp ?_;first | refine jq rfl rfl rfl ((Qt.aD rfl rfl rfl w2)) ?_ | refine jq rfl rfl rfl (Qt.bin rfl rfl (fun w=>kn hh)) ?_) | (refine K.convert ?_;first | refine jq rfl rfl rfl (Qt.conv rfl w3) ?_ | refine jq rfl rfl rfl (Qt.conv rfl w4) ?_) | refine gn ?_)
  cases t3:decide (key y < key x) with
  | true =>
   rw [t3] at py;refine J.draw (by kernel_rfl) rfl ?_;refine JW.base none ?_;refine tk 0 ?_;refine tk 1 ?_;refine tk 2 ?_;refine JD.take 3 rfl rfl (by kernel_rfl) rfl (qb rfl) (Qt.aN rfl rfl zy cy) rfl ?_;refine JD.take 4 rfl rfl (by kernel_rfl) rfl (qb rfl) (Qt.bk rfl eF (hz _)) rfl ?_;refine tk 5 ?_;refine tk 6 ?_;refine JD.take 7 rfl rfl (by kernel_rfl) rfl (qb rfl) (Qt.aN rfl rfl zx cx) rfl ?_;refine JD.take 8 rfl rfl (by kernel_rfl) rfl (qb rfl) (Qt.bk rfl bx (hz _)) rfl ?_;refine jl 9 rfl rfl rfl rfl (Ld.fu CF y x ⟨[_],rfl⟩ (qb rfl) rfl rfl rfl) .none (fun _=>?_);refine jk 10 rfl rfl rfl rfl (Qt.cmp rfl rfl (congrArg some (fq t3))) ?_;refine jk 11 rfl rfl rfl rfl (Qt.not rfl) ?_;refine aX ?_
   repeat (refine gn ?_)
   exact (ih ⟨(i,(i + j) / 2),q1,by simp only;omega,by simp only;omega,by simp only;rw [← Ss.lQ hk py];exact q4⟩ (by simp only;omega)).aF ⟨rfl,rfl,rfl,rfl,rfl,trivial⟩
  | false =>
   rw [t3] at py;refine J.draw (by kernel_rfl) rfl ?_;refine JW.base none ?_;refine tk 0 ?_;refine tk 1 ?_;refine tk 2 ?_;refine JD.take 3 rfl rfl (by kernel_rfl) rfl (qb rfl) (Qt.aN rfl rfl zy cy) rfl ?_;refine JD.take 4 rfl rfl (by kernel_rfl) rfl (qb rfl) (Qt.bk rfl eF (hz _)) rfl ?_;refine tk 5 ?_;refine tk 6 ?_;refine JD.take 7 rfl rfl (by kernel_rfl) rfl (qb rfl) (Qt.aN rfl rfl zx cx) rfl ?_;refine JD.take 8 rfl rfl (by kernel_rfl) rfl (qb rfl) (Qt.bk rfl bx (hz _)) rfl ?_;refine jl 9 rfl rfl rfl rfl (Ld.fu CF y x ⟨[_],rfl⟩ (qb rfl) rfl rfl rfl) .none (fun _=>?_);refine jk 10 rfl rfl rfl rfl (Qt.cmp rfl rfl (congrArg some (fq t3))) ?_;refine jk 11 rfl rfl rfl rfl (Qt.not rfl) ?_;refine aX ?_
   repeat (first | (refine K.binOp ?_;refine jq rfl rfl rfl ((Qt.aD rfl rfl rfl w5)) ?_) | refine gn ?_)
   exact (ih ⟨((i + j) / 2 + 1,j),by simp only;omega,by simp only;omega,q3,by simp only;rw [← Ss.lP hk py];exact q4⟩ (by simp only;omega)).aF ⟨rfl,rfl,rfl,rfl,rfl,trivial⟩
 ·have t1:decide ((i:Int) < (j:Int))=false:=decide_eq_false (by omega);rw [Ss.kQ hk] at q4;clear ih q1 q2 q3 hp hr eF cy
  subst q4;rw [hl];clear hl ay
  repeat (refine gn ?_)
  refine J.bq (L':=.row v 46 13 ((X ++ (A1 ++ A2 ++ y :: []) ++ Y).map enc) :: C) (by simp) ?_;refine J.loop (ι:={ q:List α × List α // A2=q.1 ++ q.2 }) (fun q=>[(17,.c (nI (a + A1.length + q.1.1.length:Nat))),(14,.c (nI (a + A1.length:Nat))),(0,.c (.v v)),(4,.c (.v fv))]) (fun q=>.row v 46 13 ((X ++ (A1 ++ q.1.1 ++ y :: q.1.2) ++ Y).map enc) :: C) (fun q=>q.1.1.length) ⟨(A2,[]),by simp⟩ (fun X h=>h.aF ⟨by rw [show m=a + A1.length + A2.length by omega];rfl,rfl,rfl,rfl,trivial⟩) (fun q ih=>?_);obtain ⟨⟨S1,S2⟩,qS⟩:=q;simp only at qS ih ⊢;have lB:A2.length=S1.length + S2.length:=by rw [qS];simp
  rcases List.eq_nil_or_concat S1 with h | ⟨aJ,z,h⟩
  ·subst h;have t2:decide (((a + A1.length + ([]:List α).length:Nat):Int) > ((a + A1.length:Nat):Int))=false:=decide_eq_false (by simp);rw [List.nil_append] at qS;subst qS
   repeat (refine gn ?_)
   refine J.bq (L':=.row v 46 13 ((X ++ (A1 ++ y :: A2) ++ Y).map enc) :: C) (by simp) ?_
   (exact J.nG func89 rfl .nil () (by exact .refl) rfl)
  ·rw [List.concat_eq_append] at h;subst h;have l1:(aJ ++ [z]).length=aJ.length + 1:=by simp
   rw [l1] at lB ⊢;have t2:decide (((a + A1.length + (aJ.length + 1):Nat):Int) > ((a + A1.length:Nat):Int))=true:=decide_eq_true (by omega);have w3:IntKind.i64.wrap (((a + A1.length + (aJ.length + 1):Nat):Int) - 1)=((a + A1.length + aJ.length:Nat):Int):=by rw [aV (by omega) (by omega)];omega
   have er:X ++ (A1 ++ (aJ ++ [z]) ++ y :: S2) ++ Y=(X ++ A1 ++ aJ) ++ z :: y :: (S2 ++ Y):=by simp
   rw [er];have a1:((X ++ A1 ++ aJ) ++ z :: y :: (S2 ++ Y))[a + A1.length + aJ.length]?=some z:=by rw [show a + A1.length + aJ.length=(X ++ A1 ++ aJ).length by simp;omega];exact Ss.at_app _ _ _
   have a2:((X ++ A1 ++ aJ) ++ z :: y :: (S2 ++ Y))[a + A1.length + (aJ.length + 1)]?=some y:=by rw [show a + A1.length + (aJ.length + 1)=((X ++ A1 ++ aJ) ++ [z]).length by simp only [List.length_append,List.length_singleton];omega,show (X ++ A1 ++ aJ) ++ z :: y :: (S2 ++ Y)=((X ++ A1 ++ aJ) ++ [z]) ++ y :: (S2 ++ Y) by simp];exact Ss.at_app _ _ _
   have b1:=cS (enc:=enc) a1;have b2:=cS (enc:=enc) a2;have c1:=dh (enc:=enc) a1;have c2:=dh (enc:=enc) a2;have z1:(0:Int)≤((a + A1.length + aJ.length:Nat):Int):=Int.natCast_nonneg _;have z2:(0:Int)≤((a + A1.length + (aJ.length + 1):Nat):Int):=Int.natCast_nonneg _;have sw:=ki (enc:=enc) a2 a1;rw [Ss.qh,Ss.mG (X ++ A1 ++ aJ) z y (S2 ++ Y) _ _ (by simp;omega) (by simp;omega)] at sw;generalize hR:(X ++ A1 ++ aJ) ++ z :: y :: (S2 ++ Y)=R at er b1 b2 c1 c2 sw ⊢;have dH:((a + A1.length + (aJ.length + 1):Nat):Int).toNat < (R.map enc).length:=by omega
   have dG:((a + A1.length + aJ.length:Nat):Int).toNat < ((R.map enc).set ((a + A1.length + (aJ.length + 1):Nat):Int).toNat (enc z)).length:=by rw [List.length_set];omega
   repeat (refine gn ?_)
   refine J.draw (by kernel_rfl) rfl ?_;refine JW.iu none (.tmp 0) rfl ?_;refine tk 0 ?_;refine tk 1 ?_;refine tk 2 ?_;refine tk 3 ?_;refine JD.take 4 rfl rfl (by kernel_rfl) rfl (qb rfl) (Qt.aD rfl rfl rfl w3) rfl ?_;refine tk 5 ?_;refine tk 6 ?_;refine JD.take 7 rfl rfl (by kernel_rfl) rfl (qb rfl) (Qt.aD rfl rfl rfl w3) rfl ?_;refine JD.take 8 rfl rfl (by kernel_rfl) rfl (qb rfl) (Qt.aN rfl rfl z1 c1) rfl ?_;refine tk 10 ?_;refine tk 11 ?_;refine JD.take 12 rfl rfl (by kernel_rfl) rfl (qb rfl) (Qt.aN rfl rfl z2 c2) rfl ?_;refine JD.cF (i:=9) (j:=13) (by kernel_rfl) ?_ ?_;refine JS.q rfl rfl rfl (qb rfl) (Qt.bk rfl b1 (hz _)) ?_;refine jk 13 rfl rfl rfl rfl (Qt.bk rfl b2 (hz _)) ?_;refine JD.take 14 rfl rfl (by kernel_rfl) rfl (qb rfl) (Qt.aN rfl rfl z2 c2) rfl ?_;refine JD.cE (i:=15) (by kernel_rfl) ?_;refine JS.st rfl rfl rfl (Ld.bM rfl rfl rfl (hz _) dH) (.cK rfl) (fun _=>?_);refine JD.take 16 rfl rfl (by kernel_rfl) rfl (qb rfl) (Qt.aN rfl rfl z1 c1) rfl ?_;refine JD.cE (i:=17) (by kernel_rfl) ?_;refine JS.st rfl rfl rfl (Ld.bM rfl rfl rfl (hz _) dG) (.cK rfl) (fun _=>?_);refine aX ?_
   rotate_left
   refine JS.q rfl rfl rfl (qb rfl) (Qt.bk rfl b2 (hz _)) ?_;refine jk 9 rfl rfl rfl rfl (Qt.bk rfl b1 (hz _)) ?_;refine JD.take 14 rfl rfl (by kernel_rfl) rfl (qb rfl) (Qt.aN rfl rfl z2 c2) rfl ?_;refine JD.cE (i:=15) (by kernel_rfl) ?_;refine JS.st rfl rfl rfl (Ld.bM rfl rfl rfl (hz _) dH) (.cK rfl) (fun _=>?_);refine JD.take 16 rfl rfl (by kernel_rfl) rfl (qb rfl) (Qt.aN rfl rfl z1 c1) rfl ?_;refine JD.cE (i:=17) (by kernel_rfl) ?_;refine JS.st rfl rfl rfl (Ld.bM rfl rfl rfl (hz _) dG) (.cK rfl) (fun _=>?_);refine aX ?_
   rotate_left
   all_goals
    repeat (first | (refine K.binOp ?_;refine jq rfl rfl rfl ((Qt.aD rfl rfl rfl w3)) ?_) | refine gn ?_)
    refine J.bq ?_ ((ih ⟨(aJ,z :: S2),by simp [qS]⟩ (by simp)).aF ⟨rfl,rfl,rfl,rfl,trivial⟩);simp only;refine congrArg (fun r=>ak.row v 46 13 r :: C) (Eq.trans ?_ sw.symm);simp
end
end Fl
open Go.RowKit
namespace Fl
open Sx Go.Proofs.Tryz
set_option maxRecDepth 100000
set_option maxHeartbeats 4000000
section
variable {α:Type} {enc:α→List A} {key:α→Int} {fv:Value} {C:List ak}
theorem FJ (CF:dV prog fv C enc key) (hz:∀ x,(enc x).length=13) (v:Value) (s:Nat) (IH:∀ (l X A0 B0 Y:List α) (a m b:Nat),A0.length + B0.length≤s→l=X ++ A0 ++ B0 ++ Y→a=X.length→m=a + A0.length→b=m + B0.length→A0.length≠0→B0.length≠0→Ss.cu key A0→Ss.cu key B0→l.length≤1000000 →
  aA prog 89 [.c (.v v),.c (nI a),.c (nI m),.c (nI b),.c (.v fv)] (.row v 46 13 (l.map enc) :: C) (fun _:Unit=>(.aU [],.row v 46 13 ((X ++ Ss.mg key A0 B0 ++ Y).map enc) :: C))) (l X A0 B0 Y:List α) (a m b:Nat) (hs:A0.length + B0.length≤s + 1) (hl:l=X ++ A0 ++ B0 ++ Y) (ha:a=X.length) (hm:m=a + A0.length) (hb:b=m + B0.length) (nA:A0.length≠0) (nB:B0.length≠0) (sA:Ss.cu key A0) (sB:Ss.cu key B0) (hn:l.length≤1000000) (h1:A0.length≠1) (h2:B0.length≠1) :
  aA prog 89 [.c (.v v),.c (nI a),.c (nI m),.c (nI b),.c (.v fv)] (.row v 46 13 (l.map enc) :: C) (fun _:Unit=>(.aU [],.row v 46 13 ((X ++ Ss.mg key A0 B0 ++ Y).map enc) :: C)):=by
 have len:l.length=b + Y.length:=by rw [hl];simp;omega
 have w0 (_:Unit):IntKind.i64.wrap ((m:Int) - (a:Int))=(A0.length:Int):=by rw [aV (by omega) (by omega)];omega
 have w1 (_:Unit):IntKind.i64.wrap ((b:Int) - (m:Int))=(B0.length:Int):=by rw [aV (by omega) (by omega)];omega
 refine aA.intro func89 rfl rfl rfl (fun ok e=>?_);have t0:((A0.length:Int) == 1)=false:=by simp;omega
 have t9:((B0.length:Int) == 1)=false:=by simp;omega
 obtain ⟨aG,kf⟩:∃ aG,(a + b) / 2=aG:=⟨_,rfl⟩
 obtain ⟨n,j4⟩:∃ n,aG + m=n:=⟨_,rfl⟩
 obtain ⟨s0,r0,h0⟩:∃ s0 r0,m > aG∧s0=n - b∧r0=aG∨¬ m > aG∧s0=a∧r0=m:=by
  by_cases c:m > aG
  ·exact ⟨_,_,.inl ⟨c,rfl,rfl⟩⟩
  ·exact ⟨_,_,.inr ⟨c,rfl,rfl⟩⟩
 generalize hp:(fun c=>!decide (Ss.ky key l (n - 1 - c) < Ss.ky key l c))=p;obtain ⟨A1,A2,B1,B2,eA,eB,k1,k2,k3,k4,k5⟩:=Ss.parts X A0 B0 Y a m b ha hm hb sA sB (by rintro rfl;exact nA rfl) (by rintro rfl;exact nB rfl) aG n s0 r0 kf.symm j4.symm h0 p (fun c _ _=>by rw [← hp,← hl]);have lA:A0.length=A1.length + A2.length:=by rw [eA,List.length_append]
 have lB:B0.length=B1.length + B2.length:=by rw [eB,List.length_append]
 have nK:=eA ▸ sA;have nL:=eB ▸ sB;have em:Ss.mg key A0 B0=Ss.mg key A1 B1 ++ Ss.mg key A2 B2:=by rw [eA,eB];exact Ss.lT k4 k5
 rw [em];have w2 (_:Unit):IntKind.i64.wrap ((a:Int) + (b:Int))=((a + b:Nat):Int):=dQ (by omega);have w3 (_:Unit):IntKind.u64.wrap ((a + b:Nat):Int)=((a + b:Nat):Int):=kj (by omega);have w4 (_:Unit):IntKind.i64.wrap (((a + b) / 2:Nat):Int)=(aG:Int):=by rw [kf];exact aV (by omega) (by omega)
 have w5 (_:Unit):IntKind.i64.wrap ((aG:Int) + (m:Int))=(n:Int):=by rw [dQ (by omega),j4]
 have w6 (_:Unit):IntKind.i64.wrap ((n:Int) - (b:Int))=(n:Int) - (b:Int):=aV (by omega) (by omega);have w7 (_:Unit):IntKind.i64.wrap ((n:Int) - 1)=((n - 1:Nat):Int):=by rw [aV (by omega) (by omega)];omega
 have hh:a + b≤4000000:=by omega
 obtain ⟨g,hg⟩:∃ g,decide ((m:Int) > (aG:Int))=g:=⟨_,rfl⟩
 repeat (first | (refine K.binOp ?_;first | refine jq rfl rfl rfl ((Qt.aD rfl rfl rfl (w0 ()))) ?_ | refine jq rfl rfl rfl ((Qt.aD rfl rfl rfl (w1 ()))) ?_ | refine jq rfl rfl rfl ((Qt.aD rfl rfl rfl (w2 ()))) ?_ | refine jq rfl rfl rfl (Qt.bin rfl rfl (fun w=>kn hh)) ?_ | refine jq rfl rfl rfl ((Qt.aD rfl rfl rfl (w5 ()))) ?_) | (refine K.convert ?_;first | refine jq rfl rfl rfl (Qt.conv rfl (w3 ())) ?_ | refine jq rfl rfl rfl (Qt.conv rfl (w4 ())) ?_) | refine gn ?_)
 refine J.lU (ι:=Unit) (fun _=>[(20,.c (nI s0)),(21,.c (nI r0)),(18,.c (nI aG)),(19,.c (nI n)),(0,.c (.v v)),(1,.c (nI a)),(2,.c (nI m)),(3,.c (nI b)),(4,.c (.v fv))]) (fun _=>.row v 46 13 (l.map enc) :: C) (fun _=>?_) (fun KK rest=>?_)
 rotate_left
 ·rcases h0 with ⟨c,rfl,rfl⟩ | ⟨c,rfl,rfl⟩
  ·obtain rfl:g=true:=by rw [← hg];exact decide_eq_true (by omega)
   have w8 (_:Unit):IntKind.i64.wrap ((n:Int) - (b:Int))=((n - b:Nat):Int):=by rw [w6 ()];omega
   repeat (first | (refine K.binOp ?_;refine jq rfl rfl rfl ((Qt.aD rfl rfl rfl (w8 ()))) ?_) | refine gn ?_)
   exact (rest ()).aF ⟨rfl,rfl,rfl,rfl,rfl,rfl,rfl,rfl,rfl,trivial⟩
  ·obtain rfl:g=false:=by rw [← hg];exact decide_eq_false (by omega)
   repeat (refine gn ?_)
   exact (rest ()).aF ⟨rfl,rfl,rfl,rfl,rfl,rfl,rfl,rfl,rfl,trivial⟩
 have xH:a < aG∧aG < b:=by omega
 have fc:s0≤r0∧r0≤1000000∧n≤2000000:=by omega
 have fd:∀ c,s0≤c→c < r0→c < l.length∧n - 1 - c < l.length∧c + 1≤n:=by omega
 rw [k1] at k2;have k2:n=m + B1.length + (a + A1.length):=by omega
 clear h0 kf j4 hg w6;obtain ⟨sy,Aq,Ar⟩:=fc
 repeat (first | (refine K.binOp ?_;refine jq rfl rfl rfl ((Qt.aD rfl rfl rfl (w7 ()))) ?_) | refine gn ?_)
 refine J.loop (ι:={ q:Nat × Nat // s0≤q.1∧q.1≤q.2∧q.2≤r0∧Ss.bs p q.1 q.2=a + A1.length }) (fun q=>[(20,.c (nI q.1.1)),(21,.c (nI q.1.2)),(22,.c (nI (n - 1:Nat))),(18,.c (nI aG)),(19,.c (nI n)),(0,.c (.v v)),(1,.c (nI a)),(2,.c (nI m)),(3,.c (nI b)),(4,.c (.v fv))]) (fun q=>.row v 46 13 (l.map enc) :: C) (fun q=>q.1.2 - q.1.1) ⟨(s0,r0),Nat.le_refl _,sy,Nat.le_refl _,k1⟩ (fun X h=>h.aF ⟨rfl,rfl,rfl,rfl,rfl,rfl,rfl,rfl,rfl,rfl,trivial⟩) (fun q ih=>?_);obtain ⟨⟨i,j⟩,q1,q2,q3,q4⟩:=q;simp only at q1 q2 q3 q4 ih ⊢
 by_cases hk:i < j
 ·have t1:decide ((i:Int) < (j:Int))=true:=decide_eq_true (by omega);obtain ⟨f1,f2,f3⟩:=fd ((i + j) / 2) (by omega) (by omega);obtain ⟨x,ax⟩:∃ x,l[(i + j) / 2]?=some x:=⟨_,List.getElem?_eq_getElem f1⟩
  obtain ⟨y,ay⟩:∃ y,l[n - 1 - (i + j) / 2]?=some y:=⟨_,List.getElem?_eq_getElem f2⟩
  have bx:=cS (enc:=enc) ax;have cx (_:Unit):=dh (enc:=enc) ax;have zx (_:Unit):(0:Int)≤(((i + j) / 2:Nat):Int):=Int.natCast_nonneg _;have eF:=cS (enc:=enc) ay
  have cy (_:Unit):=dh (enc:=enc) ay;have zy (_:Unit):(0:Int)≤((n - 1 - (i + j) / 2:Nat):Int):=Int.natCast_nonneg _;have py:p ((i + j) / 2)=!decide (key y < key x):=by rw [← hp];simp only;rw [Ss.jy ax,Ss.jy ay]
  have v2 (_:Unit):IntKind.i64.wrap ((i:Int) + (j:Int))=((i + j:Nat):Int):=dQ (by omega);have v3 (_:Unit):IntKind.u64.wrap ((i + j:Nat):Int)=((i + j:Nat):Int):=kj (by omega);have v4 (_:Unit):IntKind.i64.wrap (((i + j) / 2:Nat):Int)=(((i + j) / 2:Nat):Int):=aV (by omega) (by omega);have v5 (_:Unit):IntKind.i64.wrap ((((i + j) / 2:Nat):Int) + 1)=(((i + j) / 2 + 1:Nat):Int):=by rw [aV (by omega) (by omega)];omega
  have v6 (_:Unit):IntKind.i64.wrap (((n - 1:Nat):Int) - (((i + j) / 2:Nat):Int))=((n - 1 - (i + j) / 2:Nat):Int):=by rw [aV (by omega) (by omega)];omega
  have sC:i + j≤4000000:=by omega
  repeat (first | (refine K.binOp ?_;first | refine jq rfl rfl rfl ((Qt.aD rfl rfl rfl (v2 ()))) ?_ | refine jq rfl rfl rfl (Qt.bin rfl rfl (fun w=>kn sC)) ?_) | (refine K.convert ?_;first | refine jq rfl rfl rfl (Qt.conv rfl (v3 ())) ?_ | refine jq rfl rfl rfl (Qt.conv rfl (v4 ())) ?_) | refine gn ?_)
  cases t3:decide (key y < key x) with
  | true =>
   rw [t3] at py;refine J.draw (by kernel_rfl) rfl ?_;refine JW.base none ?_;refine tk 0 ?_;refine tk 1 ?_;refine tk 2 ?_;refine tk 3 ?_;refine JD.take 4 rfl rfl (by kernel_rfl) rfl (qb rfl) (Qt.aD rfl rfl rfl (v6 ())) rfl ?_;refine JD.take 5 rfl rfl (by kernel_rfl) rfl (qb rfl) (Qt.aN rfl rfl (zy ()) (cy ())) rfl ?_;refine JD.take 6 rfl rfl (by kernel_rfl) rfl (qb rfl) (Qt.bk rfl eF (hz _)) rfl ?_;refine tk 7 ?_;refine tk 8 ?_;refine JD.take 9 rfl rfl (by kernel_rfl) rfl (qb rfl) (Qt.aN rfl rfl (zx ()) (cx ())) rfl ?_;refine JD.take 10 rfl rfl (by kernel_rfl) rfl (qb rfl) (Qt.bk rfl bx (hz _)) rfl ?_;refine jl 11 rfl rfl rfl rfl (Ld.fu CF y x ⟨[_],rfl⟩ (qb rfl) rfl rfl rfl) .none (fun _=>?_);refine jk 12 rfl rfl rfl rfl (Qt.cmp rfl rfl (congrArg some (fq t3))) ?_;refine jk 13 rfl rfl rfl rfl (Qt.not rfl) ?_;refine aX ?_
   repeat (refine gn ?_)
   exact (ih ⟨(i,(i + j) / 2),q1,by simp only;omega,by simp only;omega,by simp only;rw [← Ss.lQ hk py];exact q4⟩ (by simp only;omega)).aF ⟨rfl,rfl,rfl,rfl,rfl,rfl,rfl,rfl,rfl,rfl,trivial⟩
  | false =>
   rw [t3] at py;refine J.draw (by kernel_rfl) rfl ?_;refine JW.base none ?_;refine tk 0 ?_;refine tk 1 ?_;refine tk 2 ?_;refine tk 3 ?_;refine JD.take 4 rfl rfl (by kernel_rfl) rfl (qb rfl) (Qt.aD rfl rfl rfl (v6 ())) rfl ?_;refine JD.take 5 rfl rfl (by kernel_rfl) rfl (qb rfl) (Qt.aN rfl rfl (zy ()) (cy ())) rfl ?_;refine JD.take 6 rfl rfl (by kernel_rfl) rfl (qb rfl) (Qt.bk rfl eF (hz _)) rfl ?_;refine tk 7 ?_;refine tk 8 ?_;refine JD.take 9 rfl rfl (by kernel_rfl) rfl (qb rfl) (Qt.aN rfl rfl (zx ()) (cx ())) rfl ?_;refine JD.take 10 rfl rfl (by kernel_rfl) rfl (qb rfl) (Qt.bk rfl bx (hz _)) rfl ?_;refine jl 11 rfl rfl rfl rfl (Ld.fu CF y x ⟨[_],rfl⟩ (qb rfl) rfl rfl rfl) .none (fun _=>?_);refine jk 12 rfl rfl rfl rfl (Qt.cmp rfl rfl (congrArg some (fq t3))) ?_;refine jk 13 rfl rfl rfl rfl (Qt.not rfl) ?_;refine aX ?_
   repeat (first | (refine K.binOp ?_;refine jq rfl rfl rfl ((Qt.aD rfl rfl rfl (v5 ()))) ?_) | refine gn ?_)
   exact (ih ⟨((i + j) / 2 + 1,j),by simp only;omega,by simp only;omega,q3,by simp only;rw [← Ss.lP hk py];exact q4⟩ (by simp only;omega)).aF ⟨rfl,rfl,rfl,rfl,rfl,rfl,rfl,rfl,rfl,rfl,trivial⟩
 ·have t1:decide ((i:Int) < (j:Int))=false:=decide_eq_false (by omega);rw [Ss.kQ hk] at q4;subst q4;clear ih q1 q2 q3 hk hp k1 fd;have el:l=X ++ A1 ++ A2 ++ B1 ++ B2 ++ Y:=by rw [hl,eA,eB];simp
  have v2 (_:Unit):IntKind.i64.wrap ((n:Int) - ((a + A1.length:Nat):Int))=((m + B1.length:Nat):Int):=by rw [aV (by omega) (by omega)];omega
  obtain ⟨g1,iP⟩:∃ g,decide (((a + A1.length:Nat):Int) < (m:Int))=g:=⟨_,rfl⟩
  obtain ⟨g2,dM⟩:∃ g,decide ((m:Int) < ((m + B1.length:Nat):Int))=g:=⟨_,rfl⟩
  obtain ⟨g3,nM⟩:∃ g,decide ((a:Int) < ((a + A1.length:Nat):Int))=g:=⟨_,rfl⟩
  obtain ⟨g4,nN⟩:∃ g,decide (((a + A1.length:Nat):Int) < (aG:Int))=g:=⟨_,rfl⟩
  obtain ⟨g5,nQ⟩:∃ g,decide ((aG:Int) < ((m + B1.length:Nat):Int))=g:=⟨_,rfl⟩
  obtain ⟨g6,nR⟩:∃ g,decide (((m + B1.length:Nat):Int) < (b:Int))=g:=⟨_,rfl⟩
  repeat (first | (refine K.binOp ?_;refine jq rfl rfl rfl ((Qt.aD rfl rfl rfl (v2 ()))) ?_) | refine gn ?_)
  refine JO.lU (ι:=Unit) (fun _=>[(24,.c (nI (m + B1.length:Nat))),(20,.c (nI (a + A1.length:Nat))),(18,.c (nI aG)),(0,.c (.v v)),(1,.c (nI a)),(2,.c (nI m)),(3,.c (nI b)),(4,.c (.v fv))]) (fun _=>.row v 46 13 ((X ++ A1 ++ B1 ++ A2 ++ B2 ++ Y).map enc) :: C) (fun _=>?_) (fun KK rest=>?_)
  rotate_left
  ·cases g1 with
   | true =>
    cases g2 with
    | true =>
     have r1:=of_decide_eq_true iP;have r2:=of_decide_eq_true dM;have CR:=FG (fv:=fv) hz v l (X ++ A1) A2 B1 (B2 ++ Y) (a + A1.length) m (m + B1.length) (by rw [el];simp) (by simp;omega) (by omega) rfl (by omega) (by omega) hn
     repeat (first | (refine K.call ?_;refine JO.ld (Ld.xx (CR) (qb rfl) rfl (.cons .refl (.cons .refl (.cons .refl (.cons .refl (.cons .refl .nil)))))) rfl (fun _=>?_)) | refine gn ?_)
     refine J.bq ?_ ((rest ()).aF ⟨rfl,rfl,rfl,rfl,rfl,rfl,rfl,rfl,trivial⟩);simp
    | false =>
     have r2:=of_decide_eq_false dM;have r3:B1=[]:=List.length_eq_zero_iff.1 (by omega)
     repeat (refine gn ?_)
     refine J.bq ?_ ((rest ()).aF ⟨rfl,rfl,rfl,rfl,rfl,rfl,rfl,rfl,trivial⟩);rw [el,r3];simp
   | false =>
    have r1:=of_decide_eq_false iP;have r3:A2=[]:=List.length_eq_zero_iff.1 (by omega)
    repeat (refine gn ?_)
    refine J.bq ?_ ((rest ()).aF ⟨rfl,rfl,rfl,rfl,rfl,rfl,rfl,rfl,trivial⟩);rw [el,r3];simp
  have nU:(X ++ A1 ++ B1 ++ A2 ++ B2 ++ Y).length≤1000000:=by
   have:(X ++ A1 ++ B1 ++ A2 ++ B2 ++ Y).length=l.length:=by rw [el];simp;omega
   omega
  have sD:(X ++ Ss.mg key A1 B1 ++ A2 ++ B2 ++ Y).length≤1000000:=by
   simp only [List.length_append,Ss.qo] at nU ⊢;omega
  clear hl el iP dM
  repeat (refine gn ?_)
  refine JO.lU (ι:=Unit) (fun _=>[(24,.c (nI (m + B1.length:Nat))),(18,.c (nI aG)),(0,.c (.v v)),(3,.c (nI b)),(4,.c (.v fv))]) (fun _=>.row v 46 13 ((X ++ Ss.mg key A1 B1 ++ A2 ++ B2 ++ Y).map enc) :: C) (fun _=>?_) (fun KK rest=>?_)
  rotate_left
  ·cases g3 with
   | true =>
    cases g4 with
    | true =>
     have r1:=of_decide_eq_true nM;have r2:=of_decide_eq_true nN;have CR:=IH (X ++ A1 ++ B1 ++ A2 ++ B2 ++ Y) X A1 B1 (A2 ++ B2 ++ Y) a (a + A1.length) aG (by omega) (by simp) ha rfl (by omega) (by omega) (by omega) nK.left nL.left nU
     repeat (first | (refine K.call ?_;refine JO.ld (Ld.dP (CR) (qb rfl) rfl (.cons .refl (.cons .refl (.cons .refl (.cons .refl (.cons .refl .nil)))))) rfl (fun _=>?_)) | refine gn ?_)
     refine J.bq ?_ ((rest ()).aF ⟨rfl,rfl,rfl,rfl,rfl,trivial⟩);simp
    | false =>
     have r2:=of_decide_eq_false nN;have r3:B1=[]:=List.length_eq_zero_iff.1 (by omega)
     repeat (refine gn ?_)
     refine J.bq ?_ ((rest ()).aF ⟨rfl,rfl,rfl,rfl,rfl,trivial⟩);rw [r3,Ss.jQ];simp
   | false =>
    have r1:=of_decide_eq_false nM;have r3:A1=[]:=List.length_eq_zero_iff.1 (by omega)
    repeat (refine gn ?_)
    refine J.bq ?_ ((rest ()).aF ⟨rfl,rfl,rfl,rfl,rfl,trivial⟩);rw [r3,Ss.jw];simp
  have lm:=Ss.qo (key:=key) A1 B1
  cases g5 with
  | true =>
   cases g6 with
   | true =>
    have r1:=of_decide_eq_true nQ;have r2:=of_decide_eq_true nR;have CR:=IH (X ++ Ss.mg key A1 B1 ++ A2 ++ B2 ++ Y) (X ++ Ss.mg key A1 B1) A2 B2 Y aG (m + B1.length) b (by omega) rfl (by rw [List.length_append,lm];omega) (by omega) (by omega) (by omega) (by omega) nK.right nL.right sD
    repeat (first | (refine K.call ?_;refine JO.ld (Ld.dP (CR) (qb rfl) rfl (.cons .refl (.cons .refl (.cons .refl (.cons .refl (.cons .refl .nil)))))) rfl (fun _=>?_)) | refine gn ?_)
    refine J.bq (L':=.row v 46 13 ((X ++ (Ss.mg key A1 B1 ++ Ss.mg key A2 B2) ++ Y).map enc) :: C) (by simp) ?_
    (exact J.fo func89 rfl .nil () (by exact .refl) rfl)
   | false =>
    have r2:=of_decide_eq_false nR;have r3:B2=[]:=List.length_eq_zero_iff.1 (by omega)
    repeat (refine gn ?_)
    refine J.bq (L':=.row v 46 13 ((X ++ (Ss.mg key A1 B1 ++ Ss.mg key A2 B2) ++ Y).map enc) :: C) (by rw [r3,Ss.jQ];simp) ?_
    (exact J.fo func89 rfl .nil () (by exact .refl) rfl)
  | false =>
   have r1:=of_decide_eq_false nQ;have r3:A2=[]:=List.length_eq_zero_iff.1 (by omega)
   repeat (refine gn ?_)
   refine J.bq (L':=.row v 46 13 ((X ++ (Ss.mg key A1 B1 ++ Ss.mg key A2 B2) ++ Y).map enc) :: C) (by rw [r3,Ss.jw];simp) ?_
   (exact J.fo func89 rfl .nil () (by exact .refl) rfl)
theorem xN (CF:dV prog fv C enc key) (hz:∀ x,(enc x).length=13) (v:Value):∀ (s:Nat) (l X A0 B0 Y:List α) (a m b:Nat),A0.length + B0.length≤s→l=X ++ A0 ++ B0 ++ Y→a=X.length→m=a + A0.length→b=m + B0.length→A0.length≠0→B0.length≠0→Ss.cu key A0→Ss.cu key B0→l.length≤1000000 →
  aA prog 89 [.c (.v v),.c (nI a),.c (nI m),.c (nI b),.c (.v fv)] (.row v 46 13 (l.map enc) :: C) (fun _:Unit=>(.aU [],.row v 46 13 ((X ++ Ss.mg key A0 B0 ++ Y).map enc) :: C))
 | 0,l,X,A0,B0,Y,a,m,b,hs,hl,ha,hm,hb,nA,nB,sA,sB,hn=>by omega
 | s + 1,l,X,A0,B0,Y,a,m,b,hs,hl,ha,hm,hb,nA,nB,sA,sB,hn=>by
  by_cases h1:A0.length=1
  ·exact FH CF hz v l X A0 B0 Y a m b hl ha hm hb nA nB sA sB hn h1
  ·by_cases h2:B0.length=1
   ·exact FI CF hz v l X A0 B0 Y a m b hl ha hm hb nA nB sA sB hn h1 h2
   ·exact FJ CF hz v s (xN CF hz v s) l X A0 B0 Y a m b hs hl ha hm hb nA nB sA sB hn h1 h2
end
end Fl
open Go.RowKit
namespace Fl
open Sx Go.Proofs.Tryz
set_option maxRecDepth 100000
set_option maxHeartbeats 4000000
section
variable {α:Type} {enc:α→List A} {key:α→Int} {fv:Value} {C:List ak}
theorem FK (CF:dV prog fv C enc key) (hz:∀ x,(enc x).length=13) (v:Value) (l0:List α) (N:Nat) (hN:N=l0.length) (hs:N≤100000) :
  aA prog 61 [.c (.v v),.c (nI N),.c (.v fv)] (.row v 46 13 (l0.map enc) :: C) (fun _:Unit=>(.aU [],.row v 46 13 ((Ss.bg key l0).map enc) :: C)):=by
 refine aA.intro func61 rfl rfl rfl (fun ok e=>?_)
 repeat (refine gn ?_)
 refine J.loop (ι:={ q:List α × List α // q.1 ++ Ss.cr key 20 q.2=Ss.cr key 20 l0∧q.1.length + q.2.length=N }) (fun q=>[(7,.c (nI q.1.1.length)),(8,.c (nI (q.1.1.length + 20:Nat))),(6,.c (nI (20:Nat))),(0,.c (.v v)),(1,.c (nI N)),(2,.c (.v fv))]) (fun q=>.row v 46 13 ((q.1.1 ++ q.1.2).map enc) :: C) (fun q=>q.1.2.length) ⟨([],l0),rfl,by simp [hN]⟩ (fun X h=>h.aF ⟨rfl,rfl,rfl,rfl,rfl,rfl,trivial⟩) (fun q ih=>?_);obtain ⟨⟨Z,R⟩,ND,NF⟩:=q;simp only at ND NF ih ⊢
 by_cases hk:Z.length + 20≤N
 ·have t1:decide (((Z.length + 20:Nat):Int)≤(N:Int))=true:=decide_eq_true (by omega);have lt:(R.take 20).length=20:=by rw [List.length_take];omega
  have ld:(R.drop 20).length=R.length - 20:=List.length_drop;have ls:=Ss.fL (key:=key) (R.take 20);have CI:=Ax CF hz v (Z ++ R) Z (R.take 20) (R.drop 20) Z.length (Z.length + 20) (by rw [List.append_assoc,List.take_append_drop]) rfl (by omega) (by omega);have w1:IntKind.i64.wrap (((Z.length + 20:Nat):Int) + ((20:Nat):Int))=((Z.length + 20 + 20:Nat):Int):=dQ (by omega);rw [Ss.je (by omega) (by decide),← List.append_assoc] at ND
  repeat (first | (refine K.binOp ?_;refine jq rfl rfl rfl ((Qt.aD rfl rfl rfl w1)) ?_) | (refine K.call ?_;refine JO.ld (Ld.dP (CI) (qb rfl) rfl (by (exact bR.cons .refl (.cons .refl (.cons .refl (.cons .refl .nil)))))) rfl ?_;intro _) | refine gn ?_)
  exact (ih ⟨(Z ++ Ss.bg key (R.take 20),R.drop 20),ND,by simp only [List.length_append];omega⟩ (by simp only;omega)).aF ⟨by simp only [List.length_append,ls,lt];rfl,by simp only [List.length_append,ls,lt];rfl,rfl,rfl,rfl,rfl,trivial⟩
 ·have t1:decide (((Z.length + 20:Nat):Int)≤(N:Int))=false:=decide_eq_false (by omega);have CI:=Ax CF hz v (Z ++ R) Z R [] Z.length N (by simp) rfl (by omega) (by simp;omega);rw [Ss.g9 (by omega)] at ND;rw [List.append_nil,ND] at CI;clear ih hk
  repeat (first | (refine K.call ?_;refine JO.ld (Ld.dP (CI) (qb rfl) rfl (by (exact bR.cons .refl (.cons .refl (.cons .refl (.cons .refl .nil)))))) rfl ?_;intro _) | refine gn ?_)
  clear t1 CI ND NF;refine J.loop (ι:={ k:Nat // 0 < k∧k≤200020 }) (fun q=>[(6,.c (nI q.1)),(0,.c (.v v)),(1,.c (nI N)),(2,.c (.v fv))]) (fun q=>.row v 46 13 ((Ss.cr key q.1 l0).map enc) :: C) (fun q=>N - q.1) ⟨20,by omega,by omega⟩ (fun X h=>h.aF ⟨rfl,rfl,rfl,rfl,trivial⟩) (fun q ih=>?_);obtain ⟨k,k0,k1⟩:=q;simp only at k0 k1 ih ⊢
  by_cases hk:k < N
  ·have t1:decide ((k:Int) < (N:Int))=true:=decide_eq_true (by omega);have w2:IntKind.i64.wrap (2 * (k:Int))=((2 * k:Nat):Int):=by rw [aV (by omega) (by omega)];omega
   have w3:IntKind.i64.wrap ((k:Int) * 2)=((2 * k:Nat):Int):=by rw [aV (by omega) (by omega)];omega
   have cM:=ih ⟨2 * k,by omega,by omega⟩ (by simp only;omega);clear ih;simp only at cM
   repeat (first | (refine K.binOp ?_;refine jq rfl rfl rfl ((Qt.aD rfl rfl rfl w2)) ?_) | refine gn ?_)
   refine J.loop (ι:={ q:List α × List α // q.1 ++ Ss.cr key (2 * k) q.2=Ss.cr key (2 * k) l0∧q.1.length + q.2.length=N }) (fun q=>[(7,.c (nI q.1.1.length)),(8,.c (nI (q.1.1.length + 2 * k:Nat))),(6,.c (nI k)),(0,.c (.v v)),(1,.c (nI N)),(2,.c (.v fv))]) (fun q=>.row v 46 13 ((q.1.1 ++ Ss.cr key k q.1.2).map enc) :: C) (fun q=>q.1.2.length) ⟨([],l0),rfl,by simp [hN]⟩ (fun X h=>h.aF ⟨rfl,by rw [show ([]:List α).length + 2 * k=2 * k by simp];rfl,rfl,rfl,rfl,rfl,trivial⟩) (fun q ih=>?_);obtain ⟨⟨Z,R⟩,ND,NF⟩:=q;simp only at ND NF ih ⊢;have w4:IntKind.i64.wrap ((Z.length:Int) + (k:Int))=((Z.length + k:Nat):Int):=dQ (by omega);have lt:(R.take k).length=min k R.length:=List.length_take;have ld:(R.drop k).length=R.length - k:=List.length_drop;have ls:=Ss.fL (key:=key) (R.take k)
   by_cases hj:Z.length + 2 * k≤N
   ·have t2:decide (((Z.length + 2 * k:Nat):Int)≤(N:Int))=true:=decide_eq_true (by omega);have dG:((R.drop k).take k).length=k:=by rw [List.length_take];omega
    have sE:=Ss.fL (key:=key) ((R.drop k).take k);have As:(R.drop (2 * k)).length=R.length - 2 * k:=List.length_drop;have nV:(R.take (2 * k)).length=2 * k:=by rw [List.length_take];omega
    have nW:=Ss.fL (key:=key) (R.take (2 * k));have w5:IntKind.i64.wrap (((Z.length + 2 * k:Nat):Int) + ((2 * k:Nat):Int))=((Z.length + 2 * k + 2 * k:Nat):Int):=dQ (by omega);have e1:Ss.cr key k R=Ss.bg key (R.take k) ++ (Ss.bg key ((R.drop k).take k) ++ Ss.cr key k (R.drop (2 * k))):=by
     rw [Ss.je (by omega) (by omega),Ss.je (l:=R.drop k) (by omega) (by omega),List.drop_drop,show k + k=2 * k by omega]
    have e2:Ss.mg key (Ss.bg key (R.take k)) (Ss.bg key ((R.drop k).take k))=Ss.bg key (R.take (2 * k)):=by
     rw [Ss.qp,show 2 * k=k + k by omega,List.take_add]
    have lb:=Ss.uP (key:=key) (R.drop (2 * k)).length k (R.drop (2 * k)) (Nat.le_refl _);have CM:=xN CF hz v _ (Z ++ Ss.cr key k R) Z (Ss.bg key (R.take k)) (Ss.bg key ((R.drop k).take k)) (Ss.cr key k (R.drop (2 * k))) Z.length (Z.length + k) (Z.length + 2 * k) (Nat.le_refl _) (by rw [e1];simp) rfl (by omega) (by omega) (by omega) (by omega) (Ss.jd _) (Ss.jd _) (by rw [e1];simp only [List.length_append];omega);rw [e2] at CM;rw [Ss.je (by omega) (by omega),← List.append_assoc] at ND
    repeat (first | (refine K.binOp ?_;first | refine jq rfl rfl rfl ((Qt.aD rfl rfl rfl w4)) ?_ | refine jq rfl rfl rfl ((Qt.aD rfl rfl rfl w2)) ?_ | refine jq rfl rfl rfl ((Qt.aD rfl rfl rfl w5)) ?_) | (refine K.call ?_;refine JO.ld (Ld.dP (CM) (qb rfl) rfl (.cons .refl (.cons .refl (.cons .refl (.cons .refl (.cons .refl .nil)))))) rfl (fun _=>?_)) | refine gn ?_)
    exact (ih ⟨(Z ++ Ss.bg key (R.take (2 * k)),R.drop (2 * k)),ND,by simp only [List.length_append];omega⟩ (by simp only;omega)).aF ⟨by simp only [List.length_append,nW,nV];rfl,by simp only [List.length_append,nW,nV];rfl,rfl,rfl,rfl,rfl,trivial⟩
   ·have t2:decide (((Z.length + 2 * k:Nat):Int)≤(N:Int))=false:=decide_eq_false (by omega);clear ih;rw [Ss.g9 (by omega)] at ND
    by_cases hm:Z.length + k < N
    ·have t3:decide (((Z.length + k:Nat):Int) < (N:Int))=true:=decide_eq_true (by omega);have sE:=Ss.fL (key:=key) (R.drop k);have e1:Ss.cr key k R=Ss.bg key (R.take k) ++ Ss.bg key (R.drop k):=by
      rw [Ss.je (by omega) (by omega),Ss.g9 (l:=R.drop k) (by omega)]
     have e2:Ss.mg key (Ss.bg key (R.take k)) (Ss.bg key (R.drop k))=Ss.bg key R:=by
      rw [Ss.qp,List.take_append_drop]
     have CM:=xN CF hz v _ (Z ++ Ss.cr key k R) Z (Ss.bg key (R.take k)) (Ss.bg key (R.drop k)) [] Z.length (Z.length + k) N (Nat.le_refl _) (by rw [e1];simp) rfl (by omega) (by omega) (by omega) (by omega) (Ss.jd _) (Ss.jd _) (by rw [e1];simp only [List.length_append];omega);rw [e2,List.append_nil,ND] at CM
     repeat (first | (refine K.binOp ?_;first | refine jq rfl rfl rfl ((Qt.aD rfl rfl rfl w4)) ?_ | refine jq rfl rfl rfl ((Qt.aD rfl rfl rfl w3)) ?_) | (refine K.call ?_;refine JO.ld (Ld.dP (CM) (qb rfl) rfl (.cons .refl (.cons .refl (.cons .refl (.cons .refl (.cons .refl .nil)))))) rfl (fun _=>?_)) | refine gn ?_)
     exact cM.aF ⟨rfl,rfl,rfl,rfl,trivial⟩
    ·have t3:decide (((Z.length + k:Nat):Int) < (N:Int))=false:=decide_eq_false (by omega);rw [Ss.g9 (l:=R) (by omega),ND]
     repeat (first | (refine K.binOp ?_;first | refine jq rfl rfl rfl ((Qt.aD rfl rfl rfl w4)) ?_ | refine jq rfl rfl rfl ((Qt.aD rfl rfl rfl w3)) ?_) | refine gn ?_)
     exact cM.aF ⟨rfl,rfl,rfl,rfl,trivial⟩
  ·have t1:decide ((k:Int) < (N:Int))=false:=decide_eq_false (by omega);rw [Ss.g9 (by omega)]
   repeat (refine gn ?_)
   (exact J.fo func61 rfl .nil () (by exact .refl) rfl)
theorem FL (CF:dV prog fv C enc key) (hz:∀ x,(enc x).length=13) (v:Value) (l0:List α) (hs:l0.length≤100000) :
  aA prog 22 [.c (.v v),.c (.v fv)] (.row v 46 13 (l0.map enc) :: C) (fun _:Unit=>(.aU [],.row v 46 13 ((Ss.bg key l0).map enc) :: C)):=by
 have CS:=FK CF hz v l0 (l0.map enc).length (by simp) (by simp;omega);refine aA.intro func22 rfl rfl rfl (fun ok e=>?_)
 repeat (first | (refine K.call ?_;refine JO.ld (Ld.dP (CS) (qb rfl) rfl (by (exact bR.cons .refl (.cons .refl (.cons .refl .nil))))) rfl ?_;intro _) | refine gn ?_)
 (exact J.fo func22 rfl .nil () (by exact .refl) rfl)
end
end Fl
open Go.RowKit
namespace Fl
open Sx Go.Proofs.Tryz
set_option maxRecDepth 100000
def FM (l:List Bool):List (List A):=l.map fun x=>[bI x]
abbrev sl (b o n cap:Nat):Value:=.slice (some ⟨b,o,none⟩) n cap
abbrev LS (b:Nat) (vc vm vh:Value) (size most f:Nat) (H:List Bool) (R:List ak:=[]):List ak:=.box b 142 [nI size,nI most,.v vc,.v vm,nI f,.v vh] :: .row vh 4 1 (FM H) :: R
abbrev LV (b:Nat) (vc vm vh:Value) (size most f:Nat) (V:List (List A)) (H:List Bool):List ak:=.row vc 28 1 V :: LS b vc vm vh size most f H
abbrev LP (b:Nat) (vc vm vh y:Value) (size most f:Nat) (V:List (List A)) (M:List Int) (H:List Bool) (c:List Int):List ak:=.row y 3 1 (qg c) :: .row vm 3 1 (qg M) :: LV b vc vm vh size most f V H
section
variable (b:Nat) (vc vm vh y:Value) (size most f:Nat) (V:List (List A)) (M c:List Int) (H:List Bool)
end
section
variable {P:Program} {c:Cx} {k:List Item} {f:Fm} {L:List ak}
theorem St.nX {e sz:Nat} {a:Act} {w:World} (s:St c f L a w):St c f (.row (.slice none 0 0) e sz [] :: L) a w:=by
 have hf:bL (.row (.slice none 0 0) e sz [] :: L)=bL L:=by simp [bL,ak.cA,de]
 have ho:bz c (.row (.slice none 0 0) e sz [] :: L)=bz c L:=by funext x;unfold bz;rw [hf]
 refine ⟨s.kp,s.size,s.jj,fun q hq=>?_,fun x hx=>s.dS x (hf ▸ hx),List.pairwise_cons.2 ⟨fun q _ x hx=>by simp [ak.cA,de] at hx,s.ap⟩,fun t d ht=>by rw [ho];exact s.fr t d ht⟩;rw [ho];rcases List.mem_cons.1 hq with rfl | hq
 ·exact ⟨[],Row.nil w e sz,rfl⟩
 ·exact s.res q hq
theorem J.nX (e sz:Nat) (h:J P c k f (.row (.slice none 0 0) e sz [] :: L)):J P c k f L:=⟨fun a w s=>h.go a w s.nX⟩
end
def mP (p:Value) (size most:Nat) (s:Po.St) (x:{ x:Nat × Value × Value × Value × (Nat→Value) // p=pt x.1 }):List ak :=
 .row x.1.2.2.1 3 1 (qg s.M) :: LV x.1.1 x.1.2.1 x.1.2.2.1 x.1.2.2.2.1 size most s.f ((List.range s.C.length).map fun i=>[.v (x.1.2.2.2.2 i)]) s.H ++ (List.range s.C.length).map fun i=>.row (x.1.2.2.2.2 i) 3 1 (qg (s.C.getD i []))
def tP (p:Value) (size most:Nat) (s:Po.St):World→List Nat→Prop:=sj (mP p size most s)
section
variable (p:Value) (size most:Nat) (s:Po.St) (S:List Nat)
end
end Fl
open Go.RowKit
namespace Fl
open Sx Go.Proofs.Tryz
set_option maxRecDepth 100000
set_option maxHeartbeats 4000000
theorem dV.pure {P:Program} {F:FuncId} {α:Type} {enc:α→List A} {key:α→Int} [aS P F] (hC:∀ x y,Pure P F [.agg (enc x),.agg (enc y)] (.c (.v (.int .i64 (cq (key x) (key y)))))) :
  dV P (.func (.func F) #[] #[]) [] enc key:=by
 constructor;intro c f L X ps af gd t tys x y z p q hL ht hx hy hz;exact Ld.rX (args:=[y,z]) hx (hC p q) ht (by simp only [fS,hy,hz]) (.cons .refl (.cons .refl .nil))
section
variable {P:Program} {c:Cx} {f:Fm} {L:List ak} {T X:TypeId} {ps:String} {af:Array Edge} {gd:Option (Nat × Bool)} {t:Nat}
theorem Ld.FN {x y:Operand} {Y sz e:Nat} {l:List (List A)} (hu:P.underlying X=some (.slice e)) (ht:t < c.N) (h:aY f x=some (.c (.r sz l))) (hy:aY f y=some (.c (.v (.slice none 0 0)))):Ld P c ⟨some t,.binOp .eql X x y Y,T,ps,af,gd⟩ f L [] (fun b:{ b:Bool // b=true→l=[] }=>(t,.c (.v (.bool b.1))) :: f) (fun _=>L):=⟨fun a w s K Q hK=>by
 have rx:=s.ev h;have ry:=s.val hy;unfold RD RA at rx;obtain ⟨ao,cap,e1,_,_,e2⟩:=rx;have gM:(execOp a.eval ⟨some t,.binOp .eql X x y Y,T,ps,af,gd⟩).run P w=.ok (.value (.bool ao.isNone)) w:=by
  have h1:=Lib.run_eql_slice_nil w X e ao l.length cap 0 0 hu;simp [execOp,e1,ry,eqGuard_at_slice,Sem.run_bind,h1]
 unfold Oper.wp;rw [gM];refine hK ⟨ao.isNone,fun hn=>?_⟩ _ _ (aP.refl _ _) (s.more ht (aP.refl _ _) (by unfold RD RA;exact ⟨rfl,rfl⟩)) (fun y hy=>.inl hy);rcases e2 with e2 | ⟨g,off,e2,_⟩
 ·exact e2
 ·rw [e2] at hn;cases hn⟩
end
theorem FO (l:List Mk) (hs:l.length≤1000):aA prog 21 [.c (.r 13 (l.map eM))] [] (fun v:Value=>(.c (.v v),[.row v 46 13 (l.map eM)])):=by
 have hl:(l.map eM).length=l.length:=List.length_map ..;refine aA.intro func21 rfl rfl rfl (fun ok e=>?_)
 repeat (first | (refine K.binOp ?_;refine JO.ld (Ld.FN Tryz.underlying34 (qb rfl) rfl rfl) rfl ?_;intro x) | refine gn ?_)
 obtain ⟨b,hb⟩:=x;simp only
 cases b
 ·repeat (first | (refine K.bi ?_;refine JO.ld (Ld.bO (qb rfl) rfl rfl .read (by (simp;omega))) rfl (fun _=>?_)) | refine au ?_ | intro _)
  rename_i v
  (exact J.nG func21 rfl (.cons (.tmp rfl) .nil) v (by exact .refl) rfl)
 ·obtain rfl:l=[]:=List.map_eq_nil_iff.1 (hb rfl)
  repeat (refine gn ?_)
  refine J.nX 46 13 ?_
  (exact J.nG func21 rfl (.cons (.tmp rfl) .nil) (.slice none 0 0) (by exact .refl) rfl)
theorem FP (x y:Mk):Pure prog 23 [.agg (eM x),.agg (eM y)] (.c (nI (cq x.call y.call))):=by
 have CC:=xL x.call y.call;refine aA.intro func23 rfl rfl rfl (fun ok e=>?_)
 repeat (first | refine au ?_ | intro _)
 (exact J.r9 [_,_] rfl func23 rfl (.cons (.tmp rfl) .nil) () (by exact .refl) rfl)
end Fl
end Go.Proofs.YtgjpdogjekmemaaGreat
