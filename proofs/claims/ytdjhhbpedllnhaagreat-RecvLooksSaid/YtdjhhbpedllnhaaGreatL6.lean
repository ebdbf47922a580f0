/-
  What the laws need, part L6.
  Conditions: none.
-/
import Derived.Test.YtdjhhbpedllnhaaGreatL5
import Derived.Test.YtdjhhbpedllnhaaGreatA40
set_option linter.unusedVariables false
set_option linter.unusedSimpArgs false
set_option linter.unnecessarySimpa false
set_option maxHeartbeats 2000000
namespace Go.Proofs.YtdjhhbpedllnhaaGreat
open Go.RowKit
namespace Sx
def Pc:Pn.Op:=⟨3,1,0,0,[],false⟩
def Pd:Pn.Op:=⟨6,1,0,0,[],false⟩
def Ib:Gr:=⟨[Pc],0,4,0,false,8,false,-1,-1,-1,0,0,0,-1,-1,⟨0,-1,0,false,0⟩,[],[],[],[],0⟩
def Pe:Gr:={ Ib with ops:=[Pd],call:=0,place:=0,status:=2,at_:=1 }
def Pf:Cn:=⟨0,[],true,-1,[],[]⟩
def re0:ah:=⟨0,1,8,[Ib,Pe],[Pf],[],[[],[]],[],0,[],0,[]⟩
def re:Nat→ah
 | 0=>re0
 | n + 1=>(bz (re n) 0).1
end Sx
namespace Fl
open Sx Go.Proofs.Tryz
set_option maxRecDepth 100000
def AT (s:ah) (g:Nat):Bool :=
 xT s g && qY s && decide ((aa s g).ak.length≤1000∧1≤(ag s g).ch∧(ag s g).ch≤s.au.length∧0≤(cn s (ag s g).ch).cap∧((cn s (ag s g).ch).buf.length:Int)≤(cn s (ag s g).ch).cap∧(cn s (ag s g).ch).send=[])
  && ([7,8,10,11,14]:List Int).all (fun p=>decide ((aa s g).place≠p))
theorem AT.ok {s:ah} {g:Nat} (h:AT s g=true):Ia s g:=by
 unfold AT at h;simp only [Bool.and_eq_true,decide_eq_true_eq,List.all_eq_true] at h;obtain ⟨⟨⟨h1,h2⟩,a1,a2,a3,a4,a5,a6⟩,h4⟩:=h;have C:=xT.ok h1;have c8:=C.c8;have n:∀ p,p∈([7,8,10,11,14]:List Int)→(aa s g).place≠p:=h4;refine ⟨C,qY.qs h2,a1,fun _ _ _ _=>⟨((ag s g).ch - 1).toNat,by omega,by omega,by omega,?_,?_⟩,fun _ _ i r hr=>(by rw [a6] at hr;cases hr),fun _ e=>?_,fun e=>absurd e (n 10 (by simp)),fun _ e=>absurd e (n 11 (by simp)),fun _ e=>absurd e (n 14 (by simp))⟩
 ·rw [show ((((ag s g).ch - 1).toNat:Nat):Int) + 1=(ag s g).ch by omega];exact a4
 ·rw [show ((((ag s g).ch - 1).toNat:Nat):Int) + 1=(ag s g).ch by omega];exact a5
 ·rcases e with e | e
  ·exact absurd e (n 7 (by simp))
  ·exact absurd e (n 8 (by simp))
theorem aaX:∀ n:Nat,n < 3→AT (re n) 0=true∧(bz (re n) 0).2=true∧(aa (re (n + 1)) 0).place=([5,16,18]:List Int).getD n 0∧(re (n + 1)).gs.length=2:=by
 intro n hn
 match n,hn with
 | 0,_=>decide +kernel
 | 1,_=>decide +kernel
 | 2,_=>decide +kernel
theorem aaY:∀ n:Nat,n < 3→(([5,16,18]:List Int).map fun n=>[nI n])[((n:Nat):Int).toNat]?=some [nI (([5,16,18]:List Int).getD n 0)]:=by
 intro n hn
 match n,hn with
 | 0,_=>rfl
 | 1,_=>rfl
 | 2,_=>rfl
theorem Pg:Pure prog 23 [] (.c (bI true)):=by
 have CO:=Dt (re 0) (AJ.ok (by decide +kernel));refine av.intro func23 rfl rfl rfl (fun ok e=>?_)
 repeat (first | (refine K.binOp ?_;first | refine jq rfl rfl rfl (Qt.zu zw rfl rfl) ?_ | refine aK (show ((((fI x.1.2 (re 0)).length:Nat):Int) != 2)=false from rfl) ?_) | (refine K.call ?_;refine JO.ld (Ld.bw CO (qb rfl) rfl (.cons (.agg (.of (by kernel_rfl))) .nil)) rfl ?_;intro x) | (refine K.lit ?_;first | (refine JO.ld (Ld.mW (mm:=[eL Pc]) (qb rfl) rfl rfl rfl rfl rfl rfl (.of (by exact rfl))) rfl (fun _=>?_)) | (refine JO.ld (Ld.mW (mm:=[eL Pd]) (qb rfl) rfl rfl rfl rfl rfl rfl (.of (by exact rfl))) rfl (fun _=>?_)) | (refine JO.ld (Ld.mW (mm:=[eG Ib,eG Pe]) (qb rfl) rfl rfl rfl rfl rfl rfl (.of (by exact rfl))) rfl (fun _=>?_)) | (refine JO.ld (Ld.mW (mm:=[eC Pf]) (qb rfl) rfl rfl rfl rfl rfl rfl (.of (by exact rfl))) rfl (fun _=>?_)) | (refine JO.ld (Ld.mW (mm:=[[ints []],[ints []]]) (qb rfl) rfl rfl rfl rfl rfl rfl (.of (by exact rfl))) rfl (fun _=>?_)) | (refine JO.ld (Ld.mW (mm:=([5,16,18]:List Int).map fun n=>[nI n]) (qb rfl) rfl rfl rfl rfl rfl rfl (.of (by exact rfl))) rfl (fun _=>?_))) | refine ay ?_ | intro _)
 obtain ⟨⟨b3,u⟩,hu⟩:=x;simp only at hu ⊢;refine J.dF 0 ?_;refine J.dF 0 ?_;refine J.loop (ι:={ q:Nat × U // q.1≤3∧cA q.2 (re q.1)∧(re q.1).gs.length=2 }) (fun q=>[(39,.c (nI q.1.1)),(38,.c (nI 3)),(37,.c (ints [5,16,18])),(3,.c (.v (pt b3)))]) (fun q=>wd b3 q.1.2 (re q.1.1)) (fun q=>3 - q.1.1) ⟨(0,u),by omega,hu,rfl⟩ (fun X h=>h.bO ⟨rfl,rfl,rfl,rfl,trivial⟩) (fun q ih=>?_);obtain ⟨⟨n,v⟩,hn,hv,hl⟩:=q;simp only at hn hv hl ih ⊢
 by_cases h5:n < 3
 ·have t1:(decide ((n:Int) < 3))=true:=decide_eq_true (by omega);obtain ⟨f1,f2,f3,f4⟩:=aaX n h5;have C1:=Pb b3 v (re n) 0 (AT.ok f1) hv;rw [f2] at C1;have A1:=aaY n h5;haveI:Sx.bt 0 (re (n + 1)):=⟨by omega⟩
  have t2:((aa (re (n + 1)) 0).place != ([5,16,18]:List Int).getD n 0)=false:=by rw [f3];simp
  repeat (first | (refine K.load ?_;((refine jq rfl rfl rfl (Qt.bM rfl (aP (g:=0) (s:=re (n + 1))) (by exact rfl)) ?_))) | (refine K.indexAddr ?_;refine jq rfl rfl rfl (Qt.aV rfl rfl (cW (g:=0)) (cX (g:=0) (s:=re (n + 1)))) ?_) | (refine K.call ?_;refine JO.ld (Ld.bw C1 (qb rfl) rfl (.cons .refl (.cons .refl .nil))) rfl ?_;intro y) | refine gn ?_)
  exact (ih ⟨(n + 1,y.1),by omega,y.2,f4⟩ (by simp only;omega)).bO ⟨rfl,rfl,rfl,rfl,trivial⟩
 ·have t1:(decide ((n:Int) < 3))=false:=decide_eq_false (by omega);have e5:n=3:=by omega
  subst e5;have q2:((aa (re 3) 0).bE == 8)=true:=by decide +kernel
  haveI:Sx.bt 0 (re 3):=⟨by decide +kernel⟩
  haveI:Sx.dD (re 3) 0 { aa (re 3) 0 with res:=⟨1,-1,0,false,0⟩ }:=⟨by kernel_rfl⟩
  repeat (first | (refine K.load ?_;first | refine jq rfl rfl rfl (Qt.bM rfl (aP (g:=0) (s:=re 3)) rfl) ?_ | refine jq rfl rfl rfl (Qt.ZZ rfl (aP (g:=0) (s:=re 3)) rfl rfl) ?_) | (refine K.indexAddr ?_;refine jq rfl rfl rfl (Qt.aV rfl rfl (cW (g:=0)) (cX (g:=0) (s:=re 3))) ?_) | (refine K.binOp ?_;refine jq rfl rfl rfl (Qt.eqS [.int .i64 1,.int .i64 (-1),.int .i64 0,.bool false,.int .i64 0] rfl rfl (fun w=>aao w _ _ _ _ _) aam) ?_) | refine gn ?_)
  refine J.Ai b3 ?_;exact aC func23
end Fl
end Go.Proofs.YtdjhhbpedllnhaaGreat
