/-
  What the laws need, part H4.
  Conditions: none.
-/
import Derived.Test.YtdjhhbpedllnhaaGreatH3
set_option linter.unusedVariables false
set_option linter.unusedSimpArgs false
set_option linter.unnecessarySimpa false
set_option maxHeartbeats 2000000
namespace Go.Proofs.YtdjhhbpedllnhaaGreat
open Go.RowKit
namespace Sx
def Ow:Pn.Op:=⟨6,1,0,0,[],false⟩
def Ox:Pn.Op:=⟨3,1,0,0,[],false⟩
def Hi:Gr:=⟨[Ow],0,21,0,false,10,false,-1,-1,-1,0,0,0,-1,-1,⟨0,-1,0,false,0⟩,[],[],[],[],0⟩
def Oy:Gr:={ Hi with ops:=[Ox],place:=14,status:=1,call:=1,iJ:=7,aI:=0 }
def Oz:Cn:=⟨0,[],false,0,[0],[]⟩
def OA:Su:=⟨true,1,1,-1,false,0,false⟩
def Zz:ah:=⟨1,1,12,[Hi,Oy],[Oz],[OA],[[],[]],[],1,[],0,[]⟩
def sh:Nat→ah
 | 0=>Zz
 | n + 1=>(cj (sh n) 0).1
end Sx
namespace Fl
open Sx Go.Proofs.Tryz
set_option maxRecDepth 100000
theorem ZA:∀ n:Nat,n < 5→AK (sh n) 0=true∧(cj (sh n) 0).2=true∧(aa (sh (n + 1)) 0).place=([22,22,16,17,18]:List Int).getD n 0∧(sh (n + 1)).gs.length=2:=by
 intro n hn
 match n,hn with
 | 0,_=>decide +kernel
 | 1,_=>decide +kernel
 | 2,_=>decide +kernel
 | 3,_=>decide +kernel
 | 4,_=>decide +kernel
theorem ZB:∀ n:Nat,n < 5→(([22,22,16,17,18]:List Int).map fun n=>[nI n])[((n:Nat):Int).toNat]?=some [nI (([22,22,16,17,18]:List Int).getD n 0)]:=by
 intro n hn
 match n,hn with
 | 0,_=>rfl
 | 1,_=>rfl
 | 2,_=>rfl
 | 3,_=>rfl
 | 4,_=>rfl
theorem OB:Pure prog 17 [] (.c (bI true)):=by
 have CO:=Dt (sh 0) (AJ.ok (by decide +kernel));refine av.intro func17 rfl rfl rfl (fun ok e=>?_)
 repeat (first | (refine K.binOp ?_;first | refine jq rfl rfl rfl (Qt.zu zw rfl rfl) ?_ | refine aK (show ((((fI x.1.2 (sh 0)).length:Nat):Int) != 2)=false from rfl) ?_) | (refine K.call ?_;refine JO.ld (Ld.bw CO (qb rfl) rfl (.cons (.agg (.of (by kernel_rfl))) .nil)) rfl ?_;intro x) | (refine K.lit ?_;first | (refine JO.ld (Ld.mW (mm:=[eL Ow]) (qb rfl) rfl rfl rfl rfl rfl rfl (.of (by exact rfl))) rfl (fun _=>?_)) | (refine JO.ld (Ld.mW (mm:=[eL Ox]) (qb rfl) rfl rfl rfl rfl rfl rfl (.of (by exact rfl))) rfl (fun _=>?_)) | (refine JO.ld (Ld.mW (mm:=[eG Hi,eG Oy]) (qb rfl) rfl rfl rfl rfl rfl rfl (.of (by exact rfl))) rfl (fun _=>?_)) | (refine JO.ld (Ld.mW (mm:=[[nI 0]]) (qb rfl) rfl rfl rfl rfl rfl rfl (.of (by exact rfl))) rfl (fun _=>?_)) | (refine JO.ld (Ld.mW (mm:=[eC Oz]) (qb rfl) rfl rfl rfl rfl rfl rfl (.of (by exact rfl))) rfl (fun _=>?_)) | (refine JO.ld (Ld.mW (mm:=[eS OA]) (qb rfl) rfl rfl rfl rfl rfl rfl (.of (by exact rfl))) rfl (fun _=>?_)) | (refine JO.ld (Ld.mW (mm:=[[ints []],[ints []]]) (qb rfl) rfl rfl rfl rfl rfl rfl (.of (by exact rfl))) rfl (fun _=>?_)) | (refine JO.ld (Ld.mW (mm:=([22,22,16,17,18]:List Int).map fun n=>[nI n]) (qb rfl) rfl rfl rfl rfl rfl rfl (.of (by exact rfl))) rfl (fun _=>?_))) | refine ay ?_ | intro _)
 obtain ⟨⟨b3,u⟩,hu⟩:=x;simp only at hu ⊢;refine J.dF 0 ?_;refine J.dF 0 ?_;refine J.loop (ι:={ q:Nat × U // q.1≤5∧cA q.2 (sh q.1)∧(sh q.1).gs.length=2 }) (fun q=>[(44,.c (nI q.1.1)),(43,.c (nI 5)),(42,.c (ints [22,22,16,17,18])),(3,.c (.v (pt b3)))]) (fun q=>wd b3 q.1.2 (sh q.1.1)) (fun q=>5 - q.1.1) ⟨(0,u),by omega,hu,rfl⟩ (fun X h=>h.bO ⟨rfl,rfl,rfl,rfl,trivial⟩) (fun q ih=>?_);obtain ⟨⟨n,v⟩,hn,hv,hl⟩:=q;simp only at hn hv hl ih ⊢
 by_cases h5:n < 5
 ·have t1:(decide ((n:Int) < 5))=true:=decide_eq_true (by omega);obtain ⟨f1,f2,f3,f4⟩:=ZA n h5;have C1:=On b3 v (sh n) 0 (AK.ok f1) hv;rw [f2] at C1;have A1:=ZB n h5;haveI:Sx.bt 0 (sh (n + 1)):=⟨by omega⟩
  have t2:((aa (sh (n + 1)) 0).place != ([22,22,16,17,18]:List Int).getD n 0)=false:=by rw [f3];simp
  repeat (first | (refine K.load ?_;((refine jq rfl rfl rfl (Qt.bM rfl (aP (g:=0) (s:=sh (n + 1))) (by exact rfl)) ?_))) | (refine K.indexAddr ?_;refine jq rfl rfl rfl (Qt.aV rfl rfl (cW (g:=0)) (cX (g:=0) (s:=sh (n + 1)))) ?_) | (refine K.call ?_;refine JO.ld (Ld.bw C1 (qb rfl) rfl (.cons .refl (.cons .refl .nil))) rfl ?_;intro y) | refine gn ?_)
  exact (ih ⟨(n + 1,y.1),by omega,y.2,f4⟩ (by simp only;omega)).bO ⟨rfl,rfl,rfl,rfl,trivial⟩
 ·have t1:(decide ((n:Int) < 5))=false:=decide_eq_false (by omega);have e5:n=5:=by omega
  subst e5;have CT:=Fy b3 v (sh 5) (AI.fw (by decide +kernel));have q1:(((sh 5).au.length:Int) == 1)=true:=by decide +kernel
  have q2:(((sh 5).gs.length:Int) == 2)=true:=by decide +kernel
  have q3:((aa (sh 5) 1).status == 0)=true:=by decide +kernel
  have q4:((aa (sh 5) 1).param == 0)=true:=by decide +kernel
  have A2:((sh 5).au.map eC)[((0:Int)).toNat]?=some (eC ⟨0,[],true,-1,[],[]⟩):=by kernel_rfl
  have A3:((sh 5).gs.map eG)[((1:Int)).toNat]?=some (eG (aa (sh 5) 1)):=gZ (by decide +kernel)
  repeat (first | (refine K.call ?_;refine JO.ld (Ld.bw CT (qb rfl) rfl (.cons .refl .nil)) rfl ?_;intro _) | refine ay ?_ | intro _)
  exact aC func17
end Fl
end Go.Proofs.YtdjhhbpedllnhaaGreat
