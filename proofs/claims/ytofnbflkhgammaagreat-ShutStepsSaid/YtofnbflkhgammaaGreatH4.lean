/-
  What the laws need, part H4.
  Conditions: none.
-/
import Derived.Test.YtofnbflkhgammaaGreatH3
set_option linter.unusedVariables false
set_option linter.unusedSimpArgs false
set_option linter.unnecessarySimpa false
set_option maxHeartbeats 2000000
namespace Go.Proofs.YtofnbflkhgammaaGreat
open Go.RowKit
namespace Sx
def NG:Pn.Op:=⟨6,1,0,0,[],false⟩
def NH:Pn.Op:=⟨3,1,0,0,[],false⟩
def GB:Gr:=⟨[NG],0,21,0,false,10,false,-1,-1,-1,0,0,0,-1,-1,⟨0,-1,0,false,0⟩,[],[],[],[],0⟩
def NI:Gr:={ GB with ops:=[NH],place:=14,status:=1,call:=1,jn:=7,aK:=0 }
def NJ:Cn:=⟨0,[],false,0,[0],[]⟩
def NK:Su:=⟨true,1,1,-1,false,0,false⟩
def Zj:St:=⟨1,1,12,[GB,NI],[NJ],[NK],[[],[]],[],1,[],0,[]⟩
def sh:Nat→St
 | 0=>Zj
 | n + 1=>(cD (sh n) 0).1
end Sx
namespace Fl
open Sx
set_option maxRecDepth 100000
theorem Zk:∀ n:Nat,n < 5→zI (sh n) 0=true∧(cD (sh n) 0).2=true∧(Sx.gr (sh (n + 1)) 0).place=([22,22,16,17,18]:List Int).getD n 0∧(sh (n + 1)).gs.length=2:=by
 intro n hn
 match n,hn with
 | 0,_=>decide +kernel
 | 1,_=>decide +kernel
 | 2,_=>decide +kernel
 | 3,_=>decide +kernel
 | 4,_=>decide +kernel
theorem Zl:∀ n:Nat,n < 5→(([22,22,16,17,18]:List Int).map fun n=>[nI n])[((n:Nat):Int).toNat]?=some [nI (([22,22,16,17,18]:List Int).getD n 0)]:=by
 intro n hn
 match n,hn with
 | 0,_=>rfl
 | 1,_=>rfl
 | 2,_=>rfl
 | 3,_=>rfl
 | 4,_=>rfl
theorem NL:Pure Tryz.prog 32 [] (.c (bI true)):=by
 have CO:=Cm (sh 0) (Cp.ok (by decide +kernel));refine aq.intro Tryz.func32 rfl rfl rfl (fun ok e=>?_)
 repeat (first | (refine K.binOp ?_;first | refine jq rfl rfl rfl (Qt.za zb rfl rfl) ?_ | refine aM (show ((((dc x.1.2 (sh 0)).length:Nat):Int) != 2)=false from rfl) ?_) | (refine K.call ?_;refine JO.ld (Ld.bU CO (qb rfl) rfl (.cons (.agg (.of (by kernel_rfl))) .nil)) rfl ?_;intro x) | (refine K.lit ?_;first | (refine JO.ld (Ld.tC (mm:=[dO NG]) (qb rfl) rfl rfl rfl rfl rfl rfl (.of (by exact rfl))) rfl (fun _=>?_)) | (refine JO.ld (Ld.tC (mm:=[dO NH]) (qb rfl) rfl rfl rfl rfl rfl rfl (.of (by exact rfl))) rfl (fun _=>?_)) | (refine JO.ld (Ld.tC (mm:=[eG GB,eG NI]) (qb rfl) rfl rfl rfl rfl rfl rfl (.of (by exact rfl))) rfl (fun _=>?_)) | (refine JO.ld (Ld.tC (mm:=[[nI 0]]) (qb rfl) rfl rfl rfl rfl rfl rfl (.of (by exact rfl))) rfl (fun _=>?_)) | (refine JO.ld (Ld.tC (mm:=[eC NJ]) (qb rfl) rfl rfl rfl rfl rfl rfl (.of (by exact rfl))) rfl (fun _=>?_)) | (refine JO.ld (Ld.tC (mm:=[eS NK]) (qb rfl) rfl rfl rfl rfl rfl rfl (.of (by exact rfl))) rfl (fun _=>?_)) | (refine JO.ld (Ld.tC (mm:=[[ints []],[ints []]]) (qb rfl) rfl rfl rfl rfl rfl rfl (.of (by exact rfl))) rfl (fun _=>?_)) | (refine JO.ld (Ld.tC (mm:=([22,22,16,17,18]:List Int).map fun n=>[nI n]) (qb rfl) rfl rfl rfl rfl rfl rfl (.of (by exact rfl))) rfl (fun _=>?_))) | refine au ?_ | intro _)
 obtain ⟨⟨b3,u⟩,hu⟩:=x;simp only at hu ⊢;refine J.eF 0 ?_;refine J.eF 0 ?_;refine J.loop (ι:={ q:Nat × U // q.1≤5∧dH q.2 (sh q.1)∧(sh q.1).gs.length=2 }) (fun q=>[(44,.c (nI q.1.1)),(43,.c (nI 5)),(42,.c (ints [22,22,16,17,18])),(3,.c (.v (pt b3)))]) (fun q=>wd b3 q.1.2 (sh q.1.1)) (fun q=>5 - q.1.1) ⟨(0,u),by omega,hu,rfl⟩ (fun X h=>h.aU ⟨rfl,rfl,rfl,rfl,trivial⟩) (fun q ih=>?_);obtain ⟨⟨n,v⟩,hn,hv,hl⟩:=q;simp only at hn hv hl ih ⊢
 by_cases h5:n < 5
 ·have t1:(decide ((n:Int) < 5))=true:=decide_eq_true (by omega);obtain ⟨f1,f2,f3,f4⟩:=Zk n h5;have C1:=Nw b3 v (sh n) 0 (zI.ok f1) hv;rw [f2] at C1;have A1:=Zl n h5;haveI:Sx.cy 0 (sh (n + 1)):=⟨by omega⟩
  have t2:((Sx.gr (sh (n + 1)) 0).place != ([22,22,16,17,18]:List Int).getD n 0)=false:=by rw [f3];simp
  repeat (first | (refine K.load ?_;((refine jq rfl rfl rfl (Qt.cJ rfl (cF (g:=0) (s:=sh (n + 1))) (by exact rfl)) ?_))) | (refine K.indexAddr ?_;refine jq rfl rfl rfl (Qt.bF rfl rfl (fo (g:=0)) (fq (g:=0) (s:=sh (n + 1)))) ?_) | (refine K.call ?_;refine JO.ld (Ld.bU C1 (qb rfl) rfl (.cons .refl (.cons .refl .nil))) rfl ?_;intro y) | refine gn ?_)
  exact (ih ⟨(n + 1,y.1),by omega,y.2,f4⟩ (by simp only;omega)).aU ⟨rfl,rfl,rfl,rfl,trivial⟩
 ·have t1:(decide ((n:Int) < 5))=false:=decide_eq_false (by omega);have e5:n=5:=by omega
  subst e5;have CT:=uu b3 v (sh 5) (zH.fw (by decide +kernel));have q1:(((sh 5).an.length:Int) == 1)=true:=by decide +kernel
  have q2:(((sh 5).gs.length:Int) == 2)=true:=by decide +kernel
  have q3:((Sx.gr (sh 5) 1).status == 0)=true:=by decide +kernel
  have q4:((Sx.gr (sh 5) 1).param == 0)=true:=by decide +kernel
  have A2:((sh 5).an.map eC)[((0:Int)).toNat]?=some (eC ⟨0,[],true,-1,[],[]⟩):=by kernel_rfl
  have A3:((sh 5).gs.map eG)[((1:Int)).toNat]?=some (eG (Sx.gr (sh 5) 1)):=iA (by decide +kernel)
  repeat (first | (refine K.call ?_;refine JO.ld (Ld.bU CT (qb rfl) rfl (.cons .refl .nil)) rfl ?_;intro _) | refine au ?_ | intro _)
  exact az Tryz.func32
end Fl
end Go.Proofs.YtofnbflkhgammaaGreat
