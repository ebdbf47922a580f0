/-
  What the laws need, part B33.
  Conditions: none.
-/
import Derived.Test.YtdjhhbpedllnhaaGreatB25
import Derived.Test.YtdjhhbpedllnhaaGreatB32
set_option linter.unusedVariables false
set_option linter.unusedSimpArgs false
set_option linter.unnecessarySimpa false
set_option maxHeartbeats 2000000
namespace Go.Proofs.YtdjhhbpedllnhaaGreat
open Go.RowKit
namespace Sx
def Ma:Pn.Op:=⟨9,0,0,0,[⟨false,1,0⟩],false⟩
def zP:Gr:=⟨[Ma],0,24,0,false,1,false,-1,-1,-1,0,0,0,-1,-1,⟨0,-1,0,false,0⟩,[0],[1],[],[],0⟩
def zQ:Cn:=⟨0,[],false,-1,[],[]⟩
def zR:Su:=⟨false,0,0,0,false,0,false⟩
def Wm:ah:=⟨1,1,1,[zP],[zQ],[zR],[[]],[],0,[],0,[]⟩
def ca:Nat→ah
 | 0=>Wm
 | n + 1=>(aR (ca n) 0).1
end Sx
namespace Fl
open Sx Go.Proofs.Tryz
set_option maxRecDepth 100000
section
variable {P:Program} {c:Cx} {f:Fm} {L:List aj} {T X:TypeId} {ps:String} {af:Array Edge} {gd:Option (Nat × Bool)} {t:Nat}
theorem Ld.Ct {e sz bytes:Nat} {z:Value} {zs:List Value} [E:gf P X e sz bytes z] [Z:bw P e zs] {x y:Operand} {kl kc:IntKind} {N:Int} {mm:List (List A)} (n:Nat) (ht:t < c.N) (hx:bg f x=some (.c (.v (.int kl N)))) (hy:bg f y=some (.c (.v (.int kc N)))) (hN:N=(n:Int)) (hb:n * bytes≤281474976710656) (hm:List.replicate n (vs zs)=mm) :
  Ld P c ⟨some t,.makeSlice X x y,T,ps,af,gd⟩ f L [] (fun _:Unit=>(t,.c (.r sz mm)) :: f) (fun _=>L):=by
 subst hm;exact ⟨fun a w s K Q hK =>
 (Ld.make (P:=P) (c:=c) (T:=T) (ps:=ps) (af:=af) (gd:=gd) (f:=f) (L:=L) (e:=e) (sz:=sz) (bytes:=bytes) (z:=z) (zs:=zs) (X:=X) (t:=t) n ht hx hy hN hb).go a w s K Q fun b u w' k' s' hf=>hK () u w' k' s'.freeze fun y hy=>hf y ((iR _ _ _).2 (.inr hy))⟩
variable {ops:Array Oper} {m:Option Nat} {n:Nat} {U:List Nat} {aU:Array Bool} {k:List Item} {f0:Fm} {L0:List aj}
theorem JD.Wn {i j q r:Nat} (hr:Region.ready .any ops aU=[i,j,q,r]) (h1:JS P c ops m U n aU k f L f0 L0 i) (h2:JS P c ops m U n aU k f L f0 L0 j) (h3:JS P c ops m U n aU k f L f0 L0 q) (h4:JS P c ops m U n aU k f L f0 L0 r):JD P c ops m U (n + 1) aU k f L f0 L0:=⟨fun a w w0 s s0 kp ho=>by
 refine ⟨fun h0=>(by rw [hr] at h0;cases h0),fun j hj=>?_⟩;rw [hr] at hj;simp at hj;rcases hj with rfl | rfl | rfl | rfl
 ·exact h1.go a w w0 s s0 kp ho
 ·exact h2.go a w w0 s s0 kp ho
 ·exact h3.go a w w0 s s0 kp ho
 ·exact h4.go a w w0 s s0 kp ho⟩
end
def zS (s:ah) (g:Nat):Bool :=
 Ci s g && tn s && decide ((aa s g).au.length≤1000∧(aa s g).aB.length≤1000∧(aa s g).order.length≤1000∧(aa s g).aq.length≤1000∧1≤(ag s g).cases.length∧(ag s g).cases.length≤6)
  && decide ((aa s g).place=24→0≤(aa s g).k∧(aa s g).k < (aa s g).aB.length∧aT s (ax (aa s g).aB (aa s g).k)=true)
  && decide ((aa s g).place=25∨(aa s g).place=28∨(aa s g).place=29→0≤(aa s g).k∧(aa s g).k < (aa s g).order.length∧0≤ax (aa s g).order (aa s g).k∧ax (aa s g).order (aa s g).k < (ag s g).cases.length
  ∧(aH (ag s g) (ax (aa s g).order (aa s g).k)).ch=1∧0 < s.av.length∧0≤(cn s 1).cap∧((cn s 1).buf.length:Int)≤(cn s 1).cap∧(cn s 1).recv=[]∧(cn s 1).send=[])
  && decide ((aa s g).place=28→g < s.cache.length∧((bn s g).2.2=true→0≤(bn s g).2.1∧(bn s g).2.1 < s.aA.length))
  && decide ((aa s g).place=28∨(aa s g).place=29→ax (aa s g).order (aa s g).k < (aa s g).aq.length)
  && decide ((aa s g).place=29→0≤ax (aa s g).aq (ax (aa s g).order (aa s g).k)∧ax (aa s g).aq (ax (aa s g).order (aa s g).k) < s.aA.length∧s.av.length=1)
  && decide ((aa s g).place=30→1≤(aa s g).k∧(aa s g).k≤(aa s g).aB.length∧aT s (ax (aa s g).aB ((aa s g).k - 1))=true∧(cn s (ax (aa s g).aB ((aa s g).k - 1))).lock=g)
  && (aa s g).aq.all (fun x=>decide (-1≤x))
  && ([14,26,27,31,32,33,34]:List Int).all (fun p=>decide ((aa s g).place≠p))
theorem zS.ok {s:ah} {g:Nat} (h:zS s g=true):Gf s g:=by
 unfold zS at h;simp only [Bool.and_eq_true,decide_eq_true_eq,List.all_eq_true] at h;obtain ⟨⟨⟨⟨⟨⟨⟨⟨⟨⟨h1,h2⟩,a1,a2,a3,a4,a5,a6⟩,h4⟩,h5⟩,h6⟩,h7⟩,h8⟩,h9⟩,hs⟩,hp⟩:=h;have n:∀ p,p∈([14,26,27,31,32,33,34]:List Int)→(aa s g).place≠p:=hp;have L8:=n 14 (by simp);have Wh:=n 26 (by simp);have Wi:=n 27 (by simp);have Wj:=n 31 (by simp);have Wk:=n 32 (by simp);have Wl:=n 33 (by simp);have L9:=n 34 (by simp);refine ⟨Ci.ok h1,tn.qs h2,a1,a2,fun _ e=>h4 (by omega),fun _ e=>?_,fun _ _=>⟨a5,a6⟩,fun _ e=>absurd e (by omega),fun _ e=>h6 e,fun _ e=>h7 e,fun _ e=>?_,fun _ e=>h9 (by omega),fun _ _=>⟨a4,hs⟩,fun _ e=>absurd e L8,fun _ e=>absurd e (by omega),fun _ e=>absurd e L9⟩
 ·obtain ⟨b1,b2,b3,b4,b5,b6,b7,b8,b9,mu⟩:=h5 (by omega);exact ⟨0,⟨b1,b2,a3,b3,b4,⟨b5,b6,by omega,b7,b8⟩⟩,fun _=>⟨fun i r hr=>(by rw [show ((0:Nat):Int) + 1=1 from rfl,b9] at hr;cases hr),fun i r hr=>(by rw [show ((0:Nat):Int) + 1=1 from rfl,mu] at hr;cases hr)⟩⟩
 ·obtain ⟨c1,c2,c3⟩:=h8 e;obtain ⟨b1,b2,b3,b4,b5,b6,b7,b8,b9,mu⟩:=h5 (by omega);refine ⟨c1,c2,fun c=>?_⟩;rcases zD s c with ⟨c',a,b',e1⟩ | e1
  ·rw [e1,show c'=1 by omega,b9,mu];simp
  ·rw [e1];simp [oF]
theorem Wo:∀ n:Nat,n < 6→zS (ca n) 0=true∧(aR (ca n) 0).2=true∧(aa (ca (n + 1)) 0).place=([25,28,29,30,13,14]:List Int).getD n 0∧(ca (n + 1)).gs.length=1:=by
 intro n hn
 match n,hn with
 | 0,_=>decide +kernel
 | 1,_=>decide +kernel
 | 2,_=>decide +kernel
 | 3,_=>decide +kernel
 | 4,_=>decide +kernel
 | 5,_=>decide +kernel
theorem Wp:∀ n:Nat,n < 6→(([25,28,29,30,13,14]:List Int).map fun n=>[nI n])[((n:Nat):Int).toNat]?=some [nI (([25,28,29,30,13,14]:List Int).getD n 0)]:=by
 intro n hn
 match n,hn with
 | 0,_=>rfl
 | 1,_=>rfl
 | 2,_=>rfl
 | 3,_=>rfl
 | 4,_=>rfl
 | 5,_=>rfl
theorem wR:Pure prog 25 [] (.c (bI true)):=by
 have CO:=Cf (ca 0) (Cg.ok (by decide +kernel));refine an.intro func25 rfl rfl rfl (fun ok e=>?_)
 repeat (first | (refine K.lit ?_;first | (refine JO.ld (Ld.kF (mm:=[mc ⟨false,1,0⟩]) (qb rfl) rfl rfl rfl rfl rfl rfl (.of (by exact rfl))) rfl (fun _=>?_)) | (refine JO.ld (Ld.kF (mm:=[dH Ma]) (qb rfl) rfl rfl rfl rfl rfl rfl (.of (by exact rfl))) rfl (fun _=>?_)) | (refine JO.ld (Ld.kF (mm:=([0]:List Int).map fun n=>[nI n]) (qb rfl) rfl rfl rfl rfl rfl rfl (.of (by exact rfl))) rfl (fun _=>?_)) | (refine JO.ld (Ld.kF (mm:=([1]:List Int).map fun n=>[nI n]) (qb rfl) rfl rfl rfl rfl rfl rfl (.of (by exact rfl))) rfl (fun _=>?_))) | refine ay ?_ | intro _)
 refine J.join (ι:={ x:Nat × U // bY x.2 (ca 0) }) (fun x=>[(2,.c (.v (pt x.1.1)))]) (fun x=>wd x.1.1 x.1.2 (ca 0)) (fun x=>?_) (fun rest=>?_)
 rotate_left
 ·refine J.draw (by kernel_rfl) rfl ?_;refine JW.base (some 8) ?_;refine JD.bz 0 rfl rfl (by kernel_rfl) rfl (qb rfl) (Qt.build rfl (by kernel_rfl)) rfl ?_
  first | refine JD.bz 1 rfl rfl (by kernel_rfl) rfl (qb rfl) (Qt.xq rfl (by exact rfl) (by exact rfl)) rfl ?_ | refine JD.bz 1 rfl rfl (by kernel_rfl) rfl (qb rfl) (Qt.tI rfl (by exact rfl)) rfl ?_ | refine JD.bz 1 rfl rfl (by kernel_rfl) rfl (qb rfl) (Qt.tH rfl .el rfl rfl) rfl ?_
  refine JD.bz 3 rfl rfl (by kernel_rfl) rfl (qb rfl) (Qt.build rfl (by kernel_rfl)) rfl ?_;refine JD.Wn (i:=2) (j:=4) (q:=5) (r:=6) (by kernel_rfl) ?_ ?_ ?_ ?_
  all_goals first | refine JS.bZ rfl rfl rfl (qb rfl) (Ld.kF (mm:=[eG zP]) (qb rfl) rfl rfl rfl rfl rfl rfl (.of (by exact rfl))) .nil (fun _=>?_) | refine JS.bZ rfl rfl rfl (qb rfl) (Ld.kF (mm:=[eC zQ]) (qb rfl) rfl rfl rfl rfl rfl rfl (.of (by exact rfl))) .nil (fun _=>?_) | refine JS.bZ rfl rfl rfl (qb rfl) (Ld.Ct (mm:=[eS zR]) 1 (qb rfl) rfl rfl rfl (by decide) (by exact rfl)) .nil (fun _=>?_) | refine JS.bZ rfl rfl rfl (qb rfl) (Ld.kF (mm:=[[ints []]]) (qb rfl) rfl rfl rfl rfl rfl rfl (.of (by exact rfl))) .nil (fun _=>?_)
  all_goals first | refine JD.vq (i:=2) (j:=4) (q:=5) (by decide +kernel) ?_ ?_ ?_ | refine JD.vq (i:=2) (j:=4) (q:=6) (by decide +kernel) ?_ ?_ ?_ | refine JD.vq (i:=2) (j:=5) (q:=6) (by decide +kernel) ?_ ?_ ?_ | refine JD.vq (i:=4) (j:=5) (q:=6) (by decide +kernel) ?_ ?_ ?_
  all_goals first | refine JS.bZ rfl rfl rfl (qb rfl) (Ld.kF (mm:=[eG zP]) (qb rfl) rfl rfl rfl rfl rfl rfl (.of (by exact rfl))) .nil (fun _=>?_) | refine JS.bZ rfl rfl rfl (qb rfl) (Ld.kF (mm:=[eC zQ]) (qb rfl) rfl rfl rfl rfl rfl rfl (.of (by exact rfl))) .nil (fun _=>?_) | refine JS.bZ rfl rfl rfl (qb rfl) (Ld.Ct (mm:=[eS zR]) 1 (qb rfl) rfl rfl rfl (by decide) (by exact rfl)) .nil (fun _=>?_) | refine JS.bZ rfl rfl rfl (qb rfl) (Ld.kF (mm:=[[ints []]]) (qb rfl) rfl rfl rfl rfl rfl rfl (.of (by exact rfl))) .nil (fun _=>?_)
  all_goals first | refine JD.cU (i:=2) (j:=4) (by decide +kernel) ?_ ?_ | refine JD.cU (i:=2) (j:=5) (by decide +kernel) ?_ ?_ | refine JD.cU (i:=2) (j:=6) (by decide +kernel) ?_ ?_ | refine JD.cU (i:=4) (j:=5) (by decide +kernel) ?_ ?_ | refine JD.cU (i:=4) (j:=6) (by decide +kernel) ?_ ?_ | refine JD.cU (i:=5) (j:=6) (by decide +kernel) ?_ ?_
  all_goals first | refine JS.bZ rfl rfl rfl (qb rfl) (Ld.kF (mm:=[eG zP]) (qb rfl) rfl rfl rfl rfl rfl rfl (.of (by exact rfl))) .nil (fun _=>?_) | refine JS.bZ rfl rfl rfl (qb rfl) (Ld.kF (mm:=[eC zQ]) (qb rfl) rfl rfl rfl rfl rfl rfl (.of (by exact rfl))) .nil (fun _=>?_) | refine JS.bZ rfl rfl rfl (qb rfl) (Ld.Ct (mm:=[eS zR]) 1 (qb rfl) rfl rfl rfl (by decide) (by exact rfl)) .nil (fun _=>?_) | refine JS.bZ rfl rfl rfl (qb rfl) (Ld.kF (mm:=[[ints []]]) (qb rfl) rfl rfl rfl rfl rfl rfl (.of (by exact rfl))) .nil (fun _=>?_)
  all_goals first | refine JD.gU (i:=2) (by decide +kernel) ?_ | refine JD.gU (i:=4) (by decide +kernel) ?_ | refine JD.gU (i:=5) (by decide +kernel) ?_ | refine JD.gU (i:=6) (by decide +kernel) ?_
  all_goals first | refine JS.bZ rfl rfl rfl (qb rfl) (Ld.kF (mm:=[eG zP]) (qb rfl) rfl rfl rfl rfl rfl rfl (.of (by exact rfl))) .nil (fun _=>?_) | refine JS.bZ rfl rfl rfl (qb rfl) (Ld.kF (mm:=[eC zQ]) (qb rfl) rfl rfl rfl rfl rfl rfl (.of (by exact rfl))) .nil (fun _=>?_) | refine JS.bZ rfl rfl rfl (qb rfl) (Ld.Ct (mm:=[eS zR]) 1 (qb rfl) rfl rfl rfl (by decide) (by exact rfl)) .nil (fun _=>?_) | refine JS.bZ rfl rfl rfl (qb rfl) (Ld.kF (mm:=[[ints []]]) (qb rfl) rfl rfl rfl rfl rfl rfl (.of (by exact rfl))) .nil (fun _=>?_)
  all_goals
   refine JD.lB ?_;refine tk 7 ?_;refine JD.gU (i:=8) (by kernel_rfl) ?_;refine JS.last rfl rfl (Ld.aY CO (qb rfl) rfl (.cons (.agg (.of (by kernel_rfl))) .nil)) (fun x=>?_);refine JW.base none ?_;refine tk 9 ?_;refine bE ?_;refine J.cS 0 ?_;exact (rest x).aW ⟨rfl,trivial⟩
 obtain ⟨⟨b3,u⟩,hu⟩:=x;simp only at hu ⊢
 repeat (first | (refine K.binOp ?_;first | refine jq rfl rfl rfl (Qt.yI yJ rfl rfl) ?_ | refine aQ (show ((((dQ u (ca 0)).length:Nat):Int) != 1)=false from rfl) ?_) | (refine K.lit ?_;refine JO.ld (Ld.kF (mm:=([25,28,29,30,13,14]:List Int).map fun n=>[nI n]) (qb rfl) rfl rfl rfl rfl rfl rfl (.of (by exact rfl))) rfl (fun _=>?_)) | refine gn ?_)
 refine J.loop (ι:={ q:Nat × U // q.1≤6∧bY q.2 (ca q.1)∧(ca q.1).gs.length=1 }) (fun q=>[(35,.c (nI q.1.1)),(34,.c (nI 6)),(33,.c (ints [25,28,29,30,13,14])),(2,.c (.v (pt b3)))]) (fun q=>wd b3 q.1.2 (ca q.1.1)) (fun q=>6 - q.1.1) ⟨(0,u),by omega,hu,rfl⟩ (fun X h=>h.aW ⟨rfl,rfl,rfl,rfl,trivial⟩) (fun q ih=>?_);obtain ⟨⟨n,v⟩,hn,hv,hl⟩:=q;simp only at hn hv hl ih ⊢
 by_cases h5:n < 6
 ·have t1:(decide ((n:Int) < 6))=true:=decide_eq_true (by omega);obtain ⟨f1,f2,f3,f4⟩:=Wo n h5;have C1:=Cr b3 v (ca n) 0 (zS.ok f1) hv;rw [f2] at C1;have A1:=Wp n h5;haveI:Sx.bJ 0 (ca (n + 1)):=⟨by omega⟩
  have t2:((aa (ca (n + 1)) 0).place != ([25,28,29,30,13,14]:List Int).getD n 0)=false:=by rw [f3];simp
  repeat (first | (refine K.load ?_;((refine jq rfl rfl rfl (Qt.aL rfl (aN (g:=0) (s:=ca (n + 1))) (by exact rfl)) ?_))) | (refine K.indexAddr ?_;refine jq rfl rfl rfl (Qt.aI rfl rfl (cL (g:=0)) (cM (g:=0) (s:=ca (n + 1)))) ?_) | (refine K.call ?_;refine JO.ld (Ld.aY C1 (qb rfl) rfl (.cons .refl (.cons .refl .nil))) rfl ?_;intro y) | refine gn ?_)
  exact (ih ⟨(n + 1,y.1),by omega,y.2,f4⟩ (by simp only;omega)).aW ⟨rfl,rfl,rfl,rfl,trivial⟩
 ·have t1:(decide ((n:Int) < 6))=false:=decide_eq_false (by omega);have e5:n=6:=by omega
  subst e5;have CT:=AQ b3 v (ca 6) (zJ.fw (by decide +kernel));have A2:((ca 6).av.map eC)[((0:Int)).toNat]?=some (eC ⟨0,[],false,-1,[0],[]⟩):=by kernel_rfl
  have A3:((ca 6).gs.map eG)[((0:Int)).toNat]?=some (eG (aa (ca 6) 0)):=iB (by decide +kernel);have q1:(((ca 6).gs.length:Int) == 1)=true:=by decide +kernel
  have q2:((aa (ca 6) 0).status == 1)=true:=by decide +kernel
  have q3:(((ca 6).av.length:Int) == 1)=true:=by decide +kernel
  have q4:(((([0]:List Int).length:Nat):Int) == 1)=true:=rfl;have q5:((-1:Int) == -1)=true:=rfl
  repeat (first | (refine K.call ?_;refine JO.ld (Ld.aY CT (qb rfl) rfl (.cons .refl .nil)) rfl ?_;intro _) | refine ay ?_ | intro _)
  exact aD func25
end Fl
end Go.Proofs.YtdjhhbpedllnhaaGreat
