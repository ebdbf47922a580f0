/-
  What the laws need, part RA4.
  Conditions: none.
-/
import Derived.Test.YtofnbflkhgammaaGreatD46
import Derived.Test.YtofnbflkhgammaaGreatRA3
set_option linter.unusedVariables false
set_option linter.unusedSimpArgs false
set_option linter.unnecessarySimpa false
set_option maxHeartbeats 2000000
namespace Go.Proofs.YtofnbflkhgammaaGreat
open Go.RowKit
namespace Sx
def aaL:Pn.Op:=⟨3,1,0,0,[],false⟩
def aaM:Pn.Op:=⟨6,1,0,0,[],false⟩
def reG:Gr:=⟨[aaL],0,4,0,false,8,false,-1,-1,-1,0,0,0,-1,-1,⟨0,-1,0,false,0⟩,[],[],[],[],0⟩
def reH:Gr:={ reG with ops:=[aaM],call:=0,place:=0,status:=2,at_:=1 }
def reK:Cn:=⟨0,[],true,-1,[],[]⟩
def re0:ah:=⟨0,1,8,[reG,reH],[reK],[],[[],[]],[],0,[],0,[]⟩
def re:Nat→ah
 | 0=>re0
 | n + 1=>(bR (re n) 0).1
end Sx
namespace Fl
open Sx Go.Proofs.Tryz
set_option maxRecDepth 100000
def reC (s:ah) (g:Nat):Bool :=
 Dp s g && uo s && decide ((aa s g).an.length≤1000∧1≤(ag s g).ch∧(ag s g).ch≤s.au.length∧0≤(Sx.cn s (ag s g).ch).cap∧((Sx.cn s (ag s g).ch).buf.length:Int)≤(Sx.cn s (ag s g).ch).cap∧(Sx.cn s (ag s g).ch).send=[])
  && ([7,8,10,11,14]:List Int).all (fun p=>decide ((aa s g).place≠p))
theorem reC.ok {s:ah} {g:Nat} (h:reC s g=true):aaq s g:=by
 unfold reC at h;simp only [Bool.and_eq_true,decide_eq_true_eq,List.all_eq_true] at h;obtain ⟨⟨⟨h1,h2⟩,a1,a2,a3,a4,a5,a6⟩,h4⟩:=h;have C:=Dp.ok h1;have c8:=C.c8;have n:∀ p,p∈([7,8,10,11,14]:List Int)→(aa s g).place≠p:=h4;refine ⟨C,uo.qs h2,a1,fun _ _ _ _=>⟨((ag s g).ch - 1).toNat,by omega,by omega,by omega,?_,?_⟩,fun _ _ i r hr=>(by rw [a6] at hr;cases hr),fun _ e=>?_,fun e=>absurd e (n 10 (by simp)),fun _ e=>absurd e (n 11 (by simp)),fun _ e=>absurd e (n 14 (by simp))⟩
 ·rw [show ((((ag s g).ch - 1).toNat:Nat):Int) + 1=(ag s g).ch by omega];exact a4
 ·rw [show ((((ag s g).ch - 1).toNat:Nat):Int) + 1=(ag s g).ch by omega];exact a5
 ·rcases e with e | e
  ·exact absurd e (n 7 (by simp))
  ·exact absurd e (n 8 (by simp))
theorem abw:∀ n:Nat,n < 3→reC (re n) 0=true∧(bR (re n) 0).2=true∧(aa (re (n + 1)) 0).place=([5,16,18]:List Int).getD n 0∧(re (n + 1)).gs.length=2:=by
 intro n hn
 match n,hn with
 | 0,_=>decide +kernel
 | 1,_=>decide +kernel
 | 2,_=>decide +kernel
theorem abx:∀ n:Nat,n < 3→(([5,16,18]:List Int).map fun n=>[nI n])[((n:Nat):Int).toNat]?=some [nI (([5,16,18]:List Int).getD n 0)]:=by
 intro n hn
 match n,hn with
 | 0,_=>rfl
 | 1,_=>rfl
 | 2,_=>rfl
theorem aaR:Pure prog 43 [] (.c (bI true)):=by
 have CO:=Dm (re 0) (Dn.ok (by decide +kernel));refine ax.intro func43 rfl rfl rfl (fun ok e=>?_)
 repeat (first | (refine K.binOp ?_;first | refine jq rfl rfl rfl (Qt.BX BY rfl rfl) ?_ | refine aL (show ((((fB x.1.2 (re 0)).length:Nat):Int) != 2)=false from rfl) ?_) | (refine K.call ?_;refine JO.ld (Ld.aV CO (qb rfl) rfl (.cons (.agg (.of (by kernel_rfl))) .nil)) rfl ?_;intro x) | (refine K.lit ?_;first | (refine JO.ld (Ld.w9 (mm:=[dH aaL]) (qb rfl) rfl rfl rfl rfl rfl rfl (.of (by exact rfl))) rfl (fun _=>?_)) | (refine JO.ld (Ld.w9 (mm:=[dH aaM]) (qb rfl) rfl rfl rfl rfl rfl rfl (.of (by exact rfl))) rfl (fun _=>?_)) | (refine JO.ld (Ld.w9 (mm:=[eG reG,eG reH]) (qb rfl) rfl rfl rfl rfl rfl rfl (.of (by exact rfl))) rfl (fun _=>?_)) | (refine JO.ld (Ld.w9 (mm:=[eC reK]) (qb rfl) rfl rfl rfl rfl rfl rfl (.of (by exact rfl))) rfl (fun _=>?_)) | (refine JO.ld (Ld.w9 (mm:=[[ints []],[ints []]]) (qb rfl) rfl rfl rfl rfl rfl rfl (.of (by exact rfl))) rfl (fun _=>?_)) | (refine JO.ld (Ld.w9 (mm:=([5,16,18]:List Int).map fun n=>[nI n]) (qb rfl) rfl rfl rfl rfl rfl rfl (.of (by exact rfl))) rfl (fun _=>?_))) | refine av ?_ | intro _)
 obtain ⟨⟨b3,u⟩,hu⟩:=x;simp only at hu ⊢;refine J.eP 0 ?_;refine J.eP 0 ?_;refine J.loop (ι:={ q:Nat × U // q.1≤3∧dG q.2 (re q.1)∧(re q.1).gs.length=2 }) (fun q=>[(39,.c (nI q.1.1)),(38,.c (nI 3)),(37,.c (ints [5,16,18])),(3,.c (.v (pt b3)))]) (fun q=>wd b3 q.1.2 (re q.1.1)) (fun q=>3 - q.1.1) ⟨(0,u),by omega,hu,rfl⟩ (fun X h=>h.aW ⟨rfl,rfl,rfl,rfl,trivial⟩) (fun q ih=>?_);obtain ⟨⟨n,v⟩,hn,hv,hl⟩:=q;simp only at hn hv hl ih ⊢
 by_cases h5:n < 3
 ·have t1:(decide ((n:Int) < 3))=true:=decide_eq_true (by omega);obtain ⟨f1,f2,f3,f4⟩:=abw n h5;have C1:=aaK b3 v (re n) 0 (reC.ok f1) hv;rw [f2] at C1;have A1:=abx n h5;haveI:Sx.bT 0 (re (n + 1)):=⟨by omega⟩
  have t2:((aa (re (n + 1)) 0).place != ([5,16,18]:List Int).getD n 0)=false:=by rw [f3];simp
  repeat (first | (refine K.load ?_;((refine jq rfl rfl rfl (Qt.cE rfl (bX (g:=0) (s:=re (n + 1))) (by exact rfl)) ?_))) | (refine K.indexAddr ?_;refine jq rfl rfl rfl (Qt.bM rfl rfl (eB (g:=0)) (eD (g:=0) (s:=re (n + 1)))) ?_) | (refine K.call ?_;refine JO.ld (Ld.aV C1 (qb rfl) rfl (.cons .refl (.cons .refl .nil))) rfl ?_;intro y) | refine gn ?_)
  exact (ih ⟨(n + 1,y.1),by omega,y.2,f4⟩ (by simp only;omega)).aW ⟨rfl,rfl,rfl,rfl,trivial⟩
 ·have t1:(decide ((n:Int) < 3))=false:=decide_eq_false (by omega);have e5:n=3:=by omega
  subst e5;have q2:((aa (re 3) 0).bQ == 8)=true:=by decide +kernel
  haveI:Sx.bT 0 (re 3):=⟨by decide +kernel⟩
  haveI:Sx.dY (re 3) 0 { aa (re 3) 0 with res:=⟨1,-1,0,false,0⟩ }:=⟨by kernel_rfl⟩
  repeat (first | (refine K.load ?_;first | refine jq rfl rfl rfl (Qt.cE rfl (bX (g:=0) (s:=re 3)) rfl) ?_ | refine jq rfl rfl rfl (Qt.aaS rfl (bX (g:=0) (s:=re 3)) rfl rfl) ?_) | (refine K.indexAddr ?_;refine jq rfl rfl rfl (Qt.bM rfl rfl (eB (g:=0)) (eD (g:=0) (s:=re 3))) ?_) | (refine K.binOp ?_;refine jq rfl rfl rfl (Qt.FA [.int .i64 1,.int .i64 (-1),.int .i64 0,.bool false,.int .i64 0] rfl rfl (fun w=>FF w _ _ _ _ _) FD) ?_) | refine gn ?_)
  refine J.CH b3 ?_;exact aA func43
end Fl
open Go.RowKit
namespace Fl
open Sx Go.Proofs.Tryz
set_option maxRecDepth 100000
theorem aby (p:List (List Pn.Op)) (sn cn:Int) (d l:List Int) (hd:∀ x∈d,0≤x∧x < 65536) :
  Pure prog 12 [.agg (mO p sn cn d),.c (ints l)] (.c (bI true)):=by
 have CR:=Hr p sn cn d l hd;have HG:=Hq (p:=p) (sn:=sn) (cn:=cn) (l:=l) hd;generalize j8 p sn cn d l=r at CR HG;obtain ⟨s,o⟩:=r;refine ax.intro func12 rfl rfl rfl (fun ok e=>?_)
 cases o with
 | false =>
  repeat (first | (refine K.store ?_;refine JO.ld (Ld.aX rfl rfl rfl (by exact rfl) (by exact rfl)) rfl (fun _=>?_)) | refine kU (aaR) ?_ | refine av ?_ | intro _)
  exact aA func12
 | true =>
 have G:Sx.Good s:=HG rfl;have g8:=G.n8;clear HG
 repeat (first | (refine K.store ?_;refine JO.ld (Ld.aX rfl rfl rfl (by exact rfl) (by exact rfl)) rfl (fun _=>?_)) | refine kU (aaR) ?_ | refine av ?_ | intro _)
 rename_i b2 b5 _;refine J.loop (ι:={ k:Nat // k≤s.gs.length }) (fun q=>[(26,.c (nI q.1)),(25,.c (nI s.gs.length)),(24,.c (.r 25 (s.gs.map eG))),(5,.c (.v (pt b5)))]) (fun _=>[.box b5 36 (az s),.box b2 27 (mO p sn cn d)]) (fun q=>s.gs.length - q.1) ⟨0,Nat.zero_le _⟩ (fun X h=>h.aW ⟨rfl,rfl,rfl,rfl,trivial⟩) (fun q ih=>?_);obtain ⟨g,hk⟩:=q;simp only at hk ih ⊢
 by_cases hg:g < s.gs.length
 ·have t1:(decide ((g:Int) < (s.gs.length:Int)))=true:=by simpa using hg
  cases st:((aa s g).status != 0) with
  | true =>
   repeat (first | (refine K.store ?_;refine JO.ld (Ld.aX rfl rfl rfl (by exact rfl) (by exact rfl)) rfl (fun _=>?_)) | refine av ?_ | intro _)
   refine J.eP 0 ?_;exact (ih ⟨g + 1,by omega⟩ (by simp only;omega)).aW ⟨rfl,rfl,rfl,rfl,trivial⟩
  | false =>
  have lC:(aa s g).status=0:=by simpa using st
  have CO:=Dm s (Hp G);have C2:=abt s g (Y4 G hg lC);have BG:=xV (abu G hg lC);have CS:=Iy (bR s g).1 (Bd.fe BG (by omega));have FW:=Bd.fw BG (by omega);have C1:=fun b u hu=>aaK b u s g (abr G hg lC) hu
  generalize bR s g=r at C1 C2 CS FW BG;obtain ⟨s2,o2⟩:=r;simp only at C1 C2 CS FW
  repeat (first | (refine K.store ?_;refine JO.ld (Ld.aX rfl rfl rfl (by exact rfl) (by exact rfl)) rfl (fun _=>?_)) | (refine K.binOp ?_;refine jq rfl rfl rfl (Qt.BX BY rfl rfl) ?_) | (refine K.call ?_;refine JO.ld (Ld.aV CO (qb rfl) rfl (.cons .refl .nil)) rfl ?_;intro x) | refine av ?_ | intro _)
  obtain ⟨⟨b8,u⟩,hu⟩:=x;simp only at hu ⊢;have C1:=C1 b8 u hu
  repeat (first | (refine K.store ?_;refine JO.ld (Ld.aX rfl rfl rfl (by exact rfl) (by exact rfl)) rfl (fun _=>?_)) | (refine K.call ?_;(refine JO.ld (Ld.aV C1 (qb rfl) rfl (.cons .refl (.cons .refl .nil))) rfl ?_;intro y)) | refine av ?_ | intro _)
  have CT:=BP b8 y.1 s2 FW
  cases o2
  all_goals
   refine J.draw (by kernel_rfl) rfl ?_;refine JW.p7 none ?_;refine tk 0 ?_;refine tk 1 ?_;refine tk 2 ?_;refine tk 3 ?_;refine tk 4 ?_;refine JD.cU (i:=5) (j:=6) (by kernel_rfl) ?_ ?_;refine JS.sW rfl rfl rfl (qb rfl) (Ld.aV CT (qb rfl) rfl (.cons .refl .nil)) (eW.aT) (fun _=>?_);refine jk 6 rfl rfl rfl rfl (Qt.sZ rfl (by exact rfl)) ?_;refine JD.bJ (i:=7) (by kernel_rfl) ?_;refine JS.sW rfl rfl rfl (qb rfl) (Ld.pure (CS) (qb rfl) rfl (by repeat (first | exact aK.nil | refine aK.cons (dB.agg (by repeat (first | exact .nil | refine .cons .refl ?_))) ?_))) (eW.nil) (fun _=>?_);refine tk 8 ?_;refine jk 9 rfl rfl rfl rfl (Qt.pick rfl rfl) ?_;refine bt ?_
   rotate_left
   (refine JS.q rfl rfl rfl (qb rfl) (Qt.sZ rfl (by exact rfl)) ?_)
   refine JD.bJ (i:=5) (by kernel_rfl) ?_;refine JS.sW rfl rfl rfl (qb rfl) (Ld.aV CT (qb rfl) rfl (.cons .refl .nil)) (eW.aT) (fun _=>?_);refine JD.bJ (i:=7) (by kernel_rfl) ?_;refine JS.sW rfl rfl rfl (qb rfl) (Ld.pure (CS) (qb rfl) rfl (by repeat (first | exact aK.nil | refine aK.cons (dB.agg (by repeat (first | exact .nil | refine .cons .refl ?_))) ?_))) (eW.nil) (fun _=>?_);refine tk 8 ?_;refine jk 9 rfl rfl rfl rfl (Qt.pick rfl rfl) ?_;refine bt ?_
   rotate_left
   all_goals
    repeat (refine gn ?_)
    refine J.CH b8 ?_;refine J.eP 0 ?_;refine J.eP 0 ?_;exact (ih ⟨g + 1,by omega⟩ (by simp only;omega)).aW ⟨rfl,rfl,rfl,rfl,trivial⟩
 ·have t1:(decide ((g:Int) < (s.gs.length:Int)))=false:=by simpa using hg
  repeat (refine gn ?_)
  exact aA func12
theorem abz (w:World) (cs:Array Value) (a:sy) (U:List Nat) (sz:cs.size=4) (he:qP w cs.toList a U) (oc:∀ y∈cs.toList,y.oneCell'=true) (v:Value) (l:List Int) (S:List Nat) (hl:GV (kf .i64) 1 w v l S) :
  Calls prog 12 #[.agg cs,v] w fun e w'=>e=.returned (.bool true)∧aq [] w w' :=
 ID (aby a.p a.sn a.cn a.d l (Hs he)) he hl
end Fl
end Go.Proofs.YtofnbflkhgammaaGreat
