/-
  What the laws need, part RB5.
  Conditions: none.
-/
import Derived.Test.YtofnbflkhgammaaGreatD46
import Derived.Test.YtofnbflkhgammaaGreatRB4
set_option linter.unusedVariables false
set_option linter.unusedSimpArgs false
set_option linter.unnecessarySimpa false
set_option maxHeartbeats 2000000
namespace Go.Proofs.YtofnbflkhgammaaGreat
open Go.RowKit
namespace Fl
open Sx Go.Proofs.Tryz
set_option maxRecDepth 100000
theorem abq {s:ah} {g:Nat} {ch:Int} (hk:(ag s g).kind=3∨(ag s g).kind=5) (hc:common s g=(s,false)) (hm:aN s (ag s g).ch=true) (he:(ag s g).ch=ch):bR s g =
  if (aa s g).place=1 then ((if uM (cn s ch)=true then Sx.aI s g 4 else bH s g (aa s g).res 2),true)
  else if (aa s g).place=2 then ((if (cn s ch).closed=true then Sx.aI s g 3 else ai s g { aa s g with res:={ (aa s g).res with code:=2 },place:=18 }),true)
  else if (aa s g).place=3 then ((if uM (cn s ch)=true then ai s g { aa s g with bQ:=0,place:=4 } else bH s g (eJ 0 false) 18),true)
  else if (aa s g).place=5 then ((if (cn s ch).closed=true∧(cn s ch).buf.length=0 then bH s g (eJ 0 false) 16 else if (cn s ch).closed=true then Sx.aI s g 9 else Sx.aI s g 6),true)
  else if (aa s g).place=6 then ((if (cn s ch).send.length=0 then Sx.aI s g 9 else taken s g ((cn s ch).send.headD 0) 7 8),true)
  else if (aa s g).place=7 then (cQ s g 6 8,true)
  else if (aa s g).place=8 then (ai (Sx.serve (Sx.hand (bq s (aa s g).hold) ch (aa s g).hold).1 g (aa s g).hold true) g { aa (Sx.serve (Sx.hand (bq s (aa s g).hold) ch (aa s g).hold).1 g (aa s g).hold true) g with res:=eJ (Sx.hand (bq s (aa s g).hold) ch (aa s g).hold).2 true,place:=16 },true)
  else if (aa s g).place=9 then (aah s g (ag s g) ch,true)
  else if (aa s g).place=10 then (aH s g ⟨true,g,ch,-1,false,0,false⟩,true)
  else if (aa s g).place=11 then (ai (aE s ch { cn s ch with recv:=(cn s ch).recv ++ [(aa s g).aH] }) g { aa s g with ic:=s.step,place:=12 },true)
  else if (aa s g).place=14 then (ai s g { aa s g with res:=if (su s (aa s g).param).done=true then eJ (su s (aa s g).param).v true else eJ 0 false,param:=-1,place:=15 },true)
  else (s,false):=by
 subst he;unfold bR aah;dsimp only;rw [aB,hc,if_neg (by simp),if_neg (by rw [hm];simp)];simp only [apply_ite (fun x=>(x,true))]
theorem aaS (b:Nat) (u:U) (s:ah) (g:Nat) (h:aat s g) (hu:dG u s) :
  ax prog 44 [.c (.v (pt b)),.c (nI g)] (wd b u s) (fun x:{ u':U // dG u' (bR s g).1 }=>(.c (bI (bR s g).2),wd b x.1 (bR s g).1)):=by
 have hg:=h.cp.lt;haveI:Sx.bT g s:=⟨hg⟩
 have c8:=h.cp.c8;have O:=Hl b u s g hg h.cp.dh h.cp.oc;have CC:=Zf b u s g h.cp hu;refine ax.intro func44 rfl rfl rfl (fun ok e=>?_)
 by_cases hk:(ag s g).kind=3∨(ag s g).kind=5
 case neg =>
  have k2:((ag s g).kind != 3)=true:=by simp;omega
  have k4:((ag s g).kind != 5)=true:=by simp;omega
  have er:bR s g=(s,false):=by unfold bR;dsimp only;rw [if_pos (by omega)]
  rw [er]
  repeat (first | (refine K.call ?_;refine JO.ld (Ld.aV (O) (qb rfl) rfl (by (exact aK.cons .refl (.cons .refl .nil)))) rfl ?_;intro _) | refine av ?_ | intro _)
  (exact J.iN [_] rfl func44 rfl (.cons (.tmp rfl) .nil) ⟨u,hu⟩ (by exact .refl) rfl)
 have K:((ag s g).kind != 3)=false∨((ag s g).kind != 3)=true∧((ag s g).kind != 5)=false:=by
  rcases hk with k | k
  ·exact .inl (by rw [k];rfl)
  ·exact .inr ⟨by rw [k];rfl,by rw [k];rfl⟩
 cases me:(common s g).2 with
 | true =>
  have er:bR s g=((common s g).1,true):=by unfold bR;dsimp only;rw [if_neg (by omega),if_pos me]
  rw [me] at CC;rw [er];rcases K with k2 | ⟨k2,k4⟩
  all_goals
   repeat (first | (refine K.call ?_;first | (refine JO.ld (Ld.aV (O) (qb rfl) rfl (by (exact aK.cons .refl (.cons .refl .nil)))) rfl ?_;intro _) | (refine JO.ld (Ld.aV CC (qb rfl) rfl (.cons .refl (.cons .refl .nil))) rfl ?_;intro y)) | refine av ?_ | intro _)
   (exact J.iN [_] rfl func44 rfl (.cons (.tmp rfl) .nil) y (by exact .refl) rfl)
 | false =>
 have e1:common s g=(s,false):=Prod.ext (Zu me) me;rw [e1] at CC;dsimp only at CC
 by_cases hp:∀ p∈([1,2,3,5,6,7,8,9,10,11,14]:List Int),(aa s g).place≠p
 ·rw [abp hk e1 hp];have N:∀ p,p∈([1,2,3,5,6,7,8,9,10,11,14]:List Int)→((aa s g).place == p)=false:=fun p m=>by simpa using hp p m
  have n1:=N 1 (by simp);have n2:=N 2 (by simp);have n3:=N 3 (by simp);have n5:=N 5 (by simp);have n6:=N 6 (by simp);have n7:=N 7 (by simp);have n8:=N 8 (by simp);have n9:=N 9 (by simp);have n10:=N 10 (by simp);have n11:=N 11 (by simp);have n14:=N 14 (by simp);rcases K with k2 | ⟨k2,k4⟩
  all_goals
   repeat (first | (refine K.load ?_;((refine jq rfl rfl rfl (Qt.cE rfl (bX) (by exact rfl)) ?_))) | (refine K.indexAddr ?_;refine jq rfl rfl rfl (Qt.bM rfl rfl eB eD) ?_) | (refine K.call ?_;first | (refine JO.ld (Ld.aV (O) (qb rfl) rfl (by (exact aK.cons .refl (.cons .refl .nil)))) rfl ?_;intro _) | (refine JO.ld (Ld.aV CC (qb rfl) rfl (.cons .refl (.cons .refl .nil))) rfl ?_;intro y)) | refine av ?_ | intro _)
   (exact J.iN [_] rfl func44 rfl (.cons (.tmp rfl) .nil) y (by exact .refl) rfl)
 have hq:(aa s g).place=1∨(aa s g).place=2∨(aa s g).place=3∨(aa s g).place=5∨(aa s g).place=6∨(aa s g).place=7∨(aa s g).place=8∨(aa s g).place=9∨(aa s g).place=10∨(aa s g).place=11∨(aa s g).place=14:=by
  false_or_by_contra
  exact hp fun p m=>by simp only [List.mem_cons,List.not_mem_nil,or_false] at m;omega
 obtain ⟨k,hC⟩:=h.ch hk (by omega) (by omega) (by omega);have hI:=hC.is;have hm:aN s (ag s g).ch=true:=hI.made;have he:=hC.e;have er:=abq hk e1 hm he;have l6:(aa s g).place=6→∀ i r,(cn s ((k:Int) + 1)).send=i :: r→0≤i∧i < s.aC.length∧(0≤(su s i).cs∨∃ o,oP s g o i):=by rw [← he];exact h.l6 hk
 have l7:=h.l7 hk;have cE:∀ {X:ah},bR s g=(X,true)→(bR s g).1=X:=fun e=>by rw [e]
 have hr:(bR s g).2=true:=by
  rw [er];rcases hq with e | e | e | e | e | e | e | e | e | e | e <;> simp only [e,Int.reduceEq,if_true,if_false]
 have hq':((aa s g).place=1∨(aa s g).place=2∨(aa s g).place=3)∨((aa s g).place=5∨(aa s g).place=6∨(aa s g).place=7∨(aa s g).place=8∨(aa s g).place=9)∨((aa s g).place=10∨(aa s g).place=11∨(aa s g).place=14):=by omega
 rw [hr];rcases hq' with hq | hq | hq
 ·have C1:=fun u hu=>abi b u s g k (ag s g).ch hg hI hu (bR s g).1 (by
   rcases hq with e | e | e
   all_goals simp only [e,Int.reduceEq,if_true,if_false] at er
   ·exact .inl ⟨e,cE er⟩
   ·exact .inr (.inl ⟨e,cE er⟩)
   ·exact .inr (.inr ⟨e,cE er⟩))
  rcases hq with e | e | e
  all_goals
   have P:=fun c:Int=>congrArg (fun x:Int=>x == c) e
   rcases K with k2 | ⟨k2,k4⟩
   all_goals
    repeat (first | (refine K.load ?_;((refine jq rfl rfl rfl (Qt.cE rfl (bX) (by exact rfl)) ?_))) | (refine K.indexAddr ?_;refine jq rfl rfl rfl (Qt.bM rfl rfl eB eD) ?_) | refine aL (P _) ?_ | (refine K.call ?_;first | (refine JO.ld (Ld.aV (O) (qb rfl) rfl (by (exact aK.cons .refl (.cons .refl .nil)))) rfl ?_;intro _) | (refine JO.ld (Ld.aV CC (qb rfl) rfl (.cons .refl (.cons .refl .nil))) rfl ?_;intro y) | (refine JO.ld (Ld.aV (C1 y.1 y.2) (qb rfl) rfl (.cons .refl (.cons .refl (.cons .refl .nil)))) rfl ?_;intro z)) | refine av ?_ | intro _)
    (exact J.iN [_] rfl func44 rfl (.cons (.tmp rfl) .nil) z (by exact .refl) rfl)
 ·have C1:=fun u hu=>abm b u s g k (ag s g) hk hg hC h.qs h.wk hu (bR s g).1 (by
   rcases hq with e | e | e | e | e
   all_goals simp only [e,Int.reduceEq,if_true,if_false] at er
   ·exact .inl ⟨e,cE er⟩
   ·exact .inr (.inl ⟨e,l6 e,cE er⟩)
   ·exact .inr (.inr (.inl ⟨e,l7 (.inl e),cE er⟩))
   ·exact .inr (.inr (.inr (.inl ⟨e,l7 (.inr e),cE er⟩)))
   ·exact .inr (.inr (.inr (.inr ⟨e,cE er⟩))))
  rcases hq with e | e | e | e | e
  all_goals
   have P:=fun c:Int=>congrArg (fun x:Int=>x == c) e
   rcases K with k2 | ⟨k2,k4⟩
   all_goals
    repeat (first | (refine K.load ?_;((refine jq rfl rfl rfl (Qt.cE rfl (bX) (by exact rfl)) ?_))) | (refine K.indexAddr ?_;refine jq rfl rfl rfl (Qt.bM rfl rfl eB eD) ?_) | refine aL (P _) ?_ | (refine K.call ?_;first | (refine JO.ld (Ld.aV (O) (qb rfl) rfl (by (exact aK.cons .refl (.cons .refl .nil)))) rfl ?_;intro _) | (refine JO.ld (Ld.aV CC (qb rfl) rfl (.cons .refl (.cons .refl .nil))) rfl ?_;intro y) | (refine JO.ld (Ld.aV (C1 y.1 y.2) (qb rfl) rfl (.cons .refl (.cons .refl (.cons .refl .nil)))) rfl ?_;intro z)) | refine av ?_ | intro _)
    (exact J.iN [_] rfl func44 rfl (.cons (.tmp rfl) .nil) z (by exact .refl) rfl)
 ·have C1:=fun u hu=>abl b u s g k (ag s g).ch hg hI hu (bR s g).1 (by
   rw [he];rcases hq with e | e | e
   all_goals simp only [e,Int.reduceEq,if_true,if_false] at er
   ·exact .inl ⟨e,⟨h.cp.fr,h.uj e⟩,cE er⟩
   ·exact .inr (.inl ⟨e,⟨h.qs,h.ZQ hk e⟩,cE er⟩)
   ·exact .inr (.inr ⟨e,h.qX hk e,cE er⟩))
  rcases hq with e | e | e
  all_goals
   have P:=fun c:Int=>congrArg (fun x:Int=>x == c) e
   rcases K with k2 | ⟨k2,k4⟩
   all_goals
    repeat (first | (refine K.load ?_;((refine jq rfl rfl rfl (Qt.cE rfl (bX) (by exact rfl)) ?_))) | (refine K.indexAddr ?_;refine jq rfl rfl rfl (Qt.bM rfl rfl eB eD) ?_) | refine aL (P _) ?_ | (refine K.call ?_;first | (refine JO.ld (Ld.aV (O) (qb rfl) rfl (by (exact aK.cons .refl (.cons .refl .nil)))) rfl ?_;intro _) | (refine JO.ld (Ld.aV CC (qb rfl) rfl (.cons .refl (.cons .refl .nil))) rfl ?_;intro y) | (refine JO.ld (Ld.aV (C1 y.1 y.2) (qb rfl) rfl (.cons .refl (.cons .refl (.cons .refl .nil)))) rfl ?_;intro z)) | refine av ?_ | intro _)
    (exact J.iN [_] rfl func44 rfl (.cons (.tmp rfl) .nil) z (by exact .refl) rfl)
end Fl
open Go.RowKit
namespace Fl
open Sx Go.Proofs.Tryz
set_option maxRecDepth 100000
theorem abC {s:ah} {ch:Int} (h:Sx.Good s) (hm:aN s ch=true):∃ k,aac s ch k:=by
 have m:=oG.1 hm;have h':=h.toMInv;have c8:=h.c8;have c4:=h'.gE (c:=ch) m.1 m.2;refine ⟨(ch - 1).toNat,by omega,by omega,by omega,?_,?_⟩
 all_goals
  rw [show (((ch - 1).toNat:Nat):Int) + 1=ch by omega];omega
theorem abD {n:Nat} {s:ah} (h:Sx.Bd n s) {c i:Int}:Sx.Bd n (Sx.hand s c i).1:=by
 unfold Sx.hand;dsimp only
 split
 ·exact h
 ·refine h.dJ ⟨(h.cn c).cp,?_,(h.cn c).rv,(h.cn c).sd⟩;have:=(h.cn c).bf
  show (iy _ _ _).1.length≤n;unfold iy
  split
  ·exact this
  ·rename_i a;rw [List.length_append,List.length_tail,List.length_singleton];simp only [not_or] at a;omega
theorem abE (s:ah) (ch i:Int) (hm:aN s ch=true) (dF:s.au.length≤100000) (gq:0≤i) (dR:i < s.aC.length) (hl:(cn s ch).buf.length≤50000) :
  Pure prog 47 [.agg (az s),.c (nI ch),.c (nI i)] (.aZ [.agg (az (Sx.hand s ch i).1),.c (nI (Sx.hand s ch i).2)]):=by
 have C:=N3 s ch i hm dF gq dR hl;refine ax.intro func47 rfl rfl rfl (fun ok e=>?_)
 repeat (first | refine av ?_ | intro _)
 exact aA func47
end Fl
open Go.RowKit
namespace Sx
def aaK:Pn.Op:=⟨3,1,0,0,[],false⟩
def aaL:Pn.Op:=⟨6,1,0,0,[],false⟩
def reG:Gr:=⟨[aaK],0,4,0,false,8,false,-1,-1,-1,0,0,0,-1,-1,⟨0,-1,0,false,0⟩,[],[],[],[],0⟩
def reH:Gr:={ reG with ops:=[aaL],call:=0,place:=0,status:=2,at_:=1 }
def reK:Cn:=⟨0,[],true,-1,[],[]⟩
def re0:ah:=⟨0,1,8,[reG,reH],[reK],[],[[],[]],[],0,[],0,[]⟩
def re:Nat→ah
 | 0=>re0
 | n + 1=>(bR (re n) 0).1
end Sx
namespace Fl
open Sx Go.Proofs.Tryz
set_option maxRecDepth 100000
def reC (s:ah) (g:Nat):Bool :=
 Dp s g && uo s && decide ((aa s g).an.length≤1000∧1≤(ag s g).ch∧(ag s g).ch≤s.au.length∧0≤(cn s (ag s g).ch).cap∧((cn s (ag s g).ch).buf.length:Int)≤(cn s (ag s g).ch).cap∧(cn s (ag s g).ch).send=[])
  && ([7,8,10,11,14]:List Int).all (fun p=>decide ((aa s g).place≠p))
theorem reC.ok {s:ah} {g:Nat} (h:reC s g=true):aat s g:=by
 unfold reC at h;simp only [Bool.and_eq_true,decide_eq_true_eq,List.all_eq_true] at h;obtain ⟨⟨⟨h1,h2⟩,a1,a2,a3,a4,a5,a6⟩,h4⟩:=h;have C:=Dp.ok h1;have c8:=C.c8;have n:∀ p,p∈([7,8,10,11,14]:List Int)→(aa s g).place≠p:=h4;refine ⟨C,uo.qs h2,a1,fun _ _ _ _=>⟨((ag s g).ch - 1).toNat,by omega,by omega,by omega,?_,?_⟩,fun _ _ i r hr=>(by rw [a6] at hr;cases hr),fun _ e=>?_,fun e=>absurd e (n 10 (by simp)),fun _ e=>absurd e (n 11 (by simp)),fun _ e=>absurd e (n 14 (by simp))⟩
 ·rw [show ((((ag s g).ch - 1).toNat:Nat):Int) + 1=(ag s g).ch by omega];exact a4
 ·rw [show ((((ag s g).ch - 1).toNat:Nat):Int) + 1=(ag s g).ch by omega];exact a5
 ·rcases e with e | e
  ·exact absurd e (n 7 (by simp))
  ·exact absurd e (n 8 (by simp))
theorem abu:∀ n:Nat,n < 3→reC (re n) 0=true∧(bR (re n) 0).2=true∧(aa (re (n + 1)) 0).place=([5,16,18]:List Int).getD n 0∧(re (n + 1)).gs.length=2:=by
 intro n hn
 match n,hn with
 | 0,_=>decide +kernel
 | 1,_=>decide +kernel
 | 2,_=>decide +kernel
theorem abv:∀ n:Nat,n < 3→(([5,16,18]:List Int).map fun n=>[nI n])[((n:Nat):Int).toNat]?=some [nI (([5,16,18]:List Int).getD n 0)]:=by
 intro n hn
 match n,hn with
 | 0,_=>rfl
 | 1,_=>rfl
 | 2,_=>rfl
theorem aaQ:Pure prog 43 [] (.c (bI true)):=by
 have CO:=Dm (re 0) (Dn.ok (by decide +kernel));refine ax.intro func43 rfl rfl rfl (fun ok e=>?_)
 repeat (first | (refine K.binOp ?_;first | refine jq rfl rfl rfl (Qt.BX BY rfl rfl) ?_ | refine aL (show ((((fB x.1.2 (re 0)).length:Nat):Int) != 2)=false from rfl) ?_) | (refine K.call ?_;refine JO.ld (Ld.aV CO (qb rfl) rfl (.cons (.agg (.of (by kernel_rfl))) .nil)) rfl ?_;intro x) | (refine K.lit ?_;first | (refine JO.ld (Ld.w9 (mm:=[dH aaK]) (qb rfl) rfl rfl rfl rfl rfl rfl (.of (by exact rfl))) rfl (fun _=>?_)) | (refine JO.ld (Ld.w9 (mm:=[dH aaL]) (qb rfl) rfl rfl rfl rfl rfl rfl (.of (by exact rfl))) rfl (fun _=>?_)) | (refine JO.ld (Ld.w9 (mm:=[eG reG,eG reH]) (qb rfl) rfl rfl rfl rfl rfl rfl (.of (by exact rfl))) rfl (fun _=>?_)) | (refine JO.ld (Ld.w9 (mm:=[eC reK]) (qb rfl) rfl rfl rfl rfl rfl rfl (.of (by exact rfl))) rfl (fun _=>?_)) | (refine JO.ld (Ld.w9 (mm:=[[ints []],[ints []]]) (qb rfl) rfl rfl rfl rfl rfl rfl (.of (by exact rfl))) rfl (fun _=>?_)) | (refine JO.ld (Ld.w9 (mm:=([5,16,18]:List Int).map fun n=>[nI n]) (qb rfl) rfl rfl rfl rfl rfl rfl (.of (by exact rfl))) rfl (fun _=>?_))) | refine av ?_ | intro _)
 obtain ⟨⟨b3,u⟩,hu⟩:=x;simp only at hu ⊢;refine J.eP 0 ?_;refine J.eP 0 ?_;refine J.loop (ι:={ q:Nat × U // q.1≤3∧dG q.2 (re q.1)∧(re q.1).gs.length=2 }) (fun q=>[(39,.c (nI q.1.1)),(38,.c (nI 3)),(37,.c (ints [5,16,18])),(3,.c (.v (pt b3)))]) (fun q=>wd b3 q.1.2 (re q.1.1)) (fun q=>3 - q.1.1) ⟨(0,u),by omega,hu,rfl⟩ (fun X h=>h.aW ⟨rfl,rfl,rfl,rfl,trivial⟩) (fun q ih=>?_);obtain ⟨⟨n,v⟩,hn,hv,hl⟩:=q;simp only at hn hv hl ih ⊢
 by_cases h5:n < 3
 ·have t1:(decide ((n:Int) < 3))=true:=decide_eq_true (by omega);obtain ⟨f1,f2,f3,f4⟩:=abu n h5;have C1:=aaS b3 v (re n) 0 (reC.ok f1) hv;rw [f2] at C1;have A1:=abv n h5;haveI:Sx.bT 0 (re (n + 1)):=⟨by omega⟩
  have t2:((aa (re (n + 1)) 0).place != ([5,16,18]:List Int).getD n 0)=false:=by rw [f3];simp
  repeat (first | (refine K.load ?_;((refine jq rfl rfl rfl (Qt.cE rfl (bX (g:=0) (s:=re (n + 1))) (by exact rfl)) ?_))) | (refine K.indexAddr ?_;refine jq rfl rfl rfl (Qt.bM rfl rfl (eB (g:=0)) (eD (g:=0) (s:=re (n + 1)))) ?_) | (refine K.call ?_;refine JO.ld (Ld.aV C1 (qb rfl) rfl (.cons .refl (.cons .refl .nil))) rfl ?_;intro y) | refine gn ?_)
  exact (ih ⟨(n + 1,y.1),by omega,y.2,f4⟩ (by simp only;omega)).aW ⟨rfl,rfl,rfl,rfl,trivial⟩
 ·have t1:(decide ((n:Int) < 3))=false:=decide_eq_false (by omega);have e5:n=3:=by omega
  subst e5;have q2:((aa (re 3) 0).bQ == 8)=true:=by decide +kernel
  haveI:Sx.bT 0 (re 3):=⟨by decide +kernel⟩
  haveI:Sx.dY (re 3) 0 { aa (re 3) 0 with res:=⟨1,-1,0,false,0⟩ }:=⟨by kernel_rfl⟩
  repeat (first | (refine K.load ?_;first | refine jq rfl rfl rfl (Qt.cE rfl (bX (g:=0) (s:=re 3)) rfl) ?_ | refine jq rfl rfl rfl (Qt.aaT rfl (bX (g:=0) (s:=re 3)) rfl rfl) ?_) | (refine K.indexAddr ?_;refine jq rfl rfl rfl (Qt.bM rfl rfl (eB (g:=0)) (eD (g:=0) (s:=re 3))) ?_) | (refine K.binOp ?_;refine jq rfl rfl rfl (Qt.FA [.int .i64 1,.int .i64 (-1),.int .i64 0,.bool false,.int .i64 0] rfl rfl (fun w=>FF w _ _ _ _ _) FD) ?_) | refine gn ?_)
  refine J.CH b3 ?_;exact aA func43
end Fl
end Go.Proofs.YtofnbflkhgammaaGreat
