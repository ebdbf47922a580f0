/-
  What the laws need, part L5.
  Conditions: none.
-/
import Derived.Test.YtdjhhbpedllnhaaGreatL4
set_option linter.unusedVariables false
set_option linter.unusedSimpArgs false
set_option linter.unnecessarySimpa false
set_option maxHeartbeats 2000000
namespace Go.Proofs.YtdjhhbpedllnhaaGreat
open Go.RowKit
namespace Fl
open Sx Go.Proofs.Tryz
set_option maxRecDepth 100000
theorem nX.drop {s:ah} {ch:Int} {k:Nat} (h:nX s ch k) {i:Int}:nX (aT s i) ch k:=by
 obtain ⟨e,k1,k8,c0,bl⟩:=h;unfold aT
 split
 next m =>
  have m':=m;unfold aL at m';simp only [decide_eq_true_eq] at m';obtain ⟨j,ej⟩:∃ j:Nat,(su s i).ch=(j:Int) + 1:=⟨((su s i).ch - 1).toNat,by omega⟩
  rw [ej];have q:=Cw (s:=s) (k:=j) (j:=k) (c:={ cn s ((j:Int) + 1) with recv:=eZ (cn s ((j:Int) + 1)).recv i,send:=eZ (cn s ((j:Int) + 1)).send i }) (by omega);refine ⟨e,?_,k8,?_,?_⟩
  ·show k < (List.set _ _ _).length;rw [List.length_set];exact k1
  ·rw [q];split
   next z=>subst z;exact c0
   next=>exact c0
  ·rw [q];split
   next z=>subst z;exact bl
   next=>exact bl
 next=>exact ⟨e,k1,k8,c0,bl⟩
theorem aaO (b:Nat) (u:U) (s:ah) (g k:Nat) (ch:Int) (hg:g < s.gs.length) (hC:nX s ch k) (hu:cA u s) (S:ah)
  (hp:((aa s g).place=10∧(0≤s.fresh∧g < s.cache.length∧((aQ s g).2.2=true→0≤(aQ s g).2.1∧(aQ s g).2.1 < s.aB.length))∧S=aI s g ⟨true,g,ch,-1,false,0,false⟩)
  ∨((aa s g).place=11∧(Qs s∧0≤(aa s g).aI∧(aa s g).aI < s.aB.length∧∀ c,(aa s g).aI∉(cn s c).recv∧(aa s g).aI∉(cn s c).send)∧S=ai (aA s ((k:Int) + 1) { cn s ((k:Int) + 1) with recv:=(cn s ((k:Int) + 1)).recv ++ [(aa s g).aI] }) g { aa s g with iJ:=s.step,place:=12 })
  ∨((aa s g).place=14∧(0≤(aa s g).param∧(aa s g).param < s.aB.length)∧S=ai s g { aa s g with res:=if (su s (aa s g).param).done=true then cZ (su s (aa s g).param).v true else cZ 0 false,param:=-1,place:=15 })) :
  av prog 78 [.c (.v (pt b)),.c (nI g),.c (nI ch)] (wd b u s) (fun x:{ u':U // cA u' S }=>(.aZ [],wd b x.1 S)):=by
 haveI:Sx.bt g s:=⟨hg⟩
 obtain ⟨he,hk,h8,c0,bl⟩:=hC;refine av.intro func78 rfl rfl rfl (fun ok e=>?_);rcases hp with ⟨e1,⟨f0,f1,f2⟩,rfl⟩ | ⟨e1,⟨Q,m0,m1,mn⟩,rfl⟩ | ⟨e1,⟨p0,p1⟩,rfl⟩
 ·have P:∀ c,((aa s g).place == c)=((10:Int) == c):=fun c=>by rw [e1]
  have C1:=aax b u s g ⟨true,g,ch,-1,false,0,false⟩ hg hu f0 f1 f2
  repeat (first | (refine K.load ?_;((refine jq rfl rfl rfl (Qt.bM rfl (aP) (by exact rfl)) ?_))) | (refine K.indexAddr ?_;refine jq rfl rfl rfl (Qt.aV rfl rfl cW cX) ?_) | refine aK (P _) ?_ | (refine K.call ?_;refine JO.ld (Ld.bw C1 (qb rfl) rfl (.cons .refl (.cons .refl (.cons .refl .nil)))) rfl ?_;intro y) | refine gn ?_)
  (exact J.ij func78 rfl .nil y (by exact .refl) rfl)
 ·have P:∀ c,((aa s g).place == c)=((11:Int) == c):=fun c=>by rw [e1]
  have C1:=aap b u Q hk (aa s g).aI m0 m1 mn;have RC:=aaI ch k he h8;generalize hS:aA s ((k:Int) + 1) { cn s ((k:Int) + 1) with recv:=(cn s ((k:Int) + 1)).recv ++ [(aa s g).aI] }=S1 at C1 ⊢;have hz:cA u S1:=by rw [← hS];exact hu.to
  have oE:g < S1.gs.length:=by rw [← hS];exact hg
  have e3:ai S1 g { aa s g with iJ:=s.step,place:=12 }=aS (aS S1 g fun x=>{ x with iJ:=S1.step }) g fun x=>{ x with place:=12 }:=by
   rw [fJ oE,← hS];rfl
  rw [e3];clear hS;haveI:Sx.bt g S1:=⟨oE⟩
  repeat (first | (refine K.load ?_;((refine jq rfl rfl rfl (Qt.bM rfl (aP) (by exact rfl)) ?_))) | (refine K.indexAddr ?_;refine jq rfl rfl rfl (Qt.aV rfl rfl cW cX) ?_) | refine aK (P _) ?_ | refine gn ?_)
  refine J.draw (by kernel_rfl) rfl ?_;refine JW.O0 none ?_;refine tk 0 ?_;refine tk 1 ?_;refine tk 2 ?_;refine tk 4 ?_;refine tk 6 ?_;refine tk 7 ?_;refine tk 8 ?_;refine JD.D8 (i:=3) (j:=5) (q:=9) (by kernel_rfl) ?_ ?_ ?_
  (refine JS.q rfl rfl rfl (qb rfl) (Qt.lf rfl (by exact rfl)) ?_)
  refine JD.dA (i:=5) (j:=9) (by kernel_rfl) ?_ ?_;refine JS.p6 rfl rfl rfl (qb rfl) (Ld.pure (RC) (qb rfl) rfl lq) (ku.nil) (fun _=>?_);refine jk 9 rfl rfl rfl rfl (Qt.bM rfl aP rfl) ?_;refine JD.gD (i:=10) (by kernel_rfl) ?_;refine JS.p6 rfl rfl rfl (qb rfl) (Ld.bw C1 (qb rfl) rfl (.cons .refl (.cons .refl (.cons .refl .nil)))) (ku.bq) (fun _=>?_);refine bX ?_
  rotate_left
  refine JS.q rfl rfl rfl (qb rfl) (Qt.bM rfl aP rfl) ?_;refine JD.gD (i:=5) (by kernel_rfl) ?_;refine JS.p6 rfl rfl rfl (qb rfl) (Ld.pure (RC) (qb rfl) rfl lq) (ku.nil) (fun _=>?_);refine JD.gD (i:=10) (by kernel_rfl) ?_;refine JS.p6 rfl rfl rfl (qb rfl) (Ld.bw C1 (qb rfl) rfl (.cons .refl (.cons .refl (.cons .refl .nil)))) (ku.bq) (fun _=>?_);refine bX ?_
  rotate_left
  refine JS.p6 rfl rfl rfl (qb rfl) (Ld.pure (RC) (qb rfl) rfl lq) (ku.nil) (fun _=>?_);refine JD.dA (i:=3) (j:=9) (by kernel_rfl) ?_ ?_
  (refine JS.q rfl rfl rfl (qb rfl) (Qt.lf rfl (by exact rfl)) ?_)
  refine jk 9 rfl rfl rfl rfl (Qt.bM rfl aP rfl) ?_;refine JD.gD (i:=10) (by kernel_rfl) ?_;refine JS.p6 rfl rfl rfl (qb rfl) (Ld.bw C1 (qb rfl) rfl (.cons .refl (.cons .refl (.cons .refl .nil)))) (ku.bq) (fun _=>?_);refine bX ?_
  rotate_left
  refine JS.q rfl rfl rfl (qb rfl) (Qt.bM rfl aP rfl) ?_;refine jk 3 rfl rfl rfl rfl (Qt.lf rfl (by exact rfl)) ?_;refine JD.gD (i:=10) (by kernel_rfl) ?_;refine JS.p6 rfl rfl rfl (qb rfl) (Ld.bw C1 (qb rfl) rfl (.cons .refl (.cons .refl (.cons .refl .nil)))) (ku.bq) (fun _=>?_);refine bX ?_
  rotate_left
  refine JS.q rfl rfl rfl (qb rfl) (Qt.bM rfl aP rfl) ?_;refine JD.dA (i:=3) (j:=5) (by kernel_rfl) ?_ ?_
  (refine JS.q rfl rfl rfl (qb rfl) (Qt.lf rfl (by exact rfl)) ?_)
  refine JD.gD (i:=5) (by kernel_rfl) ?_;refine JS.p6 rfl rfl rfl (qb rfl) (Ld.pure (RC) (qb rfl) rfl lq) (ku.nil) (fun _=>?_);refine JD.gD (i:=10) (by kernel_rfl) ?_;refine JS.p6 rfl rfl rfl (qb rfl) (Ld.bw C1 (qb rfl) rfl (.cons .refl (.cons .refl (.cons .refl .nil)))) (ku.bq) (fun _=>?_);refine bX ?_
  rotate_left
  refine JS.p6 rfl rfl rfl (qb rfl) (Ld.pure (RC) (qb rfl) rfl lq) (ku.nil) (fun _=>?_);refine jk 3 rfl rfl rfl rfl (Qt.lf rfl (by exact rfl)) ?_;refine JD.gD (i:=10) (by kernel_rfl) ?_;refine JS.p6 rfl rfl rfl (qb rfl) (Ld.bw C1 (qb rfl) rfl (.cons .refl (.cons .refl (.cons .refl .nil)))) (ku.bq) (fun _=>?_);refine bX ?_
  rotate_left
  all_goals
   repeat (first | (refine K.store ?_;first | ((refine JO.ld (Ld.bQ rfl rfl (by exact rfl) aP) rfl (fun _=>?_)));refine JO.bS b g (fun x=>{ x with iJ:=S1.step }) (by exact rfl) ?_ | ((refine JO.ld (Ld.bQ rfl rfl (by exact rfl) aP) rfl (fun _=>?_)));refine JO.bS b g (fun x=>{ x with place:=12 }) (by exact rfl) ?_) | refine gn ?_)
   (exact J.ij func78 rfl .nil ⟨u,hz.to⟩ (by exact .refl) rfl)
 ·have P:∀ c,((aa s g).place == c)=((14:Int) == c):=fun c=>by rw [e1]
  haveI:Sx.gI (aa s g).param s:=⟨p0,p1⟩
  have hv:cA u (ai s g { aa s g with res:=if (su s (aa s g).param).done=true then cZ (su s (aa s g).param).v true else cZ 0 false,param:=-1,place:=15 }):=hu.to;generalize hd:(su s (aa s g).param).done=dn at hv ⊢;haveI:Sx.jX s (aa s g).param { su s (aa s g).param with done:=dn }:=⟨by rw [← hd]⟩
  repeat (first | (refine K.load ?_;((refine jq rfl rfl rfl (Qt.bM rfl (aP) (by exact rfl)) ?_))) | (refine K.store ?_;((refine JO.ld (Ld.qm rfl rfl rfl (by exact rfl) (by exact rfl) aP) rfl (fun _=>?_)));refine JO.bS b g (fun x=>{ x with res:=⟨1,-1,0,false,0⟩ }) (by exact rfl) ?_) | (refine K.indexAddr ?_;refine jq rfl rfl rfl (Qt.aV rfl rfl cW cX) ?_) | refine aK (P _) ?_ | refine gn ?_)
  refine J.draw (by kernel_rfl) rfl ?_;refine JW.base (some 11) ?_;refine tk 0 ?_;refine tk 1 ?_;refine tk 2 ?_;refine tk 3 ?_;refine tk 4 ?_;refine tk 5 ?_;refine tk 6 ?_;refine JD.take 7 rfl rfl (by kernel_rfl) rfl (qb rfl) (Qt.bM rfl aP rfl) rfl ?_;refine JD.take 8 rfl rfl (by kernel_rfl) rfl (qb rfl) (Qt.aV rfl rfl (jH (s:=s)) jI) rfl ?_;refine JD.take 9 rfl rfl (by kernel_rfl) rfl (qb rfl) (Qt.IC rfl jY rfl) rfl ?_;refine jl 10 rfl rfl rfl rfl (Ld.alloc (qb rfl)) .none (fun _=>?_);refine jt 11 rfl rfl (Ld.bh rfl rfl rfl (by exact rfl) (by exact rfl)) (fun _=>?_);refine cu ?_
  cases dn with
  | true =>
   rw [if_pos rfl] at hv ⊢;have er:ai s g { aa s g with res:=cZ (su s (aa s g).param).v true,param:=-1,place:=15 }=aS (aS (aS (aS (aS s g fun x=>{ x with res:=⟨1,-1,0,false,0⟩ }) g fun x=>{ x with res:={ x.res with v:=(su s (aa s g).param).v } }) g fun x=>{ x with res:={ x.res with ok:=true } }) g fun x=>{ x with param:=-1 }) g fun x=>{ x with place:=15 }:=by
    rw [fJ Sx.bt.h,fJ Sx.bt.h,fJ Sx.bt.h,fJ hg];rfl
   rw [er] at hv ⊢
   repeat (first | (refine K.store ?_;first | ((refine JO.ld (Ld.bQ rfl rfl (by exact rfl) aP) rfl (fun _=>?_)));refine JO.bS b g (fun x=>{ x with res:={ x.res with v:=(su s (aa s g).param).v } }) (by exact rfl) ?_ | ((refine JO.ld (Ld.bQ rfl rfl (by exact rfl) aP) rfl (fun _=>?_)));refine JO.bS b g (fun x=>{ x with res:={ x.res with ok:=true } }) (by exact rfl) ?_ | ((refine JO.ld (Ld.bQ rfl rfl (by exact rfl) aP) rfl (fun _=>?_)));refine JO.bS b g (fun x=>{ x with param:=-1 }) (by exact rfl) ?_ | ((refine JO.ld (Ld.bQ rfl rfl (by exact rfl) aP) rfl (fun _=>?_)));refine JO.bS b g (fun x=>{ x with place:=15 }) (by exact rfl) ?_) | refine gn ?_)
   (exact J.ux [_] rfl func78 rfl .nil ⟨u,hv⟩ (by exact .refl) rfl)
  | false =>
   rw [if_neg (by simp)] at hv ⊢;have er:ai s g { aa s g with res:=cZ 0 false,param:=-1,place:=15 }=aS (aS (aS s g fun x=>{ x with res:=⟨1,-1,0,false,0⟩ }) g fun x=>{ x with param:=-1 }) g fun x=>{ x with place:=15 }:=by
    rw [fJ Sx.bt.h,fJ hg];rfl
   rw [er] at hv ⊢
   repeat (first | (refine K.store ?_;first | ((refine JO.ld (Ld.bQ rfl rfl (by exact rfl) aP) rfl (fun _=>?_)));refine JO.bS b g (fun x=>{ x with param:=-1 }) (by exact rfl) ?_ | ((refine JO.ld (Ld.bQ rfl rfl (by exact rfl) aP) rfl (fun _=>?_)));refine JO.bS b g (fun x=>{ x with place:=15 }) (by exact rfl) ?_) | refine gn ?_)
   (exact J.ux [_] rfl func78 rfl .nil ⟨u,hv⟩ (by exact .refl) rfl)
theorem aaP (b:Nat) (u:U) (s:ah) (g k:Nat) (o:Pn.Op) (H9:o.kind=3∨o.kind=5) (hg:g < s.gs.length) (hC:vY s o k) (Q:Qs s) (hw:(aa s g).ak.length≤1000) (hu:cA u s) (S:ah)
  (hp:((aa s g).place=5∧S=if (cn s ((k:Int) + 1)).closed=true∧(cn s ((k:Int) + 1)).buf.length=0 then br s g (cZ 0 false) 16 else if (cn s ((k:Int) + 1)).closed=true then Sx.aG s g 9 else Sx.aG s g 6)
  ∨((aa s g).place=6∧(∀ i r,(cn s ((k:Int) + 1)).send=i :: r→0≤i∧i < s.aB.length∧(0≤(su s i).cs∨∃ o,jj s g o i))∧S=if (cn s ((k:Int) + 1)).send.length=0 then Sx.aG s g 9 else taken s g ((cn s ((k:Int) + 1)).send.headD 0) 7 8)
  ∨((aa s g).place=7∧(∃ q,jj s g q (aa s g).hold)∧S=cU s g 6 8)
  ∨((aa s g).place=8∧(∃ q,jj s g q (aa s g).hold)∧S=ai (Sx.serve (Sx.hand (aT s (aa s g).hold) ((k:Int) + 1) (aa s g).hold).1 g (aa s g).hold true) g { aa (Sx.serve (Sx.hand (aT s (aa s g).hold) ((k:Int) + 1) (aa s g).hold).1 g (aa s g).hold true) g with res:=cZ (Sx.hand (aT s (aa s g).hold) ((k:Int) + 1) (aa s g).hold).2 true,place:=16 })
  ∨((aa s g).place=9∧S=vZ s g o ((k:Int) + 1))) :
  av prog 77 [.c (.v (pt b)),.c (nI g),.agg (eL o)] (wd b u s) (fun x:{ u':U // cA u' S }=>(.aZ [],wd b x.1 S)):=by
 haveI:Sx.bt g s:=⟨hg⟩
 have hI:=hC.is;have he:=hI.e;have k8:=hI.k8;refine av.intro func77 rfl rfl rfl (fun ok e=>?_);rcases hp with ⟨e1,rfl⟩ | ⟨e1,l6,rfl⟩ | ⟨e1,⟨q,ho⟩,rfl⟩ | ⟨e1,⟨q,ho⟩,rfl⟩ | ⟨e1,rfl⟩
 ·have P:∀ c,((aa s g).place == c)=((5:Int) == c):=fun c=>by rw [e1]
  have C1:=aaM b u s g k o.ch hg hI;have hv:cA u (if (cn s ((k:Int) + 1)).closed=true∧(cn s ((k:Int) + 1)).buf.length=0 then br s g (cZ 0 false) 16 else if (cn s ((k:Int) + 1)).closed=true then Sx.aG s g 9 else Sx.aG s g 6):=by unfold br;split;exact hu.to;split <;> exact hu.to
  repeat (first | (refine K.load ?_;((refine jq rfl rfl rfl (Qt.bM rfl (aP) (by exact rfl)) ?_))) | (refine K.indexAddr ?_;refine jq rfl rfl rfl (Qt.aV rfl rfl cW cX) ?_) | refine aK (P _) ?_ | (refine K.call ?_;refine JO.ld (Ld.bw (C1) (qb rfl) rfl (by (exact aW.cons .refl (.cons .refl (.cons .refl .nil))))) rfl ?_;intro _) | refine ay ?_ | intro _)
  (exact J.ux [_] rfl func77 rfl .nil ⟨u,hv⟩ (by exact .refl) rfl)
 ·have P:∀ c,((aa s g).place == c)=((6:Int) == c):=fun c=>by rw [e1]
  have RC:=O8 o.ch k he k8;have C1:=aav b u s g (2 * ((k:Int) + 1) - 1) 7 8 (cn s ((k:Int) + 1)).send hg Q (BQ (by omega)) l6;unfold Dx at C1;have hv:cA u (if (cn s ((k:Int) + 1)).send.length=0 then Sx.aG s g 9 else taken s g ((cn s ((k:Int) + 1)).send.headD 0) 7 8):=by unfold taken;split;exact hu.to;split <;> exact hu.to
  generalize hS:(if (cn s ((k:Int) + 1)).send.length=0 then Sx.aG s g 9 else taken s g ((cn s ((k:Int) + 1)).send.headD 0) 7 8)=S at hv ⊢
  by_cases hl:(cn s ((k:Int) + 1)).send.length=0
  all_goals
   simp only [hl,if_true,if_false] at C1 hS;subst hS
   try rw [show Sx.aG s g 9=aS s g fun x=>{ x with place:=9 } from rfl] at hv ⊢
   repeat (first | (refine K.load ?_;((refine jq rfl rfl rfl (Qt.bM rfl (aP) (by exact rfl)) ?_))) | (refine K.store ?_;((refine JO.ld (Ld.bQ rfl rfl (by exact rfl) aP) rfl (fun _=>?_)));refine JO.bS b g (fun x=>{ x with place:=9 }) (by exact rfl) ?_) | (refine K.indexAddr ?_;refine jq rfl rfl rfl (Qt.aV rfl rfl cW cX) ?_) | refine aK (P _) ?_ | (refine K.call ?_;first | (refine JO.pure RC rfl (qb rfl) rfl (.cons .refl .nil) ?_) | (refine JO.ld (Ld.bw C1 (qb rfl) rfl (.cons .refl (.cons .refl (.cons .refl (.cons .refl (.cons .refl .nil)))))) rfl ?_;intro _)) | refine ay ?_ | intro _)
   (exact J.ux [_] rfl func77 rfl .nil ⟨u,hv⟩ (by exact .refl) rfl)
 ·have P:∀ c,((aa s g).place == c)=((7:Int) == c):=fun c=>by rw [e1]
  have C1:=aaw b u s g q 6 8 hg ho Q;have hv:cA u (cU s g 6 8):=by unfold cU;dsimp only;split <;> exact hu.to
  repeat (first | (refine K.load ?_;((refine jq rfl rfl rfl (Qt.bM rfl (aP) (by exact rfl)) ?_))) | (refine K.indexAddr ?_;refine jq rfl rfl rfl (Qt.aV rfl rfl cW cX) ?_) | refine aK (P _) ?_ | (refine K.call ?_;refine JO.ld (Ld.bw (C1) (qb rfl) rfl (by (exact aW.cons .refl (.cons .refl (.cons .refl (.cons .refl .nil)))))) rfl ?_;intro _) | refine ay ?_ | intro _)
  (exact J.ux [_] rfl func77 rfl .nil ⟨u,hv⟩ (by exact .refl) rfl)
 ·have P:∀ c,((aa s g).place == c)=((8:Int) == c):=fun c=>by rw [e1]
  haveI:Sx.bt q s:=⟨ho.o1⟩
  haveI:Sx.gI (aa s g).hold s:=⟨ho.h0,ho.h1⟩
  obtain ⟨w,WD⟩:=Ak b u Q (aa s g).hold;have hd:su (aT s (aa s g).hold) (aa s g).hold=su s (aa s g).hold:=Sx.jX.h;have eg:aa (aT s (aa s g).hold) g=aa s g:=Sx.dD.h;have hC2:nX (aT s (aa s g).hold) o.ch k:=hI.drop;have C1:=aaK b u (aT s (aa s g).hold) o.ch (aa s g).hold k hC2 ho.h0 Sx.gI.h1;have hx:∀ (s0:ah) (c i:Int),(Sx.hand s0 c i).1.gs=s0.gs∧(Sx.hand s0 c i).1.aB=s0.aB:=fun s0 c i=>by
   unfold Sx.hand;dsimp only;split <;> exact ⟨rfl,rfl⟩
  have hy:=hx (aT s (aa s g).hold) ((k:Int) + 1) (aa s g).hold;have hz:cA u (Sx.hand (aT s (aa s g).hold) ((k:Int) + 1) (aa s g).hold).1:=by
   haveI:dP (Sx.hand (aT s (aa s g).hold) ((k:Int) + 1) (aa s g).hold).1 s:=⟨by
    have d:dP (aT s (aa s g).hold) s:=inferInstance;unfold Sx.hand;dsimp only;split
    ·exact d.h
    ·exact d.h⟩
   exact hu.to
  have gl:g < (aT s (aa s g).hold).gs.length:=Sx.bt.h;have ql:q < (aT s (aa s g).hold).gs.length:=Sx.bt.h;have sl:(aa s g).hold < (aT s (aa s g).hold).aB.length:=Sx.gI.h1;generalize (Sx.hand (aT s (aa s g).hold) ((k:Int) + 1) (aa s g).hold).2=v at C1 ⊢;generalize (Sx.hand (aT s (aa s g).hold) ((k:Int) + 1) (aa s g).hold).1=S1 at C1 hy hz ⊢;have Pa:g < S1.gs.length:=by rw [hy.1];exact gl
  haveI:Sx.bt g S1:=⟨Pa⟩
  have fY:∀ a c:ah,a.gs=c.gs→aa a g=aa c g:=fun a c h=>by unfold aa;rw [h]
  have jf:∀ (a c:ah) (i:Int),a.aB=c.aB→su a i=su c i:=fun a c i h=>by unfold su;rw [h]
  have G4:aa S1 g=aa s g:=(fY _ _ hy.1).trans eg;have es1:su S1 (aa s g).hold=su s (aa s g).hold:=(jf _ _ _ hy.2).trans hd;have C2:=Nf b u S1 g q (aa s g).hold true Pa (by rw [hy.1];exact ql) ho.ne ho.h0 (by rw [hy.2];exact sl) (by rw [es1];exact ho.e) (by rw [G4];exact hw);have er:ai (Sx.serve S1 g (aa s g).hold true) g { aa (Sx.serve S1 g (aa s g).hold true) g with res:=cZ v true,place:=16 }=aS (aS (Sx.serve S1 g (aa s g).hold true) g fun x=>{ x with res:=⟨1,-1,v,true,0⟩ }) g fun x=>{ x with place:=16 }:=by
   rw [fJ Sx.bt.h];rfl
  have hv:∀ v2,cA (jh u g v2) (ai (Sx.serve S1 g (aa s g).hold true) g { aa (Sx.serve S1 g (aa s g).hold true) g with res:=cZ v true,place:=16 }):=fun v2=>cA.wk hz.to
  rw [er] at hv ⊢
  repeat (first | (refine K.load ?_;((refine jq rfl rfl rfl (Qt.bM rfl (aP) (by exact rfl)) ?_))) | (refine K.indexAddr ?_;refine jq rfl rfl rfl (Qt.aV rfl rfl cW cX) ?_) | refine aK (P _) ?_ | (refine K.call ?_;first | (refine JO.ld (Ld.bw (WD) (qb rfl) rfl (by (exact aW.cons .refl (.cons .refl .nil)))) rfl ?_;intro _) | (refine JO.ld (Ld.bw (C1) (qb rfl) rfl (by (exact aW.cons .refl (.cons .refl (.cons .refl .nil))))) rfl ?_;intro _)) | refine ay ?_ | intro _)
  repeat (first | (refine K.store ?_;first | (first | refine JO.ld (Ld.bQ rfl rfl (by exact rfl) aP) rfl (fun _=>?_) | refine JO.ld (Ld.qm rfl rfl rfl (by exact rfl) (by exact rfl) aP) rfl (fun _=>?_));refine JO.bS b g (fun x=>{ x with res:=⟨1,-1,v,true,0⟩ }) (by exact rfl) ?_ | ((refine JO.ld (Ld.bQ rfl rfl (by exact rfl) aP) rfl (fun _=>?_)));refine JO.bS b g (fun x=>{ x with place:=16 }) (by exact rfl) ?_) | (refine K.call ?_;refine JO.ld (Ld.bw C2 (qb rfl) rfl (.cons .refl (.cons .refl (.cons .refl (.cons .refl .nil))))) rfl ?_;intro v2) | refine gn ?_)
  (exact J.ux [_] rfl func77 rfl .nil ⟨jh u g v2,hv v2⟩ (by exact .refl) rfl)
 ·have P:∀ c,((aa s g).place == c)=((9:Int) == c):=fun c=>by rw [e1]
  have C1:=aaN b u s g k o H9 hg hC;have hv:cA u (vZ s g o ((k:Int) + 1)):=by unfold vZ br;split;exact hu.to;split <;> exact hu.to
  repeat (first | (refine K.load ?_;((refine jq rfl rfl rfl (Qt.bM rfl (aP) (by exact rfl)) ?_))) | (refine K.indexAddr ?_;refine jq rfl rfl rfl (Qt.aV rfl rfl cW cX) ?_) | refine aK (P _) ?_ | (refine K.call ?_;refine JO.ld (Ld.bw (C1) (qb rfl) rfl (by (exact aW.cons .refl (.cons .refl (.cons .refl .nil))))) rfl ?_;intro _) | refine ay ?_ | intro _)
  (exact J.ux [_] rfl func77 rfl .nil ⟨u,hv⟩ (by exact .refl) rfl)
structure Ia (s:ah) (g:Nat):Prop where
 cp:xO s g
 qs:Qs s
 wk:(aa s g).ak.length≤1000
 ch:(ag s g).kind=3∨(ag s g).kind=5→(aa s g).place≠0→(aa s g).place≠18→(aa s g).place≠19→∃ k,vY s (ag s g) k
 l6:(ag s g).kind=3∨(ag s g).kind=5→(aa s g).place=6→∀ i r,(cn s (ag s g).ch).send=i :: r→0≤i∧i < s.aB.length∧(0≤(su s i).cs∨∃ o,jj s g o i)
 l7:(ag s g).kind=3∨(ag s g).kind=5→(aa s g).place=7∨(aa s g).place=8→∃ o,jj s g o (aa s g).hold
 xH:(aa s g).place=10→g < s.cache.length∧((aQ s g).2.2=true→0≤(aQ s g).2.1∧(aQ s g).2.1 < s.aB.length)
 O5:(ag s g).kind=3∨(ag s g).kind=5→(aa s g).place=11→0≤(aa s g).aI∧(aa s g).aI < s.aB.length∧∀ c,(aa s g).aI∉(cn s c).recv∧(aa s g).aI∉(cn s c).send
 uj:(ag s g).kind=3∨(ag s g).kind=5→(aa s g).place=14→0≤(aa s g).param∧(aa s g).param < s.aB.length
theorem aaS {s:ah} {g:Nat} (hk:(ag s g).kind=3∨(ag s g).kind=5) (hc:common s g=(s,false)) (h:∀ p∈([1,2,3,5,6,7,8,9,10,11,14]:List Int),(aa s g).place≠p):bz s g=(s,false):=by
 unfold bz;dsimp only;rw [az,hc,if_neg (by simp),if_neg (h 1 (by simp)),if_neg (h 2 (by simp)),if_neg (h 3 (by simp)),if_neg (h 5 (by simp)),if_neg (h 6 (by simp)),if_neg (h 7 (by simp)),if_neg (h 8 (by simp)),if_neg (h 9 (by simp)),if_neg (h 10 (by simp)),if_neg (h 11 (by simp)),if_neg (h 14 (by simp)),ite_self]
theorem aaT {s:ah} {g:Nat} {ch:Int} (hk:(ag s g).kind=3∨(ag s g).kind=5) (hc:common s g=(s,false)) (hm:aL s (ag s g).ch=true) (he:(ag s g).ch=ch):bz s g =
  if (aa s g).place=1 then ((if ke (cn s ch)=true then Sx.aG s g 4 else br s g (aa s g).res 2),true)
  else if (aa s g).place=2 then ((if (cn s ch).closed=true then Sx.aG s g 3 else ai s g { aa s g with res:={ (aa s g).res with code:=2 },place:=18 }),true)
  else if (aa s g).place=3 then ((if ke (cn s ch)=true then ai s g { aa s g with bE:=0,place:=4 } else br s g (cZ 0 false) 18),true)
  else if (aa s g).place=5 then ((if (cn s ch).closed=true∧(cn s ch).buf.length=0 then br s g (cZ 0 false) 16 else if (cn s ch).closed=true then Sx.aG s g 9 else Sx.aG s g 6),true)
  else if (aa s g).place=6 then ((if (cn s ch).send.length=0 then Sx.aG s g 9 else taken s g ((cn s ch).send.headD 0) 7 8),true)
  else if (aa s g).place=7 then (cU s g 6 8,true)
  else if (aa s g).place=8 then (ai (Sx.serve (Sx.hand (aT s (aa s g).hold) ch (aa s g).hold).1 g (aa s g).hold true) g { aa (Sx.serve (Sx.hand (aT s (aa s g).hold) ch (aa s g).hold).1 g (aa s g).hold true) g with res:=cZ (Sx.hand (aT s (aa s g).hold) ch (aa s g).hold).2 true,place:=16 },true)
  else if (aa s g).place=9 then (vZ s g (ag s g) ch,true)
  else if (aa s g).place=10 then (aI s g ⟨true,g,ch,-1,false,0,false⟩,true)
  else if (aa s g).place=11 then (ai (aA s ch { cn s ch with recv:=(cn s ch).recv ++ [(aa s g).aI] }) g { aa s g with iJ:=s.step,place:=12 },true)
  else if (aa s g).place=14 then (ai s g { aa s g with res:=if (su s (aa s g).param).done=true then cZ (su s (aa s g).param).v true else cZ 0 false,param:=-1,place:=15 },true)
  else (s,false):=by
 subst he;unfold bz vZ;dsimp only;rw [az,hc,if_neg (by simp),if_neg (by rw [hm];simp)];simp only [apply_ite (fun x=>(x,true))]
theorem Pb (b:Nat) (u:U) (s:ah) (g:Nat) (h:Ia s g) (hu:cA u s) :
  av prog 24 [.c (.v (pt b)),.c (nI g)] (wd b u s) (fun x:{ u':U // cA u' (bz s g).1 }=>(.c (bI (bz s g).2),wd b x.1 (bz s g).1)):=by
 have hg:=h.cp.lt;haveI:Sx.bt g s:=⟨hg⟩
 have c8:=h.cp.c8;have O:=Dr b u s g hg h.cp.dm h.cp.oc;have CC:=N6 b u s g h.cp hu;refine av.intro func24 rfl rfl rfl (fun ok e=>?_)
 by_cases hk:(ag s g).kind=3∨(ag s g).kind=5
 case neg =>
  have k2:((ag s g).kind != 3)=true:=by simp;omega
  have k4:((ag s g).kind != 5)=true:=by simp;omega
  have er:bz s g=(s,false):=by unfold bz;dsimp only;rw [if_pos (by omega)]
  rw [er]
  repeat (first | (refine K.call ?_;refine JO.ld (Ld.bw (O) (qb rfl) rfl (by (exact aW.cons .refl (.cons .refl .nil)))) rfl ?_;intro _) | refine ay ?_ | intro _)
  (exact J.jR [_] rfl func24 rfl (.cons (.tmp rfl) .nil) ⟨u,hu⟩ (by exact .refl) rfl)
 have K:((ag s g).kind != 3)=false∨((ag s g).kind != 3)=true∧((ag s g).kind != 5)=false:=by
  rcases hk with k | k
  ·exact .inl (by rw [k];rfl)
  ·exact .inr ⟨by rw [k];rfl,by rw [k];rfl⟩
 cases iH:(common s g).2 with
 | true =>
  have er:bz s g=((common s g).1,true):=by unfold bz;dsimp only;rw [if_neg (by omega),if_pos iH]
  rw [iH] at CC;rw [er];rcases K with k2 | ⟨k2,k4⟩
  all_goals
   repeat (first | (refine K.call ?_;first | (refine JO.ld (Ld.bw (O) (qb rfl) rfl (by (exact aW.cons .refl (.cons .refl .nil)))) rfl ?_;intro _) | (refine JO.ld (Ld.bw CC (qb rfl) rfl (.cons .refl (.cons .refl .nil))) rfl ?_;intro y)) | refine ay ?_ | intro _)
   (exact J.jR [_] rfl func24 rfl (.cons (.tmp rfl) .nil) y (by exact .refl) rfl)
 | false =>
 have e1:common s g=(s,false):=Prod.ext (Oi iH) iH;rw [e1] at CC;dsimp only at CC
 by_cases hp:∀ p∈([1,2,3,5,6,7,8,9,10,11,14]:List Int),(aa s g).place≠p
 ·rw [aaS hk e1 hp];have N:∀ p,p∈([1,2,3,5,6,7,8,9,10,11,14]:List Int)→((aa s g).place == p)=false:=fun p m=>by simpa using hp p m
  have n1:=N 1 (by simp);have n2:=N 2 (by simp);have n3:=N 3 (by simp);have n5:=N 5 (by simp);have n6:=N 6 (by simp);have n7:=N 7 (by simp);have n8:=N 8 (by simp);have n9:=N 9 (by simp);have n10:=N 10 (by simp);have n11:=N 11 (by simp);have n14:=N 14 (by simp);rcases K with k2 | ⟨k2,k4⟩
  all_goals
   repeat (first | (refine K.load ?_;((refine jq rfl rfl rfl (Qt.bM rfl (aP) (by exact rfl)) ?_))) | (refine K.indexAddr ?_;refine jq rfl rfl rfl (Qt.aV rfl rfl cW cX) ?_) | (refine K.call ?_;first | (refine JO.ld (Ld.bw (O) (qb rfl) rfl (by (exact aW.cons .refl (.cons .refl .nil)))) rfl ?_;intro _) | (refine JO.ld (Ld.bw CC (qb rfl) rfl (.cons .refl (.cons .refl .nil))) rfl ?_;intro y)) | refine ay ?_ | intro _)
   (exact J.jR [_] rfl func24 rfl (.cons (.tmp rfl) .nil) y (by exact .refl) rfl)
 have hq:((aa s g).place=1∨(aa s g).place=2∨(aa s g).place=3)∨((aa s g).place=5∨(aa s g).place=6∨(aa s g).place=7∨(aa s g).place=8∨(aa s g).place=9)∨((aa s g).place=10∨(aa s g).place=11∨(aa s g).place=14):=by
  false_or_by_contra
  exact hp fun p m=>by simp only [List.mem_cons,List.not_mem_nil,or_false] at m;omega
 obtain ⟨k,hC⟩:=h.ch hk (by omega) (by omega) (by omega);have hI:=hC.is;have hm:aL s (ag s g).ch=true:=hI.made;have he:=hC.e;have er:=aaT hk e1 hm he;have l6:(aa s g).place=6→∀ i r,(cn s ((k:Int) + 1)).send=i :: r→0≤i∧i < s.aB.length∧(0≤(su s i).cs∨∃ o,jj s g o i):=by rw [← he];exact h.l6 hk
 have l7:=h.l7 hk;have cE:∀ {X:ah},bz s g=(X,true)→(bz s g).1=X:=fun e=>by rw [e]
 have hr:(bz s g).2=true:=by
  rw [er];rcases hq with (e | e | e) | (e | e | e | e | e) | e | e | e <;> simp only [e,Int.reduceEq,if_true,if_false]
 rw [hr];rcases hq with hq | hq | hq
 ·have C1:=fun u hu=>aaL b u s g k (ag s g).ch hg hI hu (bz s g).1 (by
   rcases hq with e | e | e
   all_goals simp only [e,Int.reduceEq,if_true,if_false] at er
   ·exact .inl ⟨e,cE er⟩
   ·exact .inr (.inl ⟨e,cE er⟩)
   ·exact .inr (.inr ⟨e,cE er⟩))
  rcases hq with e | e | e
  all_goals
   have P:=fun c:Int=>congrArg (fun x:Int=>x == c) e
   rcases K with k2 | ⟨k2,k4⟩
   all_goals
    repeat (first | (refine K.load ?_;((refine jq rfl rfl rfl (Qt.bM rfl (aP) (by exact rfl)) ?_))) | (refine K.indexAddr ?_;refine jq rfl rfl rfl (Qt.aV rfl rfl cW cX) ?_) | refine aK (P _) ?_ | (refine K.call ?_;first | (refine JO.ld (Ld.bw (O) (qb rfl) rfl (by (exact aW.cons .refl (.cons .refl .nil)))) rfl ?_;intro _) | (refine JO.ld (Ld.bw CC (qb rfl) rfl (.cons .refl (.cons .refl .nil))) rfl ?_;intro y) | (refine JO.ld (Ld.bw (C1 y.1 y.2) (qb rfl) rfl (.cons .refl (.cons .refl (.cons .refl .nil)))) rfl ?_;intro z)) | refine ay ?_ | intro _)
    (exact J.jR [_] rfl func24 rfl (.cons (.tmp rfl) .nil) z (by exact .refl) rfl)
 ·have C1:=fun u hu=>aaP b u s g k (ag s g) hk hg hC h.qs h.wk hu (bz s g).1 (by
   rcases hq with e | e | e | e | e
   all_goals simp only [e,Int.reduceEq,if_true,if_false] at er
   ·exact .inl ⟨e,cE er⟩
   ·exact .inr (.inl ⟨e,l6 e,cE er⟩)
   ·exact .inr (.inr (.inl ⟨e,l7 (.inl e),cE er⟩))
   ·exact .inr (.inr (.inr (.inl ⟨e,l7 (.inr e),cE er⟩)))
   ·exact .inr (.inr (.inr (.inr ⟨e,cE er⟩))))
  rcases hq with e | e | e | e | e
  all_goals
   have P:=fun c:Int=>congrArg (fun x:Int=>x == c) e
   rcases K with k2 | ⟨k2,k4⟩
   all_goals
    repeat (first | (refine K.load ?_;((refine jq rfl rfl rfl (Qt.bM rfl (aP) (by exact rfl)) ?_))) | (refine K.indexAddr ?_;refine jq rfl rfl rfl (Qt.aV rfl rfl cW cX) ?_) | refine aK (P _) ?_ | (refine K.call ?_;first | (refine JO.ld (Ld.bw (O) (qb rfl) rfl (by (exact aW.cons .refl (.cons .refl .nil)))) rfl ?_;intro _) | (refine JO.ld (Ld.bw CC (qb rfl) rfl (.cons .refl (.cons .refl .nil))) rfl ?_;intro y) | (refine JO.ld (Ld.bw (C1 y.1 y.2) (qb rfl) rfl (.cons .refl (.cons .refl (.cons .refl .nil)))) rfl ?_;intro z)) | refine ay ?_ | intro _)
    (exact J.jR [_] rfl func24 rfl (.cons (.tmp rfl) .nil) z (by exact .refl) rfl)
 ·have C1:=fun u hu=>aaO b u s g k (ag s g).ch hg hI hu (bz s g).1 (by
   rw [he];rcases hq with e | e | e
   all_goals simp only [e,Int.reduceEq,if_true,if_false] at er
   ·exact .inl ⟨e,⟨h.cp.fr,h.xH e⟩,cE er⟩
   ·exact .inr (.inl ⟨e,⟨h.qs,h.O5 hk e⟩,cE er⟩)
   ·exact .inr (.inr ⟨e,h.uj hk e,cE er⟩))
  rcases hq with e | e | e
  all_goals
   have P:=fun c:Int=>congrArg (fun x:Int=>x == c) e
   rcases K with k2 | ⟨k2,k4⟩
   all_goals
    repeat (first | (refine K.load ?_;((refine jq rfl rfl rfl (Qt.bM rfl (aP) (by exact rfl)) ?_))) | (refine K.indexAddr ?_;refine jq rfl rfl rfl (Qt.aV rfl rfl cW cX) ?_) | refine aK (P _) ?_ | (refine K.call ?_;first | (refine JO.ld (Ld.bw (O) (qb rfl) rfl (by (exact aW.cons .refl (.cons .refl .nil)))) rfl ?_;intro _) | (refine JO.ld (Ld.bw CC (qb rfl) rfl (.cons .refl (.cons .refl .nil))) rfl ?_;intro y) | (refine JO.ld (Ld.bw (C1 y.1 y.2) (qb rfl) rfl (.cons .refl (.cons .refl (.cons .refl .nil)))) rfl ?_;intro z)) | refine ay ?_ | intro _)
    (exact J.jR [_] rfl func24 rfl (.cons (.tmp rfl) .nil) z (by exact .refl) rfl)
end Fl
open Go.RowKit
namespace Fl
open Sx Go.Proofs.Tryz
set_option maxRecDepth 100000
theorem aaU {s:ah} {g:Nat} (h:Sx.Good s) (hg:g < s.gs.length) (st:(aa s g).status=0):Ia s g:=by
 have h':=h.toMInv;have wk:=((AH h).gr g).wk;have nq:∀ k:Int,((ag s g).kind=3∨(ag s g).kind=5)→(aa s g).place < 12→∀ i j,¬ Sx.dI (aa s g) i j:=fun _ k e i j q=>by
  have kk:(aH (aa s g)).kind=3∨(aH (aa s g)).kind=5:=k;unfold Sx.dI Sx.SR SE at q;rcases q with ⟨_,a,_⟩ | ⟨a,_⟩ <;> omega
 have kd:(ag s g).kind=3∨(ag s g).kind=5→(aa s g).place=11→(ag s g).kind=3:=fun k e=>by
  have pl:=we h' hg (by omega);unfold bJ at pl;omega
 refine ⟨Oc h hg,h.qs,by omega,fun k a b c=>bU h hg ⟨a,b,c⟩ (by omega),fun k e i r hr=>?_,fun k e=>aaC h' hg (nq 0 k (by omega)) e,fun _=>(Dp h' hg).2,fun k e=>aaD h' hg (.inr (kd k e)) e,fun _ e=>Dq h' hg st e⟩;have m:=h'.kn hg (by omega) (by omega);have q:=O6 (i:=i) h' hg (nq 0 k (by omega)) m.1 m.2 (.inr (by rw [hr];simp));obtain ⟨⟨o,ho⟩,_⟩:=q;exact ⟨ho.h0,ho.h1,.inr ⟨o,ho⟩⟩
theorem aaV {s:ah} {g:Nat} (h:Sx.Good s) (hg:g < s.gs.length) (st:(aa s g).status=0):Sx.Good (bz s g).1:=⟨h.toMInv.bz hg st,h.z.bz⟩
end Fl
end Go.Proofs.YtdjhhbpedllnhaaGreat
