/-
  What the laws need, part RA3.
  Conditions: none.
-/
import Derived.Test.YtofnbflkhgammaaGreatRA2
set_option linter.unusedVariables false
set_option linter.unusedSimpArgs false
set_option linter.unnecessarySimpa false
set_option maxHeartbeats 2000000
namespace Go.Proofs.YtofnbflkhgammaaGreat
open Go.RowKit
namespace Fl
open Sx Go.Proofs.Tryz
set_option maxRecDepth 100000
theorem aac.drop {s:ah} {ch:Int} {k:Nat} (h:aac s ch k) {i:Int}:aac (bq s i) ch k:=by
 obtain ⟨e,k1,k8,c0,bl⟩:=h;unfold bq
 split
 next m =>
  have m':=m;unfold aN at m';simp only [decide_eq_true_eq] at m';obtain ⟨j,ej⟩:∃ j:Nat,(su s i).ch=(j:Int) + 1:=⟨((su s i).ch - 1).toNat,by omega⟩
  rw [ej];have q:=GG (s:=s) (k:=j) (j:=k) (c:={ cn s ((j:Int) + 1) with recv:=ig (cn s ((j:Int) + 1)).recv i,send:=ig (cn s ((j:Int) + 1)).send i }) (by omega);refine ⟨e,?_,k8,?_,?_⟩
  ·show k < (List.set _ _ _).length;rw [List.length_set];exact k1
  ·rw [q];split
   next z=>subst z;exact c0
   next=>exact c0
  ·rw [q];split
   next z=>subst z;exact bl
   next=>exact bl
 next=>exact ⟨e,k1,k8,c0,bl⟩
theorem abl (b:Nat) (u:U) (s:ah) (g k:Nat) (ch:Int) (hg:g < s.gs.length) (hC:aac s ch k) (hu:dG u s) (S:ah)
  (hp:((aa s g).place=10∧(0≤s.fresh∧g < s.cache.length∧((aS s g).2.2=true→0≤(aS s g).2.1∧(aS s g).2.1 < s.aC.length))∧S=aH s g ⟨true,g,ch,-1,false,0,false⟩)
  ∨((aa s g).place=11∧(Qs s∧0≤(aa s g).aH∧(aa s g).aH < s.aC.length∧∀ c,(aa s g).aH∉(cn s c).recv∧(aa s g).aH∉(cn s c).send)∧S=ai (aE s ((k:Int) + 1) { cn s ((k:Int) + 1) with recv:=(cn s ((k:Int) + 1)).recv ++ [(aa s g).aH] }) g { aa s g with ic:=s.step,place:=12 })
  ∨((aa s g).place=14∧(0≤(aa s g).param∧(aa s g).param < s.aC.length)∧S=ai s g { aa s g with res:=if (su s (aa s g).param).done=true then eJ (su s (aa s g).param).v true else eJ 0 false,param:=-1,place:=15 })) :
  ax prog 115 [.c (.v (pt b)),.c (nI g),.c (nI ch)] (wd b u s) (fun x:{ u':U // dG u' S }=>(.aZ [],wd b x.1 S)):=by
 haveI:Sx.bT g s:=⟨hg⟩
 obtain ⟨he,hk,h8,c0,bl⟩:=hC;refine ax.intro func115 rfl rfl rfl (fun ok e=>?_);rcases hp with ⟨e1,⟨f0,f1,f2⟩,rfl⟩ | ⟨e1,⟨Q,m0,m1,mn⟩,rfl⟩ | ⟨e1,⟨p0,p1⟩,rfl⟩
 ·have P:∀ c,((aa s g).place == c)=((10:Int) == c):=fun c=>by rw [e1]
  have C1:=ZC b u s g ⟨true,g,ch,-1,false,0,false⟩ hg hu f0 f1 f2
  repeat (first | (refine K.load ?_;((refine jq rfl rfl rfl (Qt.cE rfl (bX) (by exact rfl)) ?_))) | (refine K.indexAddr ?_;refine jq rfl rfl rfl (Qt.bM rfl rfl eB eD) ?_) | refine aL (P _) ?_ | (refine K.call ?_;refine JO.ld (Ld.aV C1 (qb rfl) rfl (.cons .refl (.cons .refl (.cons .refl .nil)))) rfl ?_;intro y) | refine gn ?_)
  (exact J.lp func115 rfl .nil y (by exact .refl) rfl)
 ·have P:∀ c,((aa s g).place == c)=((11:Int) == c):=fun c=>by rw [e1]
  have C1:=aa6 b u Q hk (aa s g).aH m0 m1 mn;have RC:=abd ch k he h8;generalize hS:aE s ((k:Int) + 1) { cn s ((k:Int) + 1) with recv:=(cn s ((k:Int) + 1)).recv ++ [(aa s g).aH] }=S1 at C1 ⊢;have hz:dG u S1:=by rw [← hS];exact hu.to
  have sq:g < S1.gs.length:=by rw [← hS];exact hg
  have e3:ai S1 g { aa s g with ic:=s.step,place:=12 }=bg (bg S1 g fun x=>{ x with ic:=S1.step }) g fun x=>{ x with place:=12 }:=by
   rw [kL sq,← hS];rfl
  rw [e3];clear hS;haveI:Sx.bT g S1:=⟨sq⟩
  repeat (first | (refine K.load ?_;((refine jq rfl rfl rfl (Qt.cE rfl (bX) (by exact rfl)) ?_))) | (refine K.indexAddr ?_;refine jq rfl rfl rfl (Qt.bM rfl rfl eB eD) ?_) | refine aL (P _) ?_ | refine gn ?_)
  refine J.draw (by kernel_rfl) rfl ?_;refine JW.p7 none ?_;refine tk 0 ?_;refine tk 1 ?_;refine tk 2 ?_;refine tk 4 ?_;refine tk 6 ?_;refine tk 7 ?_;refine tk 8 ?_;refine JD.Jo (i:=3) (j:=5) (q:=9) (by kernel_rfl) ?_ ?_ ?_
  (refine JS.q rfl rfl rfl (qb rfl) (Qt.fR rfl (by exact rfl)) ?_)
  refine JD.cU (i:=5) (j:=9) (by kernel_rfl) ?_ ?_;refine JS.sW rfl rfl rfl (qb rfl) (Ld.pure (RC) (qb rfl) rfl lq) (eW.nil) (fun _=>?_);refine jk 9 rfl rfl rfl rfl (Qt.cE rfl bX rfl) ?_;refine JD.bJ (i:=10) (by kernel_rfl) ?_;refine JS.sW rfl rfl rfl (qb rfl) (Ld.aV C1 (qb rfl) rfl (.cons .refl (.cons .refl (.cons .refl .nil)))) (eW.aT) (fun _=>?_);refine bt ?_
  rotate_left
  refine JS.q rfl rfl rfl (qb rfl) (Qt.cE rfl bX rfl) ?_;refine JD.bJ (i:=5) (by kernel_rfl) ?_;refine JS.sW rfl rfl rfl (qb rfl) (Ld.pure (RC) (qb rfl) rfl lq) (eW.nil) (fun _=>?_);refine JD.bJ (i:=10) (by kernel_rfl) ?_;refine JS.sW rfl rfl rfl (qb rfl) (Ld.aV C1 (qb rfl) rfl (.cons .refl (.cons .refl (.cons .refl .nil)))) (eW.aT) (fun _=>?_);refine bt ?_
  rotate_left
  refine JS.sW rfl rfl rfl (qb rfl) (Ld.pure (RC) (qb rfl) rfl lq) (eW.nil) (fun _=>?_);refine JD.cU (i:=3) (j:=9) (by kernel_rfl) ?_ ?_
  (refine JS.q rfl rfl rfl (qb rfl) (Qt.fR rfl (by exact rfl)) ?_)
  refine jk 9 rfl rfl rfl rfl (Qt.cE rfl bX rfl) ?_;refine JD.bJ (i:=10) (by kernel_rfl) ?_;refine JS.sW rfl rfl rfl (qb rfl) (Ld.aV C1 (qb rfl) rfl (.cons .refl (.cons .refl (.cons .refl .nil)))) (eW.aT) (fun _=>?_);refine bt ?_
  rotate_left
  refine JS.q rfl rfl rfl (qb rfl) (Qt.cE rfl bX rfl) ?_;refine jk 3 rfl rfl rfl rfl (Qt.fR rfl (by exact rfl)) ?_;refine JD.bJ (i:=10) (by kernel_rfl) ?_;refine JS.sW rfl rfl rfl (qb rfl) (Ld.aV C1 (qb rfl) rfl (.cons .refl (.cons .refl (.cons .refl .nil)))) (eW.aT) (fun _=>?_);refine bt ?_
  rotate_left
  refine JS.q rfl rfl rfl (qb rfl) (Qt.cE rfl bX rfl) ?_;refine JD.cU (i:=3) (j:=5) (by kernel_rfl) ?_ ?_
  (refine JS.q rfl rfl rfl (qb rfl) (Qt.fR rfl (by exact rfl)) ?_)
  refine JD.bJ (i:=5) (by kernel_rfl) ?_;refine JS.sW rfl rfl rfl (qb rfl) (Ld.pure (RC) (qb rfl) rfl lq) (eW.nil) (fun _=>?_);refine JD.bJ (i:=10) (by kernel_rfl) ?_;refine JS.sW rfl rfl rfl (qb rfl) (Ld.aV C1 (qb rfl) rfl (.cons .refl (.cons .refl (.cons .refl .nil)))) (eW.aT) (fun _=>?_);refine bt ?_
  rotate_left
  refine JS.sW rfl rfl rfl (qb rfl) (Ld.pure (RC) (qb rfl) rfl lq) (eW.nil) (fun _=>?_);refine jk 3 rfl rfl rfl rfl (Qt.fR rfl (by exact rfl)) ?_;refine JD.bJ (i:=10) (by kernel_rfl) ?_;refine JS.sW rfl rfl rfl (qb rfl) (Ld.aV C1 (qb rfl) rfl (.cons .refl (.cons .refl (.cons .refl .nil)))) (eW.aT) (fun _=>?_);refine bt ?_
  rotate_left
  all_goals
   repeat (first | (refine K.store ?_;first | ((refine JO.ld (Ld.dK rfl rfl (by exact rfl) bX) rfl (fun _=>?_)));refine JO.eK b g (fun x=>{ x with ic:=S1.step }) (by exact rfl) ?_ | ((refine JO.ld (Ld.dK rfl rfl (by exact rfl) bX) rfl (fun _=>?_)));refine JO.eK b g (fun x=>{ x with place:=12 }) (by exact rfl) ?_) | refine gn ?_)
   (exact J.lp func115 rfl .nil ⟨u,hz.to⟩ (by exact .refl) rfl)
 ·have P:∀ c,((aa s g).place == c)=((14:Int) == c):=fun c=>by rw [e1]
  haveI:Sx.gX (aa s g).param s:=⟨p0,p1⟩
  have hv:dG u (ai s g { aa s g with res:=if (su s (aa s g).param).done=true then eJ (su s (aa s g).param).v true else eJ 0 false,param:=-1,place:=15 }):=hu.to;generalize hd:(su s (aa s g).param).done=dn at hv ⊢;haveI:Sx.kK s (aa s g).param { su s (aa s g).param with done:=dn }:=⟨by rw [← hd]⟩
  repeat (first | (refine K.load ?_;((refine jq rfl rfl rfl (Qt.cE rfl (bX) (by exact rfl)) ?_))) | (refine K.store ?_;((refine JO.ld (Ld.Qd rfl rfl rfl (by exact rfl) (by exact rfl) bX) rfl (fun _=>?_)));refine JO.eK b g (fun x=>{ x with res:=⟨1,-1,0,false,0⟩ }) (by exact rfl) ?_) | (refine K.indexAddr ?_;refine jq rfl rfl rfl (Qt.bM rfl rfl eB eD) ?_) | refine aL (P _) ?_ | refine gn ?_)
  refine J.draw (by kernel_rfl) rfl ?_;refine JW.base (some 11) ?_;refine tk 0 ?_;refine tk 1 ?_;refine tk 2 ?_;refine tk 3 ?_;refine tk 4 ?_;refine tk 5 ?_;refine tk 6 ?_;refine JD.take 7 rfl rfl (by kernel_rfl) rfl (qb rfl) (Qt.cE rfl bX rfl) rfl ?_;refine JD.take 8 rfl rfl (by kernel_rfl) rfl (qb rfl) (Qt.bM rfl rfl (nL (s:=s)) nM) rfl ?_;refine JD.take 9 rfl rfl (by kernel_rfl) rfl (qb rfl) (Qt.PF rfl oL rfl) rfl ?_;refine jl 10 rfl rfl rfl rfl (Ld.alloc (qb rfl)) .none (fun _=>?_);refine jt 11 rfl rfl (Ld.aX rfl rfl rfl (by exact rfl) (by exact rfl)) (fun _=>?_);refine bS ?_
  cases dn with
  | true =>
   rw [if_pos rfl] at hv ⊢;have er:ai s g { aa s g with res:=eJ (su s (aa s g).param).v true,param:=-1,place:=15 }=bg (bg (bg (bg (bg s g fun x=>{ x with res:=⟨1,-1,0,false,0⟩ }) g fun x=>{ x with res:={ x.res with v:=(su s (aa s g).param).v } }) g fun x=>{ x with res:={ x.res with ok:=true } }) g fun x=>{ x with param:=-1 }) g fun x=>{ x with place:=15 }:=by
    rw [kL Sx.bT.h,kL Sx.bT.h,kL Sx.bT.h,kL hg];rfl
   rw [er] at hv ⊢
   repeat (first | (refine K.store ?_;first | ((refine JO.ld (Ld.dK rfl rfl (by exact rfl) bX) rfl (fun _=>?_)));refine JO.eK b g (fun x=>{ x with res:={ x.res with v:=(su s (aa s g).param).v } }) (by exact rfl) ?_ | ((refine JO.ld (Ld.dK rfl rfl (by exact rfl) bX) rfl (fun _=>?_)));refine JO.eK b g (fun x=>{ x with res:={ x.res with ok:=true } }) (by exact rfl) ?_ | ((refine JO.ld (Ld.dK rfl rfl (by exact rfl) bX) rfl (fun _=>?_)));refine JO.eK b g (fun x=>{ x with param:=-1 }) (by exact rfl) ?_ | ((refine JO.ld (Ld.dK rfl rfl (by exact rfl) bX) rfl (fun _=>?_)));refine JO.eK b g (fun x=>{ x with place:=15 }) (by exact rfl) ?_) | refine gn ?_)
   (exact J.BL [_] rfl func115 rfl .nil ⟨u,hv⟩ (by exact .refl) rfl)
  | false =>
   rw [if_neg (by simp)] at hv ⊢;have er:ai s g { aa s g with res:=eJ 0 false,param:=-1,place:=15 }=bg (bg (bg s g fun x=>{ x with res:=⟨1,-1,0,false,0⟩ }) g fun x=>{ x with param:=-1 }) g fun x=>{ x with place:=15 }:=by
    rw [kL Sx.bT.h,kL hg];rfl
   rw [er] at hv ⊢
   repeat (first | (refine K.store ?_;first | ((refine JO.ld (Ld.dK rfl rfl (by exact rfl) bX) rfl (fun _=>?_)));refine JO.eK b g (fun x=>{ x with param:=-1 }) (by exact rfl) ?_ | ((refine JO.ld (Ld.dK rfl rfl (by exact rfl) bX) rfl (fun _=>?_)));refine JO.eK b g (fun x=>{ x with place:=15 }) (by exact rfl) ?_) | refine gn ?_)
   (exact J.BL [_] rfl func115 rfl .nil ⟨u,hv⟩ (by exact .refl) rfl)
theorem abm (b:Nat) (u:U) (s:ah) (g k:Nat) (o:Pn.Op) (hk5:o.kind=3∨o.kind=5) (hg:g < s.gs.length) (hC:uq s o k) (Q:Qs s) (hw:(aa s g).an.length≤1000) (hu:dG u s) (S:ah)
  (hp:((aa s g).place=5∧S=if (cn s ((k:Int) + 1)).closed=true∧(cn s ((k:Int) + 1)).buf.length=0 then bH s g (eJ 0 false) 16 else if (cn s ((k:Int) + 1)).closed=true then Sx.aI s g 9 else Sx.aI s g 6)
  ∨((aa s g).place=6∧(∀ i r,(cn s ((k:Int) + 1)).send=i :: r→0≤i∧i < s.aC.length∧(0≤(su s i).cs∨∃ o,oP s g o i))∧S=if (cn s ((k:Int) + 1)).send.length=0 then Sx.aI s g 9 else taken s g ((cn s ((k:Int) + 1)).send.headD 0) 7 8)
  ∨((aa s g).place=7∧(∃ q,oP s g q (aa s g).hold)∧S=cQ s g 6 8)
  ∨((aa s g).place=8∧(∃ q,oP s g q (aa s g).hold)∧S=ai (Sx.serve (Sx.hand (bq s (aa s g).hold) ((k:Int) + 1) (aa s g).hold).1 g (aa s g).hold true) g { aa (Sx.serve (Sx.hand (bq s (aa s g).hold) ((k:Int) + 1) (aa s g).hold).1 g (aa s g).hold true) g with res:=eJ (Sx.hand (bq s (aa s g).hold) ((k:Int) + 1) (aa s g).hold).2 true,place:=16 })
  ∨((aa s g).place=9∧S=aah s g o ((k:Int) + 1))) :
  ax prog 114 [.c (.v (pt b)),.c (nI g),.agg (dH o)] (wd b u s) (fun x:{ u':U // dG u' S }=>(.aZ [],wd b x.1 S)):=by
 haveI:Sx.bT g s:=⟨hg⟩
 have hI:=hC.is;have he:=hI.e;have k8:=hI.k8;refine ax.intro func114 rfl rfl rfl (fun ok e=>?_);rcases hp with ⟨e1,rfl⟩ | ⟨e1,l6,rfl⟩ | ⟨e1,⟨q,ho⟩,rfl⟩ | ⟨e1,⟨q,ho⟩,rfl⟩ | ⟨e1,rfl⟩
 ·have P:∀ c,((aa s g).place == c)=((5:Int) == c):=fun c=>by rw [e1]
  have C1:=abj b u s g k o.ch hg hI;have hv:dG u (if (cn s ((k:Int) + 1)).closed=true∧(cn s ((k:Int) + 1)).buf.length=0 then bH s g (eJ 0 false) 16 else if (cn s ((k:Int) + 1)).closed=true then Sx.aI s g 9 else Sx.aI s g 6):=by unfold bH;split;exact hu.to;split <;> exact hu.to
  repeat (first | (refine K.load ?_;((refine jq rfl rfl rfl (Qt.cE rfl (bX) (by exact rfl)) ?_))) | (refine K.indexAddr ?_;refine jq rfl rfl rfl (Qt.bM rfl rfl eB eD) ?_) | refine aL (P _) ?_ | (refine K.call ?_;refine JO.ld (Ld.aV (C1) (qb rfl) rfl (by (exact aK.cons .refl (.cons .refl (.cons .refl .nil))))) rfl ?_;intro _) | refine av ?_ | intro _)
  (exact J.BL [_] rfl func114 rfl .nil ⟨u,hv⟩ (by exact .refl) rfl)
 ·have P:∀ c,((aa s g).place == c)=((6:Int) == c):=fun c=>by rw [e1]
  have RC:=aaC o.ch k he k8;have C1:=OP b u s g (2 * ((k:Int) + 1) - 1) 7 8 (cn s ((k:Int) + 1)).send hg Q (Fs (by omega)) l6;unfold rj at C1;have hv:dG u (if (cn s ((k:Int) + 1)).send.length=0 then Sx.aI s g 9 else taken s g ((cn s ((k:Int) + 1)).send.headD 0) 7 8):=by unfold taken;split;exact hu.to;split <;> exact hu.to
  generalize hS:(if (cn s ((k:Int) + 1)).send.length=0 then Sx.aI s g 9 else taken s g ((cn s ((k:Int) + 1)).send.headD 0) 7 8)=S at hv ⊢
  by_cases hl:(cn s ((k:Int) + 1)).send.length=0
  all_goals
   simp only [hl,if_true,if_false] at C1 hS;subst hS
   try rw [show Sx.aI s g 9=bg s g fun x=>{ x with place:=9 } from rfl] at hv ⊢
   repeat (first | (refine K.load ?_;((refine jq rfl rfl rfl (Qt.cE rfl (bX) (by exact rfl)) ?_))) | (refine K.store ?_;((refine JO.ld (Ld.dK rfl rfl (by exact rfl) bX) rfl (fun _=>?_)));refine JO.eK b g (fun x=>{ x with place:=9 }) (by exact rfl) ?_) | (refine K.indexAddr ?_;refine jq rfl rfl rfl (Qt.bM rfl rfl eB eD) ?_) | refine aL (P _) ?_ | (refine K.call ?_;first | (refine JO.pure RC rfl (qb rfl) rfl (.cons .refl .nil) ?_) | (refine JO.ld (Ld.aV C1 (qb rfl) rfl (.cons .refl (.cons .refl (.cons .refl (.cons .refl (.cons .refl .nil)))))) rfl ?_;intro _)) | refine av ?_ | intro _)
   (exact J.BL [_] rfl func114 rfl .nil ⟨u,hv⟩ (by exact .refl) rfl)
 ·have P:∀ c,((aa s g).place == c)=((7:Int) == c):=fun c=>by rw [e1]
  have C1:=ZB b u s g q 6 8 hg ho Q;have hv:dG u (cQ s g 6 8):=by unfold cQ;dsimp only;split <;> exact hu.to
  repeat (first | (refine K.load ?_;((refine jq rfl rfl rfl (Qt.cE rfl (bX) (by exact rfl)) ?_))) | (refine K.indexAddr ?_;refine jq rfl rfl rfl (Qt.bM rfl rfl eB eD) ?_) | refine aL (P _) ?_ | (refine K.call ?_;refine JO.ld (Ld.aV (C1) (qb rfl) rfl (by (exact aK.cons .refl (.cons .refl (.cons .refl (.cons .refl .nil)))))) rfl ?_;intro _) | refine av ?_ | intro _)
  (exact J.BL [_] rfl func114 rfl .nil ⟨u,hv⟩ (by exact .refl) rfl)
 ·have P:∀ c,((aa s g).place == c)=((8:Int) == c):=fun c=>by rw [e1]
  haveI:Sx.bT q s:=⟨ho.o1⟩
  haveI:Sx.gX (aa s g).hold s:=⟨ho.h0,ho.h1⟩
  obtain ⟨w,WD⟩:=GK b u Q (aa s g).hold;have hd:su (bq s (aa s g).hold) (aa s g).hold=su s (aa s g).hold:=Sx.kK.h;have eg:aa (bq s (aa s g).hold) g=aa s g:=Sx.dY.h;have hC2:aac (bq s (aa s g).hold) o.ch k:=hI.drop;have C1:=abf b u (bq s (aa s g).hold) o.ch (aa s g).hold k hC2 ho.h0 Sx.gX.h1;have hx:∀ (s0:ah) (c i:Int),(Sx.hand s0 c i).1.gs=s0.gs∧(Sx.hand s0 c i).1.aC=s0.aC:=fun s0 c i=>by
   unfold Sx.hand;dsimp only;split <;> exact ⟨rfl,rfl⟩
  have hy:=hx (bq s (aa s g).hold) ((k:Int) + 1) (aa s g).hold;have hz:dG u (Sx.hand (bq s (aa s g).hold) ((k:Int) + 1) (aa s g).hold).1:=by
   haveI:ep (Sx.hand (bq s (aa s g).hold) ((k:Int) + 1) (aa s g).hold).1 s:=⟨by
    have d:ep (bq s (aa s g).hold) s:=inferInstance;unfold Sx.hand;dsimp only;split
    ·exact d.h
    ·exact d.h⟩
   exact hu.to
  have gl:g < (bq s (aa s g).hold).gs.length:=Sx.bT.h;have ql:q < (bq s (aa s g).hold).gs.length:=Sx.bT.h;have sl:(aa s g).hold < (bq s (aa s g).hold).aC.length:=Sx.gX.h1;generalize (Sx.hand (bq s (aa s g).hold) ((k:Int) + 1) (aa s g).hold).2=v at C1 ⊢;generalize (Sx.hand (bq s (aa s g).hold) ((k:Int) + 1) (aa s g).hold).1=S1 at C1 hy hz ⊢;have gl1:g < S1.gs.length:=by rw [hy.1];exact gl
  haveI:Sx.bT g S1:=⟨gl1⟩
  have gP:∀ a c:ah,a.gs=c.gs→aa a g=aa c g:=fun a c h=>by unfold aa;rw [h]
  have jO:∀ (a c:ah) (i:Int),a.aC=c.aC→su a i=su c i:=fun a c i h=>by unfold su;rw [h]
  have YW:aa S1 g=aa s g:=(gP _ _ hy.1).trans eg;have es1:su S1 (aa s g).hold=su s (aa s g).hold:=(jO _ _ _ hy.2).trans hd;have C2:=Xi b u S1 g q (aa s g).hold true gl1 (by rw [hy.1];exact ql) ho.ne ho.h0 (by rw [hy.2];exact sl) (by rw [es1];exact ho.e) (by rw [YW];exact hw);have er:ai (Sx.serve S1 g (aa s g).hold true) g { aa (Sx.serve S1 g (aa s g).hold true) g with res:=eJ v true,place:=16 }=bg (bg (Sx.serve S1 g (aa s g).hold true) g fun x=>{ x with res:=⟨1,-1,v,true,0⟩ }) g fun x=>{ x with place:=16 }:=by
   rw [kL Sx.bT.h];rfl
  have hv:∀ v2,dG (kM u g v2) (ai (Sx.serve S1 g (aa s g).hold true) g { aa (Sx.serve S1 g (aa s g).hold true) g with res:=eJ v true,place:=16 }):=fun v2=>dG.wk hz.to
  rw [er] at hv ⊢
  repeat (first | (refine K.load ?_;((refine jq rfl rfl rfl (Qt.cE rfl (bX) (by exact rfl)) ?_))) | (refine K.indexAddr ?_;refine jq rfl rfl rfl (Qt.bM rfl rfl eB eD) ?_) | refine aL (P _) ?_ | (refine K.call ?_;first | (refine JO.ld (Ld.aV (WD) (qb rfl) rfl (by (exact aK.cons .refl (.cons .refl .nil)))) rfl ?_;intro _) | (refine JO.ld (Ld.aV (C1) (qb rfl) rfl (by (exact aK.cons .refl (.cons .refl (.cons .refl .nil))))) rfl ?_;intro _)) | refine av ?_ | intro _)
  repeat (first | (refine K.store ?_;first | (first | refine JO.ld (Ld.dK rfl rfl (by exact rfl) bX) rfl (fun _=>?_) | refine JO.ld (Ld.Qd rfl rfl rfl (by exact rfl) (by exact rfl) bX) rfl (fun _=>?_));refine JO.eK b g (fun x=>{ x with res:=⟨1,-1,v,true,0⟩ }) (by exact rfl) ?_ | ((refine JO.ld (Ld.dK rfl rfl (by exact rfl) bX) rfl (fun _=>?_)));refine JO.eK b g (fun x=>{ x with place:=16 }) (by exact rfl) ?_) | (refine K.call ?_;refine JO.ld (Ld.aV C2 (qb rfl) rfl (.cons .refl (.cons .refl (.cons .refl (.cons .refl .nil))))) rfl ?_;intro v2) | refine gn ?_)
  (exact J.BL [_] rfl func114 rfl .nil ⟨kM u g v2,hv v2⟩ (by exact .refl) rfl)
 ·have P:∀ c,((aa s g).place == c)=((9:Int) == c):=fun c=>by rw [e1]
  have C1:=abk b u s g k o hk5 hg hC;have hv:dG u (aah s g o ((k:Int) + 1)):=by unfold aah bH;split;exact hu.to;split <;> exact hu.to
  repeat (first | (refine K.load ?_;((refine jq rfl rfl rfl (Qt.cE rfl (bX) (by exact rfl)) ?_))) | (refine K.indexAddr ?_;refine jq rfl rfl rfl (Qt.bM rfl rfl eB eD) ?_) | refine aL (P _) ?_ | (refine K.call ?_;refine JO.ld (Ld.aV (C1) (qb rfl) rfl (by (exact aK.cons .refl (.cons .refl (.cons .refl .nil))))) rfl ?_;intro _) | refine av ?_ | intro _)
  (exact J.BL [_] rfl func114 rfl .nil ⟨u,hv⟩ (by exact .refl) rfl)
structure aaq (s:ah) (g:Nat):Prop where
 cp:xT s g
 qs:Qs s
 wk:(aa s g).an.length≤1000
 ch:(ag s g).kind=3∨(ag s g).kind=5→(aa s g).place≠0→(aa s g).place≠18→(aa s g).place≠19→∃ k,uq s (ag s g) k
 l6:(ag s g).kind=3∨(ag s g).kind=5→(aa s g).place=6→∀ i r,(cn s (ag s g).ch).send=i :: r→0≤i∧i < s.aC.length∧(0≤(su s i).cs∨∃ o,oP s g o i)
 l7:(ag s g).kind=3∨(ag s g).kind=5→(aa s g).place=7∨(aa s g).place=8→∃ o,oP s g o (aa s g).hold
 uj:(aa s g).place=10→g < s.cache.length∧((aS s g).2.2=true→0≤(aS s g).2.1∧(aS s g).2.1 < s.aC.length)
 ZQ:(ag s g).kind=3∨(ag s g).kind=5→(aa s g).place=11→0≤(aa s g).aH∧(aa s g).aH < s.aC.length∧∀ c,(aa s g).aH∉(cn s c).recv∧(aa s g).aH∉(cn s c).send
 qX:(ag s g).kind=3∨(ag s g).kind=5→(aa s g).place=14→0≤(aa s g).param∧(aa s g).param < s.aC.length
theorem abp {s:ah} {g:Nat} (hk:(ag s g).kind=3∨(ag s g).kind=5) (hc:common s g=(s,false)) (h:∀ p∈([1,2,3,5,6,7,8,9,10,11,14]:List Int),(aa s g).place≠p):bR s g=(s,false):=by
 unfold bR;dsimp only;rw [aB,hc,if_neg (by simp),if_neg (h 1 (by simp)),if_neg (h 2 (by simp)),if_neg (h 3 (by simp)),if_neg (h 5 (by simp)),if_neg (h 6 (by simp)),if_neg (h 7 (by simp)),if_neg (h 8 (by simp)),if_neg (h 9 (by simp)),if_neg (h 10 (by simp)),if_neg (h 11 (by simp)),if_neg (h 14 (by simp)),ite_self]
theorem abq {s:ah} {g:Nat} {ch:Int} (hk:(ag s g).kind=3∨(ag s g).kind=5) (hc:common s g=(s,false)) (hm:aN s (ag s g).ch=true) (he:(ag s g).ch=ch):bR s g =
  if (aa s g).place=1 then ((if uM (cn s ch)=true then Sx.aI s g 4 else bH s g (aa s g).res 2),true)
  else if (aa s g).place=2 then ((if (cn s ch).closed=true then Sx.aI s g 3 else ai s g { aa s g with res:={ (aa s g).res with code:=2 },place:=18 }),true)
  else if (aa s g).place=3 then ((if uM (cn s ch)=true then ai s g { aa s g with bQ:=0,place:=4 } else bH s g (eJ 0 false) 18),true)
  else if (aa s g).place=5 then ((if (cn s ch).closed=true∧(cn s ch).buf.length=0 then bH s g (eJ 0 false) 16 else if (cn s ch).closed=true then Sx.aI s g 9 else Sx.aI s g 6),true)
  else if (aa s g).place=6 then ((if (cn s ch).send.length=0 then Sx.aI s g 9 else taken s g ((cn s ch).send.headD 0) 7 8),true)
  else if (aa s g).place=7 then (cQ s g 6 8,true)
  else if (aa s g).place=8 then (ai (Sx.serve (Sx.hand (bq s (aa s g).hold) ch (aa s g).hold).1 g (aa s g).hold true) g { aa (Sx.serve (Sx.hand (bq s (aa s g).hold) ch (aa s g).hold).1 g (aa s g).hold true) g with res:=eJ (Sx.hand (bq s (aa s g).hold) ch (aa s g).hold).2 true,place:=16 },true)
  else if (aa s g).place=9 then (aah s g (ag s g) ch,true)
  else if (aa s g).place=10 then (aH s g ⟨true,g,ch,-1,false,0,false⟩,true)
  else if (aa s g).place=11 then (ai (aE s ch { cn s ch with recv:=(cn s ch).recv ++ [(aa s g).aH] }) g { aa s g with ic:=s.step,place:=12 },true)
  else if (aa s g).place=14 then (ai s g { aa s g with res:=if (su s (aa s g).param).done=true then eJ (su s (aa s g).param).v true else eJ 0 false,param:=-1,place:=15 },true)
  else (s,false):=by
 subst he;unfold bR aah;dsimp only;rw [aB,hc,if_neg (by simp),if_neg (by rw [hm];simp)];simp only [apply_ite (fun x=>(x,true))]
theorem aaK (b:Nat) (u:U) (s:ah) (g:Nat) (h:aaq s g) (hu:dG u s) :
  ax prog 44 [.c (.v (pt b)),.c (nI g)] (wd b u s) (fun x:{ u':U // dG u' (bR s g).1 }=>(.c (bI (bR s g).2),wd b x.1 (bR s g).1)):=by
 have hg:=h.cp.lt;haveI:Sx.bT g s:=⟨hg⟩
 have c8:=h.cp.c8;have O:=Hl b u s g hg h.cp.dh h.cp.oc;have CC:=Zf b u s g h.cp hu;refine ax.intro func44 rfl rfl rfl (fun ok e=>?_)
 by_cases hk:(ag s g).kind=3∨(ag s g).kind=5
 case neg =>
  have k2:((ag s g).kind != 3)=true:=by simp;omega
  have k4:((ag s g).kind != 5)=true:=by simp;omega
  have er:bR s g=(s,false):=by unfold bR;dsimp only;rw [if_pos (by omega)]
  rw [er]
  repeat (first | (refine K.call ?_;refine JO.ld (Ld.aV (O) (qb rfl) rfl (by (exact aK.cons .refl (.cons .refl .nil)))) rfl ?_;intro _) | refine av ?_ | intro _)
  (exact J.iN [_] rfl func44 rfl (.cons (.tmp rfl) .nil) ⟨u,hu⟩ (by exact .refl) rfl)
 have K:((ag s g).kind != 3)=false∨((ag s g).kind != 3)=true∧((ag s g).kind != 5)=false:=by
  rcases hk with k | k
  ·exact .inl (by rw [k];rfl)
  ·exact .inr ⟨by rw [k];rfl,by rw [k];rfl⟩
 cases me:(common s g).2 with
 | true =>
  have er:bR s g=((common s g).1,true):=by unfold bR;dsimp only;rw [if_neg (by omega),if_pos me]
  rw [me] at CC;rw [er];rcases K with k2 | ⟨k2,k4⟩
  all_goals
   repeat (first | (refine K.call ?_;first | (refine JO.ld (Ld.aV (O) (qb rfl) rfl (by (exact aK.cons .refl (.cons .refl .nil)))) rfl ?_;intro _) | (refine JO.ld (Ld.aV CC (qb rfl) rfl (.cons .refl (.cons .refl .nil))) rfl ?_;intro y)) | refine av ?_ | intro _)
   (exact J.iN [_] rfl func44 rfl (.cons (.tmp rfl) .nil) y (by exact .refl) rfl)
 | false =>
 have e1:common s g=(s,false):=Prod.ext (Zu me) me;rw [e1] at CC;dsimp only at CC
 by_cases hp:∀ p∈([1,2,3,5,6,7,8,9,10,11,14]:List Int),(aa s g).place≠p
 ·rw [abp hk e1 hp];have N:∀ p,p∈([1,2,3,5,6,7,8,9,10,11,14]:List Int)→((aa s g).place == p)=false:=fun p m=>by simpa using hp p m
  have n1:=N 1 (by simp);have n2:=N 2 (by simp);have n3:=N 3 (by simp);have n5:=N 5 (by simp);have n6:=N 6 (by simp);have n7:=N 7 (by simp);have n8:=N 8 (by simp);have n9:=N 9 (by simp);have n10:=N 10 (by simp);have n11:=N 11 (by simp);have n14:=N 14 (by simp);rcases K with k2 | ⟨k2,k4⟩
  all_goals
   repeat (first | (refine K.load ?_;((refine jq rfl rfl rfl (Qt.cE rfl (bX) (by exact rfl)) ?_))) | (refine K.indexAddr ?_;refine jq rfl rfl rfl (Qt.bM rfl rfl eB eD) ?_) | (refine K.call ?_;first | (refine JO.ld (Ld.aV (O) (qb rfl) rfl (by (exact aK.cons .refl (.cons .refl .nil)))) rfl ?_;intro _) | (refine JO.ld (Ld.aV CC (qb rfl) rfl (.cons .refl (.cons .refl .nil))) rfl ?_;intro y)) | refine av ?_ | intro _)
   (exact J.iN [_] rfl func44 rfl (.cons (.tmp rfl) .nil) y (by exact .refl) rfl)
 have hq:((aa s g).place=1∨(aa s g).place=2∨(aa s g).place=3)∨((aa s g).place=5∨(aa s g).place=6∨(aa s g).place=7∨(aa s g).place=8∨(aa s g).place=9)∨((aa s g).place=10∨(aa s g).place=11∨(aa s g).place=14):=by
  false_or_by_contra
  exact hp fun p m=>by simp only [List.mem_cons,List.not_mem_nil,or_false] at m;omega
 obtain ⟨k,hC⟩:=h.ch hk (by omega) (by omega) (by omega);have hI:=hC.is;have hm:aN s (ag s g).ch=true:=hI.made;have he:=hC.e;have er:=abq hk e1 hm he;have l6:(aa s g).place=6→∀ i r,(cn s ((k:Int) + 1)).send=i :: r→0≤i∧i < s.aC.length∧(0≤(su s i).cs∨∃ o,oP s g o i):=by rw [← he];exact h.l6 hk
 have l7:=h.l7 hk;have cE:∀ {X:ah},bR s g=(X,true)→(bR s g).1=X:=fun e=>by rw [e]
 have hr:(bR s g).2=true:=by
  rw [er];rcases hq with (e | e | e) | (e | e | e | e | e) | e | e | e <;> simp only [e,Int.reduceEq,if_true,if_false]
 rw [hr];rcases hq with hq | hq | hq
 ·have C1:=fun u hu=>abi b u s g k (ag s g).ch hg hI hu (bR s g).1 (by
   rcases hq with e | e | e
   all_goals simp only [e,Int.reduceEq,if_true,if_false] at er
   ·exact .inl ⟨e,cE er⟩
   ·exact .inr (.inl ⟨e,cE er⟩)
   ·exact .inr (.inr ⟨e,cE er⟩))
  rcases hq with e | e | e
  all_goals
   have P:=fun c:Int=>congrArg (fun x:Int=>x == c) e
   rcases K with k2 | ⟨k2,k4⟩
   all_goals
    repeat (first | (refine K.load ?_;((refine jq rfl rfl rfl (Qt.cE rfl (bX) (by exact rfl)) ?_))) | (refine K.indexAddr ?_;refine jq rfl rfl rfl (Qt.bM rfl rfl eB eD) ?_) | refine aL (P _) ?_ | (refine K.call ?_;first | (refine JO.ld (Ld.aV (O) (qb rfl) rfl (by (exact aK.cons .refl (.cons .refl .nil)))) rfl ?_;intro _) | (refine JO.ld (Ld.aV CC (qb rfl) rfl (.cons .refl (.cons .refl .nil))) rfl ?_;intro y) | (refine JO.ld (Ld.aV (C1 y.1 y.2) (qb rfl) rfl (.cons .refl (.cons .refl (.cons .refl .nil)))) rfl ?_;intro z)) | refine av ?_ | intro _)
    (exact J.iN [_] rfl func44 rfl (.cons (.tmp rfl) .nil) z (by exact .refl) rfl)
 ·have C1:=fun u hu=>abm b u s g k (ag s g) hk hg hC h.qs h.wk hu (bR s g).1 (by
   rcases hq with e | e | e | e | e
   all_goals simp only [e,Int.reduceEq,if_true,if_false] at er
   ·exact .inl ⟨e,cE er⟩
   ·exact .inr (.inl ⟨e,l6 e,cE er⟩)
   ·exact .inr (.inr (.inl ⟨e,l7 (.inl e),cE er⟩))
   ·exact .inr (.inr (.inr (.inl ⟨e,l7 (.inr e),cE er⟩)))
   ·exact .inr (.inr (.inr (.inr ⟨e,cE er⟩))))
  rcases hq with e | e | e | e | e
  all_goals
   have P:=fun c:Int=>congrArg (fun x:Int=>x == c) e
   rcases K with k2 | ⟨k2,k4⟩
   all_goals
    repeat (first | (refine K.load ?_;((refine jq rfl rfl rfl (Qt.cE rfl (bX) (by exact rfl)) ?_))) | (refine K.indexAddr ?_;refine jq rfl rfl rfl (Qt.bM rfl rfl eB eD) ?_) | refine aL (P _) ?_ | (refine K.call ?_;first | (refine JO.ld (Ld.aV (O) (qb rfl) rfl (by (exact aK.cons .refl (.cons .refl .nil)))) rfl ?_;intro _) | (refine JO.ld (Ld.aV CC (qb rfl) rfl (.cons .refl (.cons .refl .nil))) rfl ?_;intro y) | (refine JO.ld (Ld.aV (C1 y.1 y.2) (qb rfl) rfl (.cons .refl (.cons .refl (.cons .refl .nil)))) rfl ?_;intro z)) | refine av ?_ | intro _)
    (exact J.iN [_] rfl func44 rfl (.cons (.tmp rfl) .nil) z (by exact .refl) rfl)
 ·have C1:=fun u hu=>abl b u s g k (ag s g).ch hg hI hu (bR s g).1 (by
   rw [he];rcases hq with e | e | e
   all_goals simp only [e,Int.reduceEq,if_true,if_false] at er
   ·exact .inl ⟨e,⟨h.cp.fr,h.uj e⟩,cE er⟩
   ·exact .inr (.inl ⟨e,⟨h.qs,h.ZQ hk e⟩,cE er⟩)
   ·exact .inr (.inr ⟨e,h.qX hk e,cE er⟩))
  rcases hq with e | e | e
  all_goals
   have P:=fun c:Int=>congrArg (fun x:Int=>x == c) e
   rcases K with k2 | ⟨k2,k4⟩
   all_goals
    repeat (first | (refine K.load ?_;((refine jq rfl rfl rfl (Qt.cE rfl (bX) (by exact rfl)) ?_))) | (refine K.indexAddr ?_;refine jq rfl rfl rfl (Qt.bM rfl rfl eB eD) ?_) | refine aL (P _) ?_ | (refine K.call ?_;first | (refine JO.ld (Ld.aV (O) (qb rfl) rfl (by (exact aK.cons .refl (.cons .refl .nil)))) rfl ?_;intro _) | (refine JO.ld (Ld.aV CC (qb rfl) rfl (.cons .refl (.cons .refl .nil))) rfl ?_;intro y) | (refine JO.ld (Ld.aV (C1 y.1 y.2) (qb rfl) rfl (.cons .refl (.cons .refl (.cons .refl .nil)))) rfl ?_;intro z)) | refine av ?_ | intro _)
    (exact J.iN [_] rfl func44 rfl (.cons (.tmp rfl) .nil) z (by exact .refl) rfl)
end Fl
open Go.RowKit
namespace Fl
open Sx Go.Proofs.Tryz
set_option maxRecDepth 100000
theorem abr {s:ah} {g:Nat} (h:Sx.Good s) (hg:g < s.gs.length) (st:(aa s g).status=0):aaq s g:=by
 have h':=h.toMInv;have wk:=((xV h).gr g).wk;have nq:∀ k:Int,((ag s g).kind=3∨(ag s g).kind=5)→(aa s g).place < 12→∀ i j,¬ Sx.de (aa s g) i j:=fun _ k e i j q=>by
  have kk:(aG (aa s g)).kind=3∨(aG (aa s g)).kind=5:=k;unfold Sx.de Sx.SR SE at q;rcases q with ⟨_,a,_⟩ | ⟨a,_⟩ <;> omega
 have kd:(ag s g).kind=3∨(ag s g).kind=5→(aa s g).place=11→(ag s g).kind=3:=fun k e=>by
  have pl:=sX h' hg (by omega);unfold bF at pl;omega
 refine ⟨IC h hg,h.qs,by omega,fun k a b c=>bV h hg ⟨a,b,c⟩ (by omega),fun k e i r hr=>?_,fun k e=>Dr h' hg (nq 0 k (by omega)) e,fun _=>(AH h' hg).2,fun k e=>IE h' hg (.inr (kd k e)) e,fun _ e=>AI h' hg st e⟩;have m:=h'.lZ hg (by omega) (by omega);have q:=AM (i:=i) h' hg (nq 0 k (by omega)) m.1 m.2 (.inr (by rw [hr];simp));obtain ⟨⟨o,ho⟩,_⟩:=q;exact ⟨ho.h0,ho.h1,.inr ⟨o,ho⟩⟩
theorem abt (s:ah) (g:Nat) (h:mY s g) :
  Pure prog 45 [.agg (az s),.c (nI g)] (.aZ [.agg (az (bR s g).1),.c (bI (bR s g).2)]):=by
 have C:=XY s g h;refine ax.intro func45 rfl rfl rfl (fun ok e=>?_)
 repeat (first | refine av ?_ | intro _)
 exact aA func45
theorem abu {s:ah} {g:Nat} (h:Sx.Good s) (hg:g < s.gs.length) (st:(aa s g).status=0):Sx.Good (bR s g).1:=⟨h.toMInv.bR hg st,h.z.bR⟩
end Fl
end Go.Proofs.YtofnbflkhgammaaGreat
