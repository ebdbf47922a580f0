/-
  What the laws need, part RB3.
  Conditions: none.
-/
import Derived.Test.YtofnbflkhgammaaGreatRB2
set_option linter.unusedVariables false
set_option linter.unusedSimpArgs false
set_option linter.unnecessarySimpa false
set_option maxHeartbeats 2000000
namespace Go.Proofs.YtofnbflkhgammaaGreat
open Go.RowKit
namespace Fl
open Sx Go.Proofs.Tryz
set_option maxRecDepth 100000
theorem abi (b:Nat) (u:U) (s:ah) (g k:Nat) (ch:Int) (hg:g < s.gs.length) (h:aac s ch k) (hu:dG u s) (S:ah)
  (hp:((aa s g).place=1∧S=if uM (cn s ((k:Int) + 1))=true then Sx.aI s g 4 else bH s g (aa s g).res 2)
  ∨((aa s g).place=2∧S=if (cn s ((k:Int) + 1)).closed=true then Sx.aI s g 3 else ai s g { aa s g with res:={ (aa s g).res with code:=2 },place:=18 })
  ∨((aa s g).place=3∧S=if uM (cn s ((k:Int) + 1))=true then ai s g { aa s g with bQ:=0,place:=4 } else bH s g (eJ 0 false) 18)) :
  ax prog 113 [.c (.v (pt b)),.c (nI g),.c (nI ch)] (wd b u s) (fun x:{ u':U // dG u' S }=>(.aZ [],wd b x.1 S)):=by
 haveI:Sx.bT g s:=⟨hg⟩
 have CS:=abf b u s ch k h;have CC:=aaD b u s ch k h;refine ax.intro func113 rfl rfl rfl (fun ok e=>?_);rcases hp with ⟨e1,rfl⟩ | ⟨e1,rfl⟩ | ⟨e1,rfl⟩
 ·have P:∀ c,((aa s g).place == c)=((1:Int) == c):=fun c=>by rw [e1]
  generalize uM (cn s ((k:Int) + 1))=c at CS ⊢
  repeat (first | (refine K.load ?_;((refine jq rfl rfl rfl (Qt.cE rfl (bX) (by exact rfl)) ?_))) | (refine K.indexAddr ?_;refine jq rfl rfl rfl (Qt.bM rfl rfl eB eD) ?_) | refine aL (P _) ?_ | (refine K.call ?_;refine JO.ld (Ld.aV (CS) (qb rfl) rfl (by (exact aK.cons .refl (.cons .refl .nil)))) rfl ?_;intro _) | refine gn ?_)
  cases c with
  | true =>
   rw [if_pos rfl]
   repeat (first | (refine K.store ?_;((refine JO.ld (Ld.dK rfl rfl (by exact rfl) bX) rfl (fun _=>?_)));refine JO.eK b g (fun x=>{ x with place:=4 }) (by exact rfl) ?_) | refine gn ?_)
   (exact J.iG func113 rfl .nil ⟨u,hu.to⟩ (by exact .refl) rfl)
  | false =>
   rw [if_neg (by simp),show bH s g (aa s g).res 2=bg (bg s g fun x=>{ x with bQ:=s.step }) g fun x=>{ x with place:=2 } by rw [kL hg];rfl]
   repeat (first | (refine K.store ?_;first | ((refine JO.ld (Ld.dK rfl rfl (by exact rfl) bX) rfl (fun _=>?_)));refine JO.eK b g (fun x=>{ x with bQ:=s.step }) (by exact rfl) ?_ | ((refine JO.ld (Ld.dK rfl rfl (by exact rfl) bX) rfl (fun _=>?_)));refine JO.eK b g (fun x=>{ x with place:=2 }) (by exact rfl) ?_) | refine gn ?_)
   (exact J.lp func113 rfl .nil ⟨u,hu.to⟩ (by exact .refl) rfl)
 ·have P:∀ c,((aa s g).place == c)=((2:Int) == c):=fun c=>by rw [e1]
  generalize (cn s ((k:Int) + 1)).closed=c at CC ⊢
  repeat (first | (refine K.load ?_;((refine jq rfl rfl rfl (Qt.cE rfl (bX) (by exact rfl)) ?_))) | (refine K.indexAddr ?_;refine jq rfl rfl rfl (Qt.bM rfl rfl eB eD) ?_) | refine aL (P _) ?_ | (refine K.call ?_;refine JO.ld (Ld.aV (CC) (qb rfl) rfl (by (exact aK.cons .refl (.cons .refl .nil)))) rfl ?_;intro _) | refine gn ?_)
  cases c with
  | true =>
   rw [if_pos rfl]
   repeat (first | (refine K.store ?_;((refine JO.ld (Ld.dK rfl rfl (by exact rfl) bX) rfl (fun _=>?_)));refine JO.eK b g (fun x=>{ x with place:=3 }) (by exact rfl) ?_) | refine gn ?_)
   (exact J.iG func113 rfl .nil ⟨u,hu.to⟩ (by exact .refl) rfl)
  | false =>
   rw [if_neg (by simp),show ai s g { aa s g with res:={ (aa s g).res with code:=2 },place:=18 }=bg (bg s g fun x=>{ x with res:={ x.res with code:=2 } }) g fun x=>{ x with place:=18 } by rw [kL hg];rfl]
   repeat (first | (refine K.store ?_;first | ((refine JO.ld (Ld.dK rfl rfl (by exact rfl) bX) rfl (fun _=>?_)));refine JO.eK b g (fun x=>{ x with res:={ x.res with code:=2 } }) (by exact rfl) ?_ | ((refine JO.ld (Ld.dK rfl rfl (by exact rfl) bX) rfl (fun _=>?_)));refine JO.eK b g (fun x=>{ x with place:=18 }) (by exact rfl) ?_) | refine gn ?_)
   (exact J.lp func113 rfl .nil ⟨u,hu.to⟩ (by exact .refl) rfl)
 ·have P:∀ c,((aa s g).place == c)=((3:Int) == c):=fun c=>by rw [e1]
  generalize uM (cn s ((k:Int) + 1))=c at CS ⊢
  repeat (first | (refine K.load ?_;((refine jq rfl rfl rfl (Qt.cE rfl (bX) (by exact rfl)) ?_))) | (refine K.indexAddr ?_;refine jq rfl rfl rfl (Qt.bM rfl rfl eB eD) ?_) | refine aL (P _) ?_ | (refine K.call ?_;refine JO.ld (Ld.aV (CS) (qb rfl) rfl (by (exact aK.cons .refl (.cons .refl .nil)))) rfl ?_;intro _) | refine gn ?_)
  cases c with
  | true =>
   rw [if_pos rfl,show ai s g { aa s g with bQ:=0,place:=4 }=bg (bg s g fun x=>{ x with bQ:=0 }) g fun x=>{ x with place:=4 } by rw [kL hg];rfl]
   repeat (first | (refine K.store ?_;first | ((refine JO.ld (Ld.dK rfl rfl (by exact rfl) bX) rfl (fun _=>?_)));refine JO.eK b g (fun x=>{ x with bQ:=0 }) (by exact rfl) ?_ | ((refine JO.ld (Ld.dK rfl rfl (by exact rfl) bX) rfl (fun _=>?_)));refine JO.eK b g (fun x=>{ x with place:=4 }) (by exact rfl) ?_) | refine gn ?_)
   (exact J.iG func113 rfl .nil ⟨u,hu.to⟩ (by exact .refl) rfl)
  | false =>
   rw [if_neg (by simp),show bH s g (eJ 0 false) 18=bg (bg (bg s g fun x=>{ x with res:=⟨1,-1,0,false,0⟩ }) g fun x=>{ x with bQ:=s.step }) g fun x=>{ x with place:=18 } by rw [kL Sx.bT.h,kL hg];rfl]
   repeat (first | (refine K.store ?_;first | (first | refine JO.ld (Ld.dK rfl rfl (by exact rfl) bX) rfl (fun _=>?_) | refine JO.ld (Ld.Qd rfl rfl rfl (by exact rfl) (by exact rfl) bX) rfl (fun _=>?_));refine JO.eK b g (fun x=>{ x with res:=⟨1,-1,0,false,0⟩ }) (by exact rfl) ?_ | ((refine JO.ld (Ld.dK rfl rfl (by exact rfl) bX) rfl (fun _=>?_)));refine JO.eK b g (fun x=>{ x with bQ:=s.step }) (by exact rfl) ?_ | ((refine JO.ld (Ld.dK rfl rfl (by exact rfl) bX) rfl (fun _=>?_)));refine JO.eK b g (fun x=>{ x with place:=18 }) (by exact rfl) ?_) | refine gn ?_)
   (exact J.lp func113 rfl .nil ⟨u,hu.to⟩ (by exact .refl) rfl)
theorem abj (b:Nat) (u:U) (s:ah) (g k:Nat) (ch:Int) (hg:g < s.gs.length) (h:aac s ch k) :
  ax prog 165 [.c (.v (pt b)),.c (nI g),.c (nI ch)] (wd b u s) (fun _:Unit=>(.aZ [],wd b u (if (cn s ((k:Int) + 1)).closed=true∧(cn s ((k:Int) + 1)).buf.length=0 then bH s g (eJ 0 false) 16 else if (cn s ((k:Int) + 1)).closed=true then Sx.aI s g 9 else Sx.aI s g 6))):=by
 haveI:Sx.bT g s:=⟨hg⟩
 have CC:=aaD b u s ch k h;obtain ⟨he,hk,h8,c0,bl⟩:=h;have w1:IntKind.i64.wrap (ch - 1)=(k:Int):=by rw [eL (by omega) (by omega)];omega
 have i0:(0:Int)≤(k:Int):=by omega
 have i1:(k:Int) < ((List.range s.au.length).map fun i=>[A.v (u.rs i)]).length:=by rw [List.length_map,List.length_range];omega
 have AC:=OT (u:=u) hk;have LN:=aaB b u s hk;refine ax.intro func165 rfl rfl rfl (fun ok e=>?_)
 cases c:(cn s ((k:Int) + 1)).closed with
 | false =>
  rw [c] at CC;rw [if_neg (by simp),if_neg (by simp)]
  repeat (first | (refine K.store ?_;((refine JO.ld (Ld.dK rfl rfl (by exact rfl) bX) rfl (fun _=>?_)));refine JO.eK b g (fun x=>{ x with place:=6 }) (by exact rfl) ?_) | (refine K.indexAddr ?_;refine jq rfl rfl rfl (Qt.bM rfl rfl eB eD) ?_) | (refine K.call ?_;refine JO.ld (Ld.aV (CC) (qb rfl) rfl (by (exact aK.cons .refl (.cons .refl .nil)))) rfl ?_;intro _) | refine gn ?_)
  (exact J.lp func165 rfl .nil () (by exact .refl) rfl)
 | true =>
  rw [c] at CC
  by_cases z:(cn s ((k:Int) + 1)).buf.length=0
  ·have t1:decide (((cn s ((k:Int) + 1)).buf.length:Int) > 0)=false:=decide_eq_false (by omega);rw [if_pos ⟨rfl,z⟩,show bH s g (eJ 0 false) 16=bg (bg (bg s g fun x=>{ x with res:=⟨1,-1,0,false,0⟩ }) g fun x=>{ x with bQ:=s.step }) g fun x=>{ x with place:=16 } by rw [kL Sx.bT.h,kL hg];rfl]
   repeat (first | (refine K.load ?_;((refine jq rfl rfl rfl (Qt.cE rfl (AC) (by exact rfl)) ?_))) | (refine K.store ?_;first | (first | refine JO.ld (Ld.dK rfl rfl (by exact rfl) bX) rfl (fun _=>?_) | refine JO.ld (Ld.Qd rfl rfl rfl (by exact rfl) (by exact rfl) bX) rfl (fun _=>?_));refine JO.eK b g (fun x=>{ x with res:=⟨1,-1,0,false,0⟩ }) (by exact rfl) ?_ | ((refine JO.ld (Ld.dK rfl rfl (by exact rfl) bX) rfl (fun _=>?_)));refine JO.eK b g (fun x=>{ x with bQ:=s.step }) (by exact rfl) ?_ | ((refine JO.ld (Ld.dK rfl rfl (by exact rfl) bX) rfl (fun _=>?_)));refine JO.eK b g (fun x=>{ x with place:=16 }) (by exact rfl) ?_) | (refine K.indexAddr ?_;first | refine jq rfl rfl rfl (Qt.bM rfl rfl eB eD) ?_ | refine jq rfl rfl rfl (Qt.bM rfl rfl i0 i1) ?_) | (refine K.binOp ?_;refine jq rfl rfl rfl ((Qt.dj rfl rfl rfl w1)) ?_) | (refine K.call ?_;first | (refine JO.ld (Ld.aV (CC) (qb rfl) rfl (by (exact aK.cons .refl (.cons .refl .nil)))) rfl ?_;intro _) | (refine JO.ld (Ld.aV (LN) (qb rfl) rfl (aK.cons .refl .nil)) rfl ?_;intro _)) | refine gn ?_)
   (exact J.lp func165 rfl .nil () (by exact .refl) rfl)
  ·have t1:decide (((cn s ((k:Int) + 1)).buf.length:Int) > 0)=true:=decide_eq_true (by omega);rw [if_neg (fun h=>z h.2),if_pos rfl]
   repeat (first | (refine K.load ?_;((refine jq rfl rfl rfl (Qt.cE rfl (AC) (by exact rfl)) ?_))) | (refine K.store ?_;((refine JO.ld (Ld.dK rfl rfl (by exact rfl) bX) rfl (fun _=>?_)));refine JO.eK b g (fun x=>{ x with place:=9 }) (by exact rfl) ?_) | (refine K.indexAddr ?_;first | refine jq rfl rfl rfl (Qt.bM rfl rfl eB eD) ?_ | refine jq rfl rfl rfl (Qt.bM rfl rfl i0 i1) ?_) | (refine K.binOp ?_;refine jq rfl rfl rfl ((Qt.dj rfl rfl rfl w1)) ?_) | (refine K.call ?_;first | (refine JO.ld (Ld.aV (CC) (qb rfl) rfl (by (exact aK.cons .refl (.cons .refl .nil)))) rfl ?_;intro _) | (refine JO.ld (Ld.aV (LN) (qb rfl) rfl (aK.cons .refl .nil)) rfl ?_;intro _)) | refine gn ?_)
   (exact J.lp func165 rfl .nil () (by exact .refl) rfl)
def aah (s:ah) (g:Nat) (o:Pn.Op) (ch:Int):ah :=
 if (gN (cn s ch).buf).2.2=true then bH (aE s ch { cn s ch with buf:=(gN (cn s ch).buf).1 }) g (eJ (gN (cn s ch).buf).2.1 true) 16
 else if o.kind=5 then bH s g (Sx.res 2) 16 else Sx.aI s g 10
theorem abk (b:Nat) (u:U) (s:ah) (g k:Nat) (o:Pn.Op) (hk5:o.kind=3∨o.kind=5) (hg:g < s.gs.length) (h:uq s o k) :
  ax prog 167 [.c (.v (pt b)),.c (nI g),.agg (dH o)] (wd b u s) (fun _:Unit=>(.aZ [],wd b u (aah s g o ((k:Int) + 1)))):=by
 haveI:Sx.bT g s:=⟨hg⟩
 have CM:=Fp b u s o.ch;rw [h.is.made] at CM;obtain ⟨he,hk,h8,c0,bl⟩:=h;have w1:IntKind.i64.wrap (o.ch - 1)=(k:Int):=by rw [eL (by omega) (by omega)];omega
 have i0:(0:Int)≤(k:Int):=by omega
 have i1:(k:Int) < ((List.range s.au.length).map fun i=>[A.v (u.rs i)]).length:=by rw [List.length_map,List.length_range];omega
 have AC:=OT (u:=u) hk;have GT:=abb b u s hk h8;refine ax.intro func167 rfl rfl rfl (fun ok e=>?_);have es:(gN (cn s ((k:Int) + 1)).buf).2.2=false→aE s ((k:Int) + 1) { cn s ((k:Int) + 1) with buf:=(gN (cn s ((k:Int) + 1)).buf).1 }=s:=fun c=>by
  have:(gN (cn s ((k:Int) + 1)).buf).1=(cn s ((k:Int) + 1)).buf:=by
   unfold gN at c ⊢
   split at c
   ·rename_i a;rw [if_pos a]
   ·cases c
  rw [this];exact ZD hk
 unfold aah;generalize hS:aE s ((k:Int) + 1) { cn s ((k:Int) + 1) with buf:=(gN (cn s ((k:Int) + 1)).buf).1 }=S1 at GT es ⊢;have sq:g < S1.gs.length:=by rw [← hS];exact hg
 clear hS;generalize (gN (cn s ((k:Int) + 1)).buf).2.2=o2 at GT es ⊢;generalize (gN (cn s ((k:Int) + 1)).buf).2.1=v at GT ⊢;haveI:Sx.bT g S1:=⟨sq⟩
 repeat (first | (refine K.indexAddr ?_;refine jq rfl rfl rfl (Qt.bM rfl rfl eB eD) ?_) | (refine K.call ?_;refine JO.ld (Ld.aV (CM) (qb rfl) rfl (by (exact aK.cons .refl (.cons .refl .nil)))) rfl ?_;intro _) | refine av ?_ | intro _)
 refine J.oQ 5 rfl ?_;refine J.draw (by kernel_rfl) rfl ?_;refine JW.p7 none ?_;refine tk 0 ?_;refine tk 1 ?_;refine tk 2 ?_;refine tk 4 ?_;refine tk 5 ?_;refine JD.take 6 rfl rfl (by kernel_rfl) rfl (qb rfl) (Qt.dj rfl rfl rfl w1) rfl ?_;refine JD.bJ (i:=3) (by kernel_rfl) ?_
 (refine JS.qB rfl rfl rfl (qb rfl) (Qt.fR rfl (by exact rfl)) ?_)
 refine JD.bJ (i:=7) (by kernel_rfl) ?_;refine JS.qB rfl rfl rfl (qb rfl) (Qt.bM rfl rfl i0 i1) ?_;refine JD.bJ (i:=8) (by kernel_rfl) ?_;refine JS.qB rfl rfl rfl (qb rfl) (Qt.cE rfl AC rfl) ?_;refine JD.bJ (i:=9) (by kernel_rfl) ?_;refine JS.jS rfl rfl rfl (qb rfl) (Ld.aV GT (qb rfl) rfl (.cons .refl .nil)) (eW.aT) (fun _=>?_);refine JD.bJ (i:=10) (by kernel_rfl) ?_;refine JS.qB rfl rfl rfl (qb rfl) (Qt.move rfl) ?_;refine JD.cU (i:=11) (j:=12) (by kernel_rfl) ?_ ?_;refine JS.qB rfl rfl rfl (qb rfl) (Qt.extract rfl rfl) ?_;refine tk 13 ?_;refine JD.bJ (i:=12) (by kernel_rfl) ?_;refine JS.qB rfl rfl rfl (qb rfl) (Qt.extract rfl rfl) ?_;refine JD.bJ (i:=14) (by kernel_rfl) ?_;refine JS.qB rfl rfl rfl (qb rfl) (Qt.assign rfl) ?_;refine bt ?_
 rotate_left
 refine JS.qB rfl rfl rfl (qb rfl) (Qt.extract rfl rfl) ?_;refine JD.bJ (i:=11) (by kernel_rfl) ?_;refine JS.qB rfl rfl rfl (qb rfl) (Qt.extract rfl rfl) ?_;refine JD.bJ (i:=13) (by kernel_rfl) ?_;refine JS.qB rfl rfl rfl (qb rfl) (Qt.assign rfl) ?_;refine JD.bJ (i:=14) (by kernel_rfl) ?_;refine JS.qB rfl rfl rfl (qb rfl) (Qt.assign rfl) ?_;refine bt ?_
 rotate_left
 all_goals
  cases o2 with
  | true =>
   rw [if_pos rfl,show bH S1 g (eJ v true) 16=bg (bg (bg S1 g fun x=>{ x with res:=⟨1,-1,v,true,0⟩ }) g fun x=>{ x with bQ:=S1.step }) g fun x=>{ x with place:=16 } by rw [kL Sx.bT.h,kL sq];rfl]
   repeat (first | (refine K.store ?_;first | (first | refine JO.ld (Ld.dK rfl rfl (by exact rfl) bX) rfl (fun _=>?_) | refine JO.ld (Ld.Qd rfl rfl rfl (by exact rfl) (by exact rfl) bX) rfl (fun _=>?_));refine JO.eK b g (fun x=>{ x with res:=⟨1,-1,v,true,0⟩ }) (by exact rfl) ?_ | ((refine JO.ld (Ld.dK rfl rfl (by exact rfl) bX) rfl (fun _=>?_)));refine JO.eK b g (fun x=>{ x with bQ:=S1.step }) (by exact rfl) ?_ | ((refine JO.ld (Ld.dK rfl rfl (by exact rfl) bX) rfl (fun _=>?_)));refine JO.eK b g (fun x=>{ x with place:=16 }) (by exact rfl) ?_) | refine gn ?_)
   (exact J.iG func167 rfl .nil () (by exact .refl) rfl)
  | false =>
   cases es rfl;rw [if_neg (by simp)]
   cases k5:(o.kind == 3) with
   | false =>
    rw [if_pos (hk5.resolve_left (by simpa using k5)),show bH s g (Sx.res 2) 16=bg (bg (bg s g fun x=>{ x with res:=⟨2,-1,0,false,0⟩ }) g fun x=>{ x with bQ:=s.step }) g fun x=>{ x with place:=16 } by rw [kL Sx.bT.h,kL hg];rfl]
    repeat (first | (refine K.store ?_;first | (first | refine JO.ld (Ld.dK rfl rfl (by exact rfl) bX) rfl (fun _=>?_) | refine JO.ld (Ld.Qd rfl rfl rfl (by exact rfl) (by exact rfl) bX) rfl (fun _=>?_));refine JO.eK b g (fun x=>{ x with res:=⟨2,-1,0,false,0⟩ }) (by exact rfl) ?_ | ((refine JO.ld (Ld.dK rfl rfl (by exact rfl) bX) rfl (fun _=>?_)));refine JO.eK b g (fun x=>{ x with bQ:=s.step }) (by exact rfl) ?_ | ((refine JO.ld (Ld.dK rfl rfl (by exact rfl) bX) rfl (fun _=>?_)));refine JO.eK b g (fun x=>{ x with place:=16 }) (by exact rfl) ?_) | refine gn ?_)
    (exact J.lp func167 rfl .nil () (by exact .refl) rfl)
   | true =>
    have k6:o.kind=3:=by simpa using k5
    rw [aB]
    repeat (first | (refine K.store ?_;((refine JO.ld (Ld.dK rfl rfl (by exact rfl) bX) rfl (fun _=>?_)));refine JO.eK b g (fun x=>{ x with place:=10 }) (by exact rfl) ?_) | refine gn ?_)
    (exact J.iG func167 rfl .nil () (by exact .refl) rfl)
end Fl
end Go.Proofs.YtofnbflkhgammaaGreat
