/-
  What the laws need, part D49.
  Conditions: none.
-/
import Derived.Test.YtofnbflkhgammaaGreatD48
set_option linter.unusedVariables false
set_option linter.unusedSimpArgs false
set_option linter.unnecessarySimpa false
set_option maxHeartbeats 2000000
namespace Go.Proofs.YtofnbflkhgammaaGreat
open Go.RowKit
namespace Sx
instance bT.serve {s:ah} {g k:Nat} {i:Int} {d:Bool} [h:bT k s]:bT k (Sx.serve s g i d):=⟨by rw [Zv];exact h.h⟩
end Sx
namespace Fl
open Sx Go.Proofs.Tryz
set_option maxRecDepth 100000
theorem ZN (b:Nat) (u:U) (s:ah) (g q:Nat) (o:Pn.Op) (hg:g < s.gs.length) (h:oP s g q (aa s g).hold) (Q:Qs s) (hw:(aa s g).an.length≤1000) :
  ax prog 104 [.agg (mZ b g o)] (wd b u s) (fun v:Value=>(.aZ [],wd b (kM u g v) (ai (gL s g o.v) g { aa (gL s g o.v) g with res:=jG,place:=16 }))):=by
 haveI:Sx.bT g s:=⟨hg⟩
 haveI:Sx.bT q s:=⟨h.o1⟩
 haveI:mW q g:=⟨h.ne⟩
 haveI:mW g q:=⟨Ne.symm h.ne⟩
 haveI:Sx.gX (aa s g).hold s:=⟨h.h0,h.h1⟩
 obtain ⟨w,WD⟩:=GK b u Q (aa s g).hold;have hd:su (bq s (aa s g).hold) (aa s g).hold=su s (aa s g).hold:=Sx.kK.h;have eg:aa (bq s (aa s g).hold) g=aa s g:=Sx.dY.h;have es:gL s g o.v=Sx.serve (aR (bq s (aa s g).hold) (aa s g).hold { su s (aa s g).hold with v:=o.v }) g (aa s g).hold true:=by
  unfold gL;dsimp only;rw [hd]
 have e2:su (aR (bq s (aa s g).hold) (aa s g).hold { su s (aa s g).hold with v:=o.v }) (aa s g).hold={ su s (aa s g).hold with v:=o.v }:=Sx.kK.h;have C1:=Xi b u (aR (bq s (aa s g).hold) (aa s g).hold { su s (aa s g).hold with v:=o.v }) g q (aa s g).hold true Sx.bT.h Sx.bT.h h.ne h.h0 Sx.gX.h1 (by rw [e2];exact h.e) (by rw [show aa (aR (bq s (aa s g).hold) (aa s g).hold { su s (aa s g).hold with v:=o.v }) g=aa s g from eg];exact hw);rw [es,show jG=⟨1,-1,0,(1:Int) == 1,0⟩ from rfl];generalize hS:aR (bq s (aa s g).hold) (aa s g).hold { su s (aa s g).hold with v:=o.v }=S1 at C1;haveI:Sx.bT g S1:=⟨by rw [← hS];exact Sx.bT.h⟩
 have er:ai (Sx.serve S1 g (aa s g).hold true) g { aa (Sx.serve S1 g (aa s g).hold true) g with res:=⟨1,-1,0,(1:Int) == 1,0⟩,place:=16 }=bg (bg (Sx.serve S1 g (aa s g).hold true) g fun x=>{ x with res:=⟨1,-1,0,(1:Int) == 1,0⟩ }) g fun x=>{ x with place:=16 }:=by
  rw [kL Sx.bT.h];rfl
 rw [er];have CM:=rm b u s g o;have CS:=fun v=>xW b (kM u g v) (Sx.serve S1 g (aa s g).hold true) g o 1
 have CG:=fun v=>nN b (kM u g v) (bg (Sx.serve S1 g (aa s g).hold true) g fun x=>{ x with res:=⟨1,-1,0,(1:Int) == 1,0⟩ }) g o 16
 refine ax.intro func104 rfl rfl rfl (fun ok e=>?_)
 repeat (first | (refine K.load ?_;((refine jq rfl rfl rfl (Qt.cE rfl (bX) (by exact rfl)) ?_))) | (refine K.call ?_;first | (refine JO.ld (Ld.aV (CM) (qb rfl) rfl (aK.cons .refl .nil)) rfl ?_;intro _) | (refine JO.ld (Ld.aV (WD) (qb rfl) rfl (by (exact aK.cons .refl (.cons .refl .nil)))) rfl ?_;intro _)) | refine av ?_ | intro _)
 refine J.oQ 1 rfl ?_;refine J.draw (by kernel_rfl) rfl ?_;refine JW.base (some 11) ?_;refine tk 0 ?_;refine tk 1 ?_;refine tk 2 ?_;refine tk 3 ?_;refine tk 4 ?_;refine tk 5 ?_;refine tk 6 ?_;refine tk 7 ?_;refine tk 8 ?_;refine JD.qv 9 rfl rfl (by kernel_rfl) rfl (qb rfl) (Qt.bM rfl rfl (nL (s:=s)) nM) rfl ?_;refine tk 10 ?_;refine jt 11 rfl rfl (Ld.dK rfl rfl (by exact rfl) oL) (fun _=>?_);refine bS ?_;refine J.Al b (aa s g).hold { su s (aa s g).hold with v:=o.v } (by exact rfl) ?_;rw [hS]
 repeat (first | (refine K.call ?_;refine JO.ld (Ld.aV C1 (qb rfl) rfl (.cons .refl (.cons .refl (.cons .refl (.cons .refl .nil))))) rfl ?_;intro v) | refine gn ?_)
 repeat (first | (refine K.call ?_;first | (refine JO.ld (Ld.aV ((CS v)) (qb rfl) rfl (by (exact aK.cons .refl (.cons .refl .nil)))) rfl ?_;intro _) | (refine JO.ld (Ld.aV ((CG v)) (qb rfl) rfl (by (exact aK.cons .refl (.cons .refl .nil)))) rfl ?_;intro _)) | refine gn ?_)
 (exact J.lp func104 rfl .nil v (by exact .refl) rfl)
def qf (s:ah) (g:Nat) (o:Pn.Op) (ch:Int):ah :=
 if (fo (cn s ch).buf (cn s ch).cap o.v).2=true then bH (aE s ch { cn s ch with buf:=(fo (cn s ch).buf (cn s ch).cap o.v).1 }) g jG 16
 else if o.kind=4 then bH s g (Sx.res 2) 16 else Sx.aI s g 10
theorem ZO (b:Nat) (u:U) (s:ah) (g k:Nat) (o:Pn.Op) (hg:g < s.gs.length) (h:uq s o k) :
  ax prog 105 [.agg (mZ b g o)] (wd b u s) (fun _:Unit=>(.aZ [],wd b u (qf s g o ((k:Int) + 1)))):=by
 haveI:Sx.bT g s:=⟨hg⟩
 obtain ⟨ho,hk,h8,c0,bl⟩:=h;have hm:aN s o.ch=true:=by
  unfold aN;simp only [decide_eq_true_eq];omega
 have CM:=Fp b u s o.ch;rw [hm] at CM;have w1:IntKind.i64.wrap (o.ch - 1)=(k:Int):=by rw [eL (by omega) (by omega)];omega
 have i0:(0:Int)≤(k:Int):=by omega
 have i1:(k:Int) < ((List.range s.au.length).map fun i=>[A.v (u.rs i)]).length:=by rw [List.length_map,List.length_range];omega
 have AC:=OT (u:=u) hk;have CP:=ZF b u s o.v hk h8 c0;refine ax.intro func105 rfl rfl rfl (fun ok e=>?_)
 cases c:(fo (cn s ((k:Int) + 1)).buf (cn s ((k:Int) + 1)).cap o.v).2 with
 | true =>
  have er:qf s g o ((k:Int) + 1)=bH (aE s ((k:Int) + 1) { cn s ((k:Int) + 1) with buf:=(fo (cn s ((k:Int) + 1)).buf (cn s ((k:Int) + 1)).cap o.v).1 }) g ⟨1,-1,0,(1:Int) == 1,0⟩ 16:=by unfold qf;exact if_pos c
  rw [er,← Hw Sx.bT.h];rw [c] at CP;generalize hS:aE s ((k:Int) + 1) { cn s ((k:Int) + 1) with buf:=(fo (cn s ((k:Int) + 1)).buf (cn s ((k:Int) + 1)).cap o.v).1 }=S1 at CP;haveI:Sx.bT g S1:=⟨by rw [← hS];exact hg⟩
  have CS:=xW b u S1 g o 1;have CE:=rm b u (bg S1 g fun x=>{ x with res:=⟨1,-1,0,(1:Int) == 1,0⟩ }) g o;have CG:=nN b u (bg (bg S1 g fun x=>{ x with res:=⟨1,-1,0,(1:Int) == 1,0⟩ }) g fun x=>{ x with bQ:=S1.step }) g o 16
  repeat (first | refine av ?_ | intro _)
  refine J.oQ 1 rfl ?_;refine J.draw (by kernel_rfl) rfl ?_;refine JW.p7 none ?_;refine tk 0 ?_;refine tk 1 ?_;refine tk 2 ?_;refine tk 3 ?_;refine tk 4 ?_;refine JD.bJ (i:=5) (by kernel_rfl) ?_;refine JS.jS rfl rfl rfl (qb rfl) (Ld.aV CM (qb rfl) rfl (.cons .refl (.cons .refl .nil))) (eW.aT) (fun _=>?_);refine JD.bJ (i:=6) (by kernel_rfl) ?_;refine JS.qB rfl rfl rfl (qb rfl) (Qt.move rfl) ?_;refine tk 7 ?_;refine tk 8 ?_;refine tk 9 ?_;refine tk 10 ?_;refine tk 12 ?_;refine tk 13 ?_;refine tk 14 ?_
  (refine JD.take 15 rfl rfl (by kernel_rfl) rfl (qb rfl) (Qt.dj rfl rfl rfl w1) rfl ?_)
  refine tk 18 ?_;refine tk 19 ?_;refine tk 20 ?_;refine JD.bJ (i:=11) (by kernel_rfl) ?_
  (refine JS.qB rfl rfl rfl (qb rfl) (Qt.fR rfl (by exact rfl)) ?_)
  refine JD.bJ (i:=16) (by kernel_rfl) ?_;refine JS.qB rfl rfl rfl (qb rfl) (Qt.bM rfl rfl i0 i1) ?_;refine JD.bJ (i:=17) (by kernel_rfl) ?_;refine JS.qB rfl rfl rfl (qb rfl) (Qt.cE rfl AC rfl) ?_;refine JD.bJ (i:=21) (by kernel_rfl) ?_;refine JS.jS rfl rfl rfl (qb rfl) (Ld.aV CP (qb rfl) rfl (.cons .refl (.cons .refl .nil))) (eW.aT) (fun _=>?_);refine JD.bJ (i:=22) (by kernel_rfl) ?_;refine JS.qB rfl rfl rfl (qb rfl) (Qt.pick rfl rfl) ?_;refine JD.bJ (i:=23) (by kernel_rfl) ?_;refine JS.qB rfl rfl rfl (qb rfl) (Qt.assign rfl) ?_;refine bt ?_
  repeat (first | (refine K.call ?_;refine JO.ld (Ld.aV (CS) (qb rfl) rfl (by (exact aK.cons .refl (.cons .refl .nil)))) rfl ?_;intro _) | refine gn ?_)
  refine J.draw (by kernel_rfl) rfl ?_;refine JW.p7 (some 9) ?_;refine tk 0 ?_;refine tk 2 ?_;refine tk 3 ?_;refine tk 4 ?_;refine tk 5 ?_;refine JD.cU (i:=1) (j:=6) (by kernel_rfl) ?_ ?_;refine JS.jS rfl rfl rfl (qb rfl) (Ld.aV CE (qb rfl) rfl (.cons .refl .nil)) (eW.aT) (fun _=>?_);refine JD.bJ (i:=6) (by kernel_rfl) ?_
  (refine JS.qB rfl rfl rfl (qb rfl) (Qt.fR rfl (by exact rfl)) ?_)
  refine JD.bJ (i:=7) (by kernel_rfl) ?_;refine JS.qB rfl rfl rfl (qb rfl) (Qt.nilCheck rfl rfl) ?_;refine JD.bJ (i:=8) (by kernel_rfl) ?_;refine JS.qB rfl rfl rfl (qb rfl) (Qt.fieldAddr rfl rfl) ?_;refine jt 9 rfl rfl (Ld.dK rfl rfl (by exact rfl) bX) (fun _=>?_);refine bS ?_
  rotate_left
  (refine JS.qB rfl rfl rfl (qb rfl) (Qt.fR rfl (by exact rfl)) ?_)
  refine JD.bJ (i:=1) (by kernel_rfl) ?_;refine JS.jS rfl rfl rfl (qb rfl) (Ld.aV CE (qb rfl) rfl (.cons .refl .nil)) (eW.aT) (fun _=>?_);refine JD.bJ (i:=7) (by kernel_rfl) ?_;refine JS.qB rfl rfl rfl (qb rfl) (Qt.nilCheck rfl rfl) ?_;refine JD.bJ (i:=8) (by kernel_rfl) ?_;refine JS.qB rfl rfl rfl (qb rfl) (Qt.fieldAddr rfl rfl) ?_;refine jt 9 rfl rfl (Ld.dK rfl rfl (by exact rfl) bX) (fun _=>?_);refine bS ?_
  rotate_left
  all_goals
   refine J.eK b g (fun x=>{ x with bQ:=S1.step }) (by exact rfl) ?_
   repeat (first | (refine K.call ?_;refine JO.ld (Ld.aV (CG) (qb rfl) rfl (by (exact aK.cons .refl (.cons .refl .nil)))) rfl ?_;intro _) | refine gn ?_)
   (exact J.lp func105 rfl .nil () (by exact .refl) rfl)
 | false =>
  have es:aE s ((k:Int) + 1) { cn s ((k:Int) + 1) with buf:=(fo (cn s ((k:Int) + 1)).buf (cn s ((k:Int) + 1)).cap o.v).1 }=s:=by
   have:(fo (cn s ((k:Int) + 1)).buf (cn s ((k:Int) + 1)).cap o.v).1=(cn s ((k:Int) + 1)).buf:=by
    unfold fo at c ⊢
    split at c
    ·rename_i a;rw [if_pos a]
    ·cases c
   rw [this];exact ZD hk
  rw [c,es] at CP
  repeat (first | refine av ?_ | intro _)
  refine J.oQ 1 rfl ?_;refine J.draw (by kernel_rfl) rfl ?_;refine JW.p7 none ?_;refine tk 0 ?_;refine tk 1 ?_;refine tk 2 ?_;refine tk 3 ?_;refine tk 4 ?_;refine JD.bJ (i:=5) (by kernel_rfl) ?_;refine JS.jS rfl rfl rfl (qb rfl) (Ld.aV CM (qb rfl) rfl (.cons .refl (.cons .refl .nil))) (eW.aT) (fun _=>?_);refine JD.bJ (i:=6) (by kernel_rfl) ?_;refine JS.qB rfl rfl rfl (qb rfl) (Qt.move rfl) ?_;refine tk 7 ?_;refine tk 8 ?_;refine tk 9 ?_;refine tk 10 ?_;refine tk 12 ?_;refine tk 13 ?_;refine tk 14 ?_
  (refine JD.take 15 rfl rfl (by kernel_rfl) rfl (qb rfl) (Qt.dj rfl rfl rfl w1) rfl ?_)
  refine tk 18 ?_;refine tk 19 ?_;refine tk 20 ?_;refine JD.bJ (i:=11) (by kernel_rfl) ?_
  (refine JS.qB rfl rfl rfl (qb rfl) (Qt.fR rfl (by exact rfl)) ?_)
  refine JD.bJ (i:=16) (by kernel_rfl) ?_;refine JS.qB rfl rfl rfl (qb rfl) (Qt.bM rfl rfl i0 i1) ?_;refine JD.bJ (i:=17) (by kernel_rfl) ?_;refine JS.qB rfl rfl rfl (qb rfl) (Qt.cE rfl AC rfl) ?_;refine JD.bJ (i:=21) (by kernel_rfl) ?_;refine JS.jS rfl rfl rfl (qb rfl) (Ld.aV CP (qb rfl) rfl (.cons .refl (.cons .refl .nil))) (eW.aT) (fun _=>?_);refine JD.bJ (i:=22) (by kernel_rfl) ?_;refine JS.qB rfl rfl rfl (qb rfl) (Qt.pick rfl rfl) ?_;refine JD.bJ (i:=23) (by kernel_rfl) ?_;refine JS.qB rfl rfl rfl (qb rfl) (Qt.assign rfl) ?_;refine bt ?_
  cases k4:(o.kind == 4) with
  | true =>
   have er:qf s g o ((k:Int) + 1)=bH s g ⟨2,-1,0,(2:Int) == 1,0⟩ 16:=by unfold qf;rw [c,if_neg (by simp),if_pos (by simpa using k4)];rfl
   rw [er,← Hw Sx.bT.h];have CS:=xW b u s g o 2;have CE:=rm b u (bg s g fun x=>{ x with res:=⟨2,-1,0,(2:Int) == 1,0⟩ }) g o;have CG:=nN b u (bg (bg s g fun x=>{ x with res:=⟨2,-1,0,(2:Int) == 1,0⟩ }) g fun x=>{ x with bQ:=s.step }) g o 16
   repeat (first | (refine K.call ?_;refine JO.ld (Ld.aV (CS) (qb rfl) rfl (by (exact aK.cons .refl (.cons .refl .nil)))) rfl ?_;intro _) | refine gn ?_)
   refine J.draw (by kernel_rfl) rfl ?_;refine JW.p7 (some 9) ?_;refine tk 0 ?_;refine tk 2 ?_;refine tk 3 ?_;refine tk 4 ?_;refine tk 5 ?_;refine JD.cU (i:=1) (j:=6) (by kernel_rfl) ?_ ?_;refine JS.jS rfl rfl rfl (qb rfl) (Ld.aV CE (qb rfl) rfl (.cons .refl .nil)) (eW.aT) (fun _=>?_);refine JD.bJ (i:=6) (by kernel_rfl) ?_
   (refine JS.qB rfl rfl rfl (qb rfl) (Qt.fR rfl (by exact rfl)) ?_)
   refine JD.bJ (i:=7) (by kernel_rfl) ?_;refine JS.qB rfl rfl rfl (qb rfl) (Qt.nilCheck rfl rfl) ?_;refine JD.bJ (i:=8) (by kernel_rfl) ?_;refine JS.qB rfl rfl rfl (qb rfl) (Qt.fieldAddr rfl rfl) ?_;refine jt 9 rfl rfl (Ld.dK rfl rfl (by exact rfl) bX) (fun _=>?_);refine bS ?_
   rotate_left
   (refine JS.qB rfl rfl rfl (qb rfl) (Qt.fR rfl (by exact rfl)) ?_)
   refine JD.bJ (i:=1) (by kernel_rfl) ?_;refine JS.jS rfl rfl rfl (qb rfl) (Ld.aV CE (qb rfl) rfl (.cons .refl .nil)) (eW.aT) (fun _=>?_);refine JD.bJ (i:=7) (by kernel_rfl) ?_;refine JS.qB rfl rfl rfl (qb rfl) (Qt.nilCheck rfl rfl) ?_;refine JD.bJ (i:=8) (by kernel_rfl) ?_;refine JS.qB rfl rfl rfl (qb rfl) (Qt.fieldAddr rfl rfl) ?_;refine jt 9 rfl rfl (Ld.dK rfl rfl (by exact rfl) bX) (fun _=>?_);refine bS ?_
   rotate_left
   all_goals
    refine J.eK b g (fun x=>{ x with bQ:=s.step }) (by exact rfl) ?_
    repeat (first | (refine K.call ?_;refine JO.ld (Ld.aV (CG) (qb rfl) rfl (by (exact aK.cons .refl (.cons .refl .nil)))) rfl ?_;intro _) | refine gn ?_)
    (exact J.lp func105 rfl .nil () (by exact .refl) rfl)
  | false =>
   have er:qf s g o ((k:Int) + 1)=bg s g fun x=>{ x with place:=10 }:=by unfold qf;rw [c,if_neg (by simp),if_neg (by simpa using k4)];rfl
   rw [er];have CG:=nN b u s g o 10
   repeat (first | (refine K.call ?_;refine JO.ld (Ld.aV (CG) (qb rfl) rfl (by (exact aK.cons .refl (.cons .refl .nil)))) rfl ?_;intro _) | refine gn ?_)
   (exact J.iG func105 rfl .nil () (by exact .refl) rfl)
theorem ZP (b:Nat) (u:U) (s:ah) (g:Nat) (o:Pn.Op) (hg:g < s.gs.length) (h0:0≤(aa s g).param) (h1:(aa s g).param < s.aC.length) :
  ax prog 108 [.agg (mZ b g o)] (wd b u s) (fun _:Unit=>(.aZ [],wd b u (ai s g { aa s g with res:=if (su s (aa s g).param).done=true then jG else Sx.res 3,param:=-1,place:=15 }))):=by
 haveI:Sx.bT g s:=⟨hg⟩
 haveI:Sx.gX (aa s g).param s:=⟨h0,h1⟩
 have CM:=rm b u s g o;have C1:∀ r:Md.ak,ax prog 152 [.agg (mZ b g o)] (wd b u (bg s g fun x=>{ x with res:=r })) (fun _:Unit=>(.ow u.vG 25 g 0,wd b u (bg s g fun x=>{ x with res:=r }))):=fun r=>rm b u _ g o
 have C2:∀ r:Md.ak,ax prog 102 [.agg (mZ b g o),.c (nI 15)] (wd b u (bg (bg s g fun x=>{ x with res:=r }) g fun x=>{ x with param:=-1 })) (fun _:Unit=>(.aZ [],wd b u (bg (bg (bg s g fun x=>{ x with res:=r }) g fun x=>{ x with param:=-1 }) g fun x=>{ x with place:=15 }))):=fun r=>nN b u _ g o 15
 have er:∀ r:Md.ak,ai s g { aa s g with res:=r,param:=-1,place:=15 }=bg (bg (bg s g fun x=>{ x with res:=r }) g fun x=>{ x with param:=-1 }) g fun x=>{ x with place:=15 }:=fun r=>by
  rw [kL (ud hg),kL hg];rfl
 rw [er];refine ax.intro func108 rfl rfl rfl (fun ok e=>?_)
 repeat (first | refine av ?_ | intro _)
 refine J.oQ 1 rfl ?_;refine J.draw (by kernel_rfl) rfl ?_;refine JW.p7 none ?_;refine tk 0 ?_;refine tk 1 ?_;refine tk 2 ?_;refine tk 3 ?_;refine tk 5 ?_;refine JD.cU (i:=4) (j:=6) (by kernel_rfl) ?_ ?_
 (refine JS.qB rfl rfl rfl (qb rfl) (Qt.fR rfl (by exact rfl)) ?_)
 refine JD.bJ (i:=6) (by kernel_rfl) ?_;refine JS.jS rfl rfl rfl (qb rfl) (Ld.aV CM (qb rfl) rfl (.cons .refl .nil)) (eW.aT) (fun _=>?_);refine JD.bJ (i:=7) (by kernel_rfl) ?_;refine JS.qB rfl rfl rfl (qb rfl) (Qt.nilCheck rfl rfl) ?_;refine JD.bJ (i:=8) (by kernel_rfl) ?_;refine JS.qB rfl rfl rfl (qb rfl) (Qt.fieldAddr rfl rfl) ?_;refine JD.bJ (i:=9) (by kernel_rfl) ?_;refine JS.qB rfl rfl rfl (qb rfl) (Qt.cE rfl bX rfl) ?_;refine JD.bJ (i:=10) (by kernel_rfl) ?_;refine JS.qB rfl rfl rfl (qb rfl) (Qt.bM rfl rfl (nL (s:=s)) nM) ?_;refine JD.bJ (i:=11) (by kernel_rfl) ?_;refine JS.qB rfl rfl rfl (qb rfl) (Qt.fieldAddr rfl rfl) ?_;refine JD.bJ (i:=12) (by kernel_rfl) ?_;refine JS.qB rfl rfl rfl (qb rfl) (Qt.cE rfl oL rfl) ?_;refine bt ?_
 rotate_left
 refine JS.jS rfl rfl rfl (qb rfl) (Ld.aV CM (qb rfl) rfl (.cons .refl .nil)) (eW.aT) (fun _=>?_);refine tk 7 ?_;refine tk 8 ?_;refine JD.cU (i:=4) (j:=9) (by kernel_rfl) ?_ ?_
 (refine JS.qB rfl rfl rfl (qb rfl) (Qt.fR rfl (by exact rfl)) ?_)
 refine JD.bJ (i:=9) (by kernel_rfl) ?_;refine JS.qB rfl rfl rfl (qb rfl) (Qt.cE rfl bX rfl) ?_;refine JD.bJ (i:=10) (by kernel_rfl) ?_;refine JS.qB rfl rfl rfl (qb rfl) (Qt.bM rfl rfl (nL (s:=s)) nM) ?_;refine JD.bJ (i:=11) (by kernel_rfl) ?_;refine JS.qB rfl rfl rfl (qb rfl) (Qt.fieldAddr rfl rfl) ?_;refine JD.bJ (i:=12) (by kernel_rfl) ?_;refine JS.qB rfl rfl rfl (qb rfl) (Qt.cE rfl oL rfl) ?_;refine bt ?_
 rotate_left
 refine JS.qB rfl rfl rfl (qb rfl) (Qt.cE rfl bX rfl) ?_;refine JD.bJ (i:=4) (by kernel_rfl) ?_
 (refine JS.qB rfl rfl rfl (qb rfl) (Qt.fR rfl (by exact rfl)) ?_)
 refine JD.bJ (i:=10) (by kernel_rfl) ?_;refine JS.qB rfl rfl rfl (qb rfl) (Qt.bM rfl rfl (nL (s:=s)) nM) ?_;refine JD.bJ (i:=11) (by kernel_rfl) ?_;refine JS.qB rfl rfl rfl (qb rfl) (Qt.fieldAddr rfl rfl) ?_;refine JD.bJ (i:=12) (by kernel_rfl) ?_;refine JS.qB rfl rfl rfl (qb rfl) (Qt.cE rfl oL rfl) ?_;refine bt ?_
 rotate_left
 all_goals
  cases hd:(su s (aa s g).param).done with
  | true =>
   rw [if_pos rfl];have CS:=xW b u s g o 1;have C1:=C1 ⟨1,-1,0,(1:Int) == 1,0⟩;have C2:=C2 ⟨1,-1,0,(1:Int) == 1,0⟩
   repeat (first | (refine K.store ?_;((refine JO.ld (Ld.dK rfl rfl (by exact rfl) bX) rfl (fun _=>?_)));refine JO.eK b g (fun x=>{ x with param:=-1 }) (by exact rfl) ?_) | (refine K.call ?_;first | (refine JO.ld (Ld.aV (CS) (qb rfl) rfl (by (exact aK.cons .refl (.cons .refl .nil)))) rfl ?_;intro _) | (refine JO.ld (Ld.aV (C1) (qb rfl) rfl (aK.cons .refl .nil)) rfl ?_;intro _) | (refine JO.ld (Ld.aV (C2) (qb rfl) rfl (by (exact aK.cons .refl (.cons .refl .nil)))) rfl ?_;intro _)) | refine gn ?_)
   (exact J.lp func108 rfl .nil () (by exact .refl) rfl)
  | false =>
   rw [if_neg (by simp)];have CS:=xW b u s g o 3;have C1:=C1 ⟨3,-1,0,(3:Int) == 1,0⟩;have C2:=C2 ⟨3,-1,0,(3:Int) == 1,0⟩
   repeat (first | (refine K.store ?_;((refine JO.ld (Ld.dK rfl rfl (by exact rfl) bX) rfl (fun _=>?_)));refine JO.eK b g (fun x=>{ x with param:=-1 }) (by exact rfl) ?_) | (refine K.call ?_;first | (refine JO.ld (Ld.aV (CS) (qb rfl) rfl (by (exact aK.cons .refl (.cons .refl .nil)))) rfl ?_;intro _) | (refine JO.ld (Ld.aV (C1) (qb rfl) rfl (aK.cons .refl .nil)) rfl ?_;intro _) | (refine JO.ld (Ld.aV (C2) (qb rfl) rfl (by (exact aK.cons .refl (.cons .refl .nil)))) rfl ?_;intro _)) | refine gn ?_)
   (exact J.lp func108 rfl .nil () (by exact .refl) rfl)
structure Dq (s:ah) (g:Nat):Prop where
 cp:xT s g
 qs:Qs s
 wk:(aa s g).an.length≤1000
 ch:(ag s g).kind=2∨(ag s g).kind=4→(aa s g).place≠0→(aa s g).place≠18→(aa s g).place≠19→∃ k,uq s (ag s g) k
 l6:(ag s g).kind=2∨(ag s g).kind=4→(aa s g).place=6→∀ i r,(cn s (ag s g).ch).recv=i :: r→0≤i∧i < s.aC.length∧(0≤(su s i).cs∨∃ o,oP s g o i)
 l7:(ag s g).kind=2∨(ag s g).kind=4→(aa s g).place=7∨(aa s g).place=8→∃ o,oP s g o (aa s g).hold
 uj:(aa s g).place=10→g < s.cache.length∧((aS s g).2.2=true→0≤(aS s g).2.1∧(aS s g).2.1 < s.aC.length)
 ZQ:(ag s g).kind=2∨(ag s g).kind=4→(aa s g).place=11→0≤(aa s g).aH∧(aa s g).aH < s.aC.length∧∀ c,(aa s g).aH∉(cn s c).recv∧(aa s g).aH∉(cn s c).send
 qX:(ag s g).kind=2∨(ag s g).kind=4→(aa s g).place=14→0≤(aa s g).param∧(aa s g).param < s.aC.length
theorem OU {s:ah} {g:Nat} (h:∀ p∈([4,12,13,15,16,17]:List Int),(aa s g).place≠p):common s g=(s,false):=by
 unfold common;dsimp only;rw [if_neg (h 4 (by simp)),if_neg (h 12 (by simp)),if_neg (h 13 (by simp)),if_neg (h 15 (by simp)),if_neg (h 16 (by simp)),if_neg (h 17 (by simp))]
theorem OV {s:ah} {g:Nat} (hk:(ag s g).kind=2∨(ag s g).kind=4) (h:∀ p∈([1,2,5,6,7,8,9,10,11,14]:List Int),(aa s g).place≠p):bu s g=common s g:=by
 unfold bu;dsimp only;rw [aB]
 cases hc:(common s g).2 with
 | true=>rw [if_pos rfl];exact Prod.ext rfl hc.symm
 | false =>
  rw [if_neg (by simp),if_neg (h 1 (by simp)),if_neg (h 2 (by simp)),if_neg (h 5 (by simp)),if_neg (h 6 (by simp)),if_neg (h 7 (by simp)),if_neg (h 8 (by simp)),if_neg (h 9 (by simp)),if_neg (h 10 (by simp)),if_neg (h 11 (by simp)),if_neg (h 14 (by simp)),ite_self];exact (Prod.ext (Zu hc) hc).symm
theorem ZR {s:ah} {g:Nat} {ch:Int} (hk:(ag s g).kind=2∨(ag s g).kind=4) (hc:common s g=(s,false)) (hm:aN s (ag s g).ch=true) (he:(ag s g).ch=ch):bu s g =
  if (aa s g).place=1 then ((if Sx.room (cn s ch)=true then Sx.aI s g 4 else bH s g (aa s g).res 2),true)
  else if (aa s g).place=2 then ((if (cn s ch).closed=true then ai s g { aa s g with bQ:=0,place:=4 } else ai s g { aa s g with res:={ (aa s g).res with code:=2 },place:=18 }),true)
  else if (aa s g).place=5 then ((if (cn s ch).closed=true then bH s g (Sx.res 3) 16 else Sx.aI s g 6),true)
  else if (aa s g).place=6 then ((if (cn s ch).recv.length=0 then Sx.aI s g 9 else taken s g ((cn s ch).recv.headD 0) 7 8),true)
  else if (aa s g).place=7 then (cQ s g 6 8,true)
  else if (aa s g).place=8 then (ai (gL s g (ag s g).v) g { aa (gL s g (ag s g).v) g with res:=jG,place:=16 },true)
  else if (aa s g).place=9 then (qf s g (ag s g) ch,true)
  else if (aa s g).place=10 then (aH s g ⟨true,g,ch,-1,true,(ag s g).v,false⟩,true)
  else if (aa s g).place=11 then (ai (aE s ch { cn s ch with send:=(cn s ch).send ++ [(aa s g).aH] }) g { aa s g with ic:=s.step,place:=12 },true)
  else if (aa s g).place=14 then (ai s g { aa s g with res:=if (su s (aa s g).param).done=true then jG else Sx.res 3,param:=-1,place:=15 },true)
  else (s,false):=by
 subst he;unfold bu qf;dsimp only;rw [aB,hc,if_neg (by simp),if_neg (by rw [hm];simp)];simp only [apply_ite (fun x=>(x,true))]
end Fl
end Go.Proofs.YtofnbflkhgammaaGreat
