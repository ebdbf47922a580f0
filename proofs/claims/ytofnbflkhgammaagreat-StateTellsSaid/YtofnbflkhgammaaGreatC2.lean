/-
  What the laws need, part C2.
  Conditions: none.
-/
import Derived.Test.YtofnbflkhgammaaGreatA47
set_option linter.unusedVariables false
set_option linter.unusedSimpArgs false
set_option linter.unnecessarySimpa false
set_option maxHeartbeats 2000000
namespace Go.Proofs.YtofnbflkhgammaaGreat
open Go.RowKit
namespace Fl
open Sx
set_option maxRecDepth 100000
theorem Zr (p:List (List Pn.Op)) (sn cn:Int) (d l:List Int) (ch:Int) (hd:∀ x∈d,0≤x∧x < 65536) :
  Pure Tryz.prog 4 [.agg (kP p sn cn d),.c (ints l),.c (nI ch)] (.c (bI true)):=by
 have CR:=Gs p sn cn d l hd;have HG:=Gq (p:=p) (sn:=sn) (cn:=cn) (l:=l) hd;generalize jO p sn cn d l=r at CR HG;obtain ⟨s,o⟩:=r;refine aq.intro Tryz.func4 rfl rfl rfl (fun ok e=>?_)
 cases o with
 | false =>
  repeat (first | (refine K.store ?_;refine JO.ld (Ld.aP rfl rfl rfl (by exact rfl) (by exact rfl)) rfl (fun _=>?_)) | refine ei (BO) ?_ | refine au ?_ | intro _)
  exact az Tryz.func4
 | true =>
 have G:Sx.Good s:=HG rfl;clear HG;have G':=G.toMInv;have g8:=G.n8;have iJ:=G.iJ;have CO:=Cm s (Gp G);have BG:=zE G
 repeat (first | (refine K.store ?_;refine JO.ld (Ld.aP rfl rfl rfl (by exact rfl) (by exact rfl)) rfl (fun _=>?_)) | (refine K.call ?_;first | refine ei (BO) ?_ | (refine JO.ld (Ld.bU CO (qb rfl) rfl (.cons .refl .nil)) rfl ?_;intro x)) | refine au ?_ | intro _)
 obtain ⟨⟨b9,u⟩,hu⟩:=x;simp only at hu ⊢;rename_i b3 b7 _;have CM:=JE b9 u s ch;have GC:=eK s ch;generalize Sx.made s ch=m at CM GC;refine J.join (ι:=Unit) (fun _=>[(37,.c (bI false)),(9,.c (.v (pt b9))),(7,.c (.v (pt b7))),(2,.c (nI ch))]) (fun _=>.box b7 36 (ay s) :: .box b3 27 (kP p sn cn d) :: wd b9 u s) (fun _=>?rest0) (fun rest0=>?_)
 case rest0 =>
  repeat (refine gn ?_)
  refine J.loop (ι:={ k:Nat // k≤s.gs.length }) (fun q=>[(41,.c (nI q.1)),(40,.c (nI s.gs.length)),(39,.c (.r 25 (s.gs.map eG))),(9,.c (.v (pt b9))),(7,.c (.v (pt b7))),(2,.c (nI ch))]) (fun _=>.box b7 36 (ay s) :: .box b3 27 (kP p sn cn d) :: wd b9 u s) (fun q=>s.gs.length - q.1) ⟨0,Nat.zero_le _⟩ (fun X h=>h.aU ⟨rfl,rfl,rfl,rfl,rfl,rfl,trivial⟩) (fun q ih=>?_);obtain ⟨g,hk⟩:=q;simp only at hk ih ⊢
  by_cases hg:g < s.gs.length
  ·have t1:(decide ((g:Int) < (s.gs.length:Int)))=true:=by simpa using hg
   have o3:=Np G' hg;have L:=G'.loc hg;have CP:=Cj b9 u s g hg L.a0 (by omega);have NT:=dj s g hg L.a0;have CE:=L9 (Sx.op s g) (by omega)
   repeat (refine gn ?_)
   refine J.join (ι:=Unit) (fun _=>[(51,.c (bI false)),(41,.c (nI g)),(40,.c (nI s.gs.length)),(39,.c (.r 25 (s.gs.map eG))),(10,.c (nI g)),(9,.c (.v (pt b9))),(7,.c (.v (pt b7))),(2,.c (nI ch))]) (fun _=>.box b7 36 (ay s) :: .box b3 27 (kP p sn cn d) :: wd b9 u s) (fun _=>?rest1) (fun rest1=>?_)
   case rest1 =>
    repeat (first | (refine K.call ?_;refine JO.ld (Ld.bU CO (qb rfl) rfl (.cons .refl .nil)) rfl ?_;intro x) | refine gn ?_)
    obtain ⟨⟨mO,v⟩,hv⟩:=x;simp only at hv ⊢;have CC:=Sz mO v s g hg;have BC:Sx.Bd 200 (Sx.clear s g):=BG.clear;have CT:=uu mO (kK v g) (Sx.clear s g) (Bd.fw BC (by omega));have NU:=FH s g hg (by omega);have CS:=y8 (Sx.clear s g) (Bd.fe BC (by omega))
    repeat (first | (refine K.call ?_;refine JO.ld (Ld.bU (CC) (qb rfl) rfl (by (exact aL.cons .refl (.cons .refl .nil)))) rfl ?_;intro _) | refine gn ?_)
    refine J.join (ι:=Unit) (fun _=>[(63,.c (bI false)),(41,.c (nI g)),(40,.c (nI s.gs.length)),(39,.c (.r 25 (s.gs.map eG))),(10,.c (nI g)),(9,.c (.v (pt b9))),(7,.c (.v (pt b7))),(2,.c (nI ch))]) (fun _=>.box b7 36 (ay s) :: .box b3 27 (kP p sn cn d) :: (wd b9 u s ++ wd mO (kK v g) (Sx.clear s g))) (fun _=>?rest2) (fun rest2=>?_)
    case rest2 =>
     refine J.yX mO ?_
     repeat (refine gn ?_)
     refine J.loop (ι:={ k:Nat // k≤s.aB.length }) (fun q=>[(67,.c (nI q.1)),(66,.c (nI s.aB.length)),(65,.c (.r 7 (s.aB.map eS))),(41,.c (nI g)),(40,.c (nI s.gs.length)),(39,.c (.r 25 (s.gs.map eG))),(10,.c (nI g)),(9,.c (.v (pt b9))),(7,.c (.v (pt b7))),(2,.c (nI ch))]) (fun _=>.box b7 36 (ay s) :: .box b3 27 (kP p sn cn d) :: wd b9 u s) (fun q=>s.aB.length - q.1) ⟨0,Nat.zero_le _⟩ (fun X h=>h.aU ⟨rfl,rfl,rfl,rfl,rfl,rfl,rfl,rfl,rfl,rfl,trivial⟩) (fun q kL=>?_);obtain ⟨i,hi⟩:=q;simp only at hi kL ⊢
     by_cases dA:i < s.aB.length
     ·have t2:(decide ((i:Int) < (s.aB.length:Int)))=true:=by simpa using dA
      have sI:=Sx.Inv.su G'.v (i:Int) (by omega) (by omega);have si:dm s (i:Int):=⟨by omega,by omega,sI.1,sI.2.1⟩
      cases mK:(su s (i:Int)).live with
      | false =>
       have A1:(s.aB.map eS)[((i:Int)).toNat]?=some (eS { su s (i:Int) with live:=false }):=by rw [← mK];exact si.at_
       repeat (first | (refine K.store ?_;refine JO.ld (Ld.aP rfl rfl rfl (by exact rfl) (by exact rfl)) rfl (fun _=>?_)) | refine au ?_ | intro _)
       refine J.eF 0 ?_;exact (kL ⟨i + 1,by omega⟩ (by simp only;omega)).aU ⟨rfl,rfl,rfl,rfl,rfl,rfl,rfl,rfl,rfl,rfl,trivial⟩
      | true =>
      have A1:(s.aB.map eS)[((i:Int)).toNat]?=some (eS { su s (i:Int) with live:=true }):=by rw [← mK];exact si.at_
      cases Zs:((su s (i:Int)).g == (g:Int)) with
      | true =>
       repeat (first | (refine K.store ?_;refine JO.ld (Ld.aP rfl rfl rfl (by exact rfl) (by exact rfl)) rfl (fun _=>?_)) | refine au ?_ | intro _)
       refine J.eF 0 ?_;exact (kL ⟨i + 1,by omega⟩ (by simp only;omega)).aU ⟨rfl,rfl,rfl,rfl,rfl,rfl,rfl,rfl,rfl,rfl,trivial⟩
      | false =>
       have br:(su s (i:Int)).g≠(g:Int):=by simpa using Zs
       repeat (first | (refine K.store ?_;refine JO.ld (Ld.aP rfl rfl rfl (by exact rfl) (by exact rfl)) rfl (fun _=>?_)) | refine au ?_ | intro _)
       rename_i sM _;obtain ⟨o,ho⟩:∃ o:Nat,(su s (i:Int)).g=o:=⟨(su s (i:Int)).g.toNat,by omega⟩
       have NV:o≠g:=fun e=>br (by rw [ho,e])
       have mh:o < s.gs.length:=by omega
       have BP:Sx.Bd 200 (Sx.pair s g (i:Int)):=BG.pair;have BV:∀ q,Sx.Bd 201 (Sx.serve s g (i:Int) q):=fun q=>BG.serve
       have NW:=FM s g (i:Int) hg si (Gk G');have NX:=y8 (Sx.pair s g (i:Int)) (Bd.fe BP (by omega));obtain ⟨q,hq⟩:∃ q,((ch.tmod 2) == 0)=q:=⟨_,rfl⟩
       have NY:=wv s g (i:Int) q hg si (rQ G);have NZ:=y8 (Sx.serve s g (i:Int) q) (Bd.fe (BV q) (by omega));have wl:=(BG.gr g).wk
       repeat (first | (refine K.call ?_;refine JO.ld (Ld.bU CO (qb rfl) rfl (.cons .refl .nil)) rfl ?_;intro x) | refine gn ?_)
       obtain ⟨⟨p9,v⟩,hv⟩:=x;simp only at hv ⊢;have Zt:=WS p9 v s g o (i:Int) hg mh NV (by omega) (by omega) ho;have N0:=uu p9 v (Sx.pair s g (i:Int)) (Bd.fw BP (by omega))
       repeat (first | (refine K.call ?_;refine JO.ld (Ld.bU (Zt) (qb rfl) rfl (by (exact aL.cons .refl (.cons .refl (.cons .refl .nil))))) rfl ?_;intro _) | refine gn ?_)
       refine J.join (ι:=Unit) (fun _=>[(94,.c (bI false)),(67,.c (nI i)),(66,.c (nI s.aB.length)),(65,.c (.r 7 (s.aB.map eS))),(12,.c (nI i)),(41,.c (nI g)),(40,.c (nI s.gs.length)),(39,.c (.r 25 (s.gs.map eG))),(10,.c (nI g)),(9,.c (.v (pt b9))),(7,.c (.v (pt b7))),(2,.c (nI ch))]) (fun _=>.box sM 52 (eS { su s (i:Int) with live:=true }) :: .box b7 36 (ay s) :: .box b3 27 (kP p sn cn d) :: (wd b9 u s ++ wd p9 v (Sx.pair s g (i:Int)))) (fun _=>?rest3) (fun rest3=>?_)
       case rest3 =>
        refine J.yX p9 ?_
        repeat (first | (refine K.binOp ?_;refine jq rfl rfl rfl ((Qt.rem rfl rfl (by decide) rfl)) ?_) | (refine K.call ?_;refine JO.ld (Ld.bU CO (qb rfl) rfl (.cons .refl .nil)) rfl ?_;intro x) | refine gn ?_)
        obtain ⟨⟨qc,y⟩,hy⟩:=x;simp only at hy ⊢;have Zu:=Mt qc y s g o (i:Int) q hg mh NV (by omega) (by omega) ho (by omega)
        repeat (first | (refine K.call ?_;refine JO.ld (Ld.bU Zu (qb rfl) rfl (.cons .refl (.cons .refl (.cons .refl (.cons .refl .nil))))) rfl ?_;intro vw) | refine gn ?_)
        have N1:=uu qc (iM y g vw) (Sx.serve s g (i:Int) q) (Bd.fw (BV q) (by omega));refine J.join (ι:=Unit) (fun _=>[(114,.c (bI false)),(67,.c (nI i)),(66,.c (nI s.aB.length)),(65,.c (.r 7 (s.aB.map eS))),(12,.c (nI i)),(41,.c (nI g)),(40,.c (nI s.gs.length)),(39,.c (.r 25 (s.gs.map eG))),(10,.c (nI g)),(9,.c (.v (pt b9))),(7,.c (.v (pt b7))),(2,.c (nI ch))]) (fun _=>.box sM 52 (eS { su s (i:Int) with live:=true }) :: .box b7 36 (ay s) :: .box b3 27 (kP p sn cn d) :: (wd b9 u s ++ wd qc (iM y g vw) (Sx.serve s g (i:Int) q))) (fun _=>?rest4) (fun rest4=>?_)
        case rest4 =>
         refine J.yX qc ?_;refine J.eF 0 ?_
         repeat (refine gn ?_)
         exact (kL ⟨i + 1,by omega⟩ (by simp only;omega)).aU ⟨rfl,rfl,rfl,rfl,rfl,rfl,rfl,rfl,rfl,rfl,trivial⟩
        refine J.draw (by kernel_rfl) rfl ?_;refine JW.wh none ?_;refine tk 0 ?_;refine tk 3 ?_;refine tk 4 ?_;refine tk 5 ?_;refine JD.take 6 rfl rfl (by kernel_rfl) rfl (qb rfl) (Qt.rem rfl rfl (by decide) rfl) rfl ?_;refine JD.take 7 rfl rfl (by kernel_rfl) rfl (qb rfl) (Qt.cmp rfl rfl (congrArg some hq)) rfl ?_;refine JD.cB (i:=1) (j:=2) (by kernel_rfl) ?_ ?_;refine JS.fF rfl rfl rfl (qb rfl) (Ld.bU N1 (qb rfl) rfl (.cons .refl .nil)) (eu.aO) (fun _=>?_);refine jk 2 rfl rfl rfl rfl (Qt.fB rfl (by exact rfl)) ?_;refine JD.bk (i:=8) (by kernel_rfl) ?_;refine JS.fF rfl rfl rfl (qb rfl) (Ld.pure (NY) (qb rfl) rfl lq) (eu.nil) (fun _=>?_);refine JD.bk (i:=9) (by kernel_rfl) ?_;refine JS.fF rfl rfl rfl (qb rfl) (Ld.pure (NZ) (qb rfl) rfl (by repeat (first | exact aL.nil | refine aL.cons (cQ.agg (by repeat (first | exact .nil | refine .cons .refl ?_))) ?_))) (eu.nil) (fun _=>?_);refine jk 10 rfl rfl rfl rfl (Qt.not rfl) ?_;refine bH ?_
        rotate_left
        (refine JS.q rfl rfl rfl (qb rfl) (Qt.fB rfl (by exact rfl)) ?_)
        refine JD.bk (i:=1) (by kernel_rfl) ?_;refine JS.fF rfl rfl rfl (qb rfl) (Ld.bU N1 (qb rfl) rfl (.cons .refl .nil)) (eu.aO) (fun _=>?_);refine JD.bk (i:=8) (by kernel_rfl) ?_;refine JS.fF rfl rfl rfl (qb rfl) (Ld.pure (NY) (qb rfl) rfl lq) (eu.nil) (fun _=>?_);refine JD.bk (i:=9) (by kernel_rfl) ?_;refine JS.fF rfl rfl rfl (qb rfl) (Ld.pure (NZ) (qb rfl) rfl (by repeat (first | exact aL.nil | refine aL.cons (cQ.agg (by repeat (first | exact .nil | refine .cons .refl ?_))) ?_))) (eu.nil) (fun _=>?_);refine jk 10 rfl rfl rfl rfl (Qt.not rfl) ?_;refine bH ?_
        rotate_left
        all_goals exact (rest4 ()).aU ⟨rfl,rfl,rfl,rfl,rfl,rfl,rfl,rfl,rfl,rfl,rfl,rfl,trivial⟩
       refine J.draw (by kernel_rfl) rfl ?_;refine JW.wh none ?_;refine tk 0 ?_;refine tk 3 ?_;refine tk 4 ?_;refine JD.cB (i:=1) (j:=2) (by kernel_rfl) ?_ ?_;refine JS.fF rfl rfl rfl (qb rfl) (Ld.bU N0 (qb rfl) rfl (.cons .refl .nil)) (eu.aO) (fun _=>?_);refine jk 2 rfl rfl rfl rfl (Qt.fB rfl (by exact rfl)) ?_;refine JD.bk (i:=5) (by kernel_rfl) ?_;refine JS.fF rfl rfl rfl (qb rfl) (Ld.pure (NW) (qb rfl) rfl lq) (eu.nil) (fun _=>?_);refine JD.bk (i:=6) (by kernel_rfl) ?_;refine JS.fF rfl rfl rfl (qb rfl) (Ld.pure (NX) (qb rfl) rfl (by repeat (first | exact aL.nil | refine aL.cons (cQ.agg (by repeat (first | exact .nil | refine .cons .refl ?_))) ?_))) (eu.nil) (fun _=>?_);refine jk 7 rfl rfl rfl rfl (Qt.not rfl) ?_;refine bH ?_
       rotate_left
       (refine JS.q rfl rfl rfl (qb rfl) (Qt.fB rfl (by exact rfl)) ?_)
       refine JD.bk (i:=1) (by kernel_rfl) ?_;refine JS.fF rfl rfl rfl (qb rfl) (Ld.bU N0 (qb rfl) rfl (.cons .refl .nil)) (eu.aO) (fun _=>?_);refine JD.bk (i:=5) (by kernel_rfl) ?_;refine JS.fF rfl rfl rfl (qb rfl) (Ld.pure (NW) (qb rfl) rfl lq) (eu.nil) (fun _=>?_);refine JD.bk (i:=6) (by kernel_rfl) ?_;refine JS.fF rfl rfl rfl (qb rfl) (Ld.pure (NX) (qb rfl) rfl (by repeat (first | exact aL.nil | refine aL.cons (cQ.agg (by repeat (first | exact .nil | refine .cons .refl ?_))) ?_))) (eu.nil) (fun _=>?_);refine jk 7 rfl rfl rfl rfl (Qt.not rfl) ?_;refine bH ?_
       rotate_left
       all_goals exact (rest3 ()).aU ⟨rfl,rfl,rfl,rfl,rfl,rfl,rfl,rfl,rfl,rfl,rfl,rfl,trivial⟩
     ·have t2:(decide ((i:Int) < (s.aB.length:Int)))=false:=by simpa using dA
      repeat (refine gn ?_)
      exact (ih ⟨g + 1,by omega⟩ (by simp only;omega)).aU ⟨rfl,rfl,rfl,rfl,rfl,rfl,trivial⟩
    refine J.draw (by kernel_rfl) rfl ?_;refine JW.wh none ?_;refine tk 0 ?_;refine tk 3 ?_;refine JD.cB (i:=1) (j:=2) (by kernel_rfl) ?_ ?_;refine JS.fF rfl rfl rfl (qb rfl) (Ld.bU CT (qb rfl) rfl (.cons .refl .nil)) (eu.aO) (fun _=>?_);refine jk 2 rfl rfl rfl rfl (Qt.fB rfl (by exact rfl)) ?_;refine JD.bk (i:=4) (by kernel_rfl) ?_;refine JS.fF rfl rfl rfl (qb rfl) (Ld.pure (NU) (qb rfl) rfl lq) (eu.nil) (fun _=>?_);refine JD.bk (i:=5) (by kernel_rfl) ?_;refine JS.fF rfl rfl rfl (qb rfl) (Ld.pure (CS) (qb rfl) rfl (by repeat (first | exact aL.nil | refine aL.cons (cQ.agg (by repeat (first | exact .nil | refine .cons .refl ?_))) ?_))) (eu.nil) (fun _=>?_);refine jk 6 rfl rfl rfl rfl (Qt.not rfl) ?_;refine bH ?_
    rotate_left
    (refine JS.q rfl rfl rfl (qb rfl) (Qt.fB rfl (by exact rfl)) ?_)
    refine JD.bk (i:=1) (by kernel_rfl) ?_;refine JS.fF rfl rfl rfl (qb rfl) (Ld.bU CT (qb rfl) rfl (.cons .refl .nil)) (eu.aO) (fun _=>?_);refine JD.bk (i:=4) (by kernel_rfl) ?_;refine JS.fF rfl rfl rfl (qb rfl) (Ld.pure (NU) (qb rfl) rfl lq) (eu.nil) (fun _=>?_);refine JD.bk (i:=5) (by kernel_rfl) ?_;refine JS.fF rfl rfl rfl (qb rfl) (Ld.pure (CS) (qb rfl) rfl (by repeat (first | exact aL.nil | refine aL.cons (cQ.agg (by repeat (first | exact .nil | refine .cons .refl ?_))) ?_))) (eu.nil) (fun _=>?_);refine jk 6 rfl rfl rfl rfl (Qt.not rfl) ?_;refine bH ?_
    rotate_left
    all_goals exact (rest2 ()).aU ⟨rfl,rfl,rfl,rfl,rfl,rfl,rfl,rfl,trivial⟩
   refine J.draw (by kernel_rfl) rfl ?_;refine JW.wh none ?_;refine tk 0 ?_;refine tk 1 ?_;refine tk 4 ?_;refine JD.cB (i:=2) (j:=3) (by kernel_rfl) ?_ ?_;refine JS.fF rfl rfl rfl (qb rfl) (Ld.bU CP (qb rfl) rfl (.cons .refl (.cons .refl .nil))) (eu.aO) (fun _=>?_);refine jk 3 rfl rfl rfl rfl (Qt.fB rfl (by exact rfl)) ?_;refine JD.bk (i:=5) (by kernel_rfl) ?_;refine JS.fF rfl rfl rfl (qb rfl) (Ld.pure (NT) (qb rfl) rfl lq) (eu.nil) (fun _=>?_);refine JD.bk (i:=6) (by kernel_rfl) ?_;refine JS.fF rfl rfl rfl (qb rfl) (Ld.pure (CE) (qb rfl) rfl (by repeat (first | exact aL.nil | refine aL.cons (cQ.agg (by repeat (first | exact .nil | refine .cons .refl ?_))) ?_))) (eu.nil) (fun _=>?_);refine jk 7 rfl rfl rfl rfl (Qt.not rfl) ?_;refine bH ?_
   rotate_left
   (refine JS.q rfl rfl rfl (qb rfl) (Qt.fB rfl (by exact rfl)) ?_)
   refine JD.bk (i:=2) (by kernel_rfl) ?_;refine JS.fF rfl rfl rfl (qb rfl) (Ld.bU CP (qb rfl) rfl (.cons .refl (.cons .refl .nil))) (eu.aO) (fun _=>?_);refine JD.bk (i:=5) (by kernel_rfl) ?_;refine JS.fF rfl rfl rfl (qb rfl) (Ld.pure (NT) (qb rfl) rfl lq) (eu.nil) (fun _=>?_);refine JD.bk (i:=6) (by kernel_rfl) ?_;refine JS.fF rfl rfl rfl (qb rfl) (Ld.pure (CE) (qb rfl) rfl (by repeat (first | exact aL.nil | refine aL.cons (cQ.agg (by repeat (first | exact .nil | refine .cons .refl ?_))) ?_))) (eu.nil) (fun _=>?_);refine jk 7 rfl rfl rfl rfl (Qt.not rfl) ?_;refine bH ?_
   rotate_left
   all_goals exact (rest1 ()).aU ⟨rfl,rfl,rfl,rfl,rfl,rfl,rfl,rfl,trivial⟩
  ·have t1:(decide ((g:Int) < (s.gs.length:Int)))=false:=by simpa using hg
   repeat (refine gn ?_)
   exact az Tryz.func4
 cases m
 all_goals
  refine J.draw (by kernel_rfl) rfl ?_;refine JW.wh none ?_;refine tk 0 ?_;refine JD.take 1 rfl rfl (by kernel_rfl) rfl (qb rfl) (Qt.za zb rfl rfl) rfl ?_;refine tk 2 ?_;refine tk 3 ?_;refine tk 4 ?_;refine tk 7 ?_;refine JD.cB (i:=5) (j:=6) (by kernel_rfl) ?_ ?_;refine JS.fF rfl rfl rfl (qb rfl) (Ld.bU CM (qb rfl) rfl (.cons .refl (.cons .refl .nil))) (eu.aO) (fun _=>?_);refine jk 6 rfl rfl rfl rfl (Qt.fB rfl (by exact rfl)) ?_;refine JD.bk (i:=8) (by kernel_rfl) ?_;refine JS.fF rfl rfl rfl (qb rfl) (Ld.pure (GC) (qb rfl) rfl lq) (eu.nil) (fun _=>?_);refine tk 9 ?_;refine jk 10 rfl rfl rfl rfl (Qt.pick rfl rfl) ?_;refine bH ?_
  rotate_left
  (refine JS.q rfl rfl rfl (qb rfl) (Qt.fB rfl (by exact rfl)) ?_)
  refine JD.bk (i:=5) (by kernel_rfl) ?_;refine JS.fF rfl rfl rfl (qb rfl) (Ld.bU CM (qb rfl) rfl (.cons .refl (.cons .refl .nil))) (eu.aO) (fun _=>?_);refine JD.bk (i:=8) (by kernel_rfl) ?_;refine JS.fF rfl rfl rfl (qb rfl) (Ld.pure (GC) (qb rfl) rfl lq) (eu.nil) (fun _=>?_);refine tk 9 ?_;refine jk 10 rfl rfl rfl rfl (Qt.pick rfl rfl) ?_;refine bH ?_
  rotate_left
  all_goals exact (rest0 ()).aU ⟨rfl,rfl,rfl,rfl,trivial⟩
theorem Zv (w:World) (cs:Array Value) (a:tq) (U:List Nat) (sz:cs.size=4) (he:rN w cs.toList a U) (oc:∀ y∈cs.toList,y.oneCell'=true) (v:Value) (l:List Int) (S:List Nat) (hl:GV (kz .i64) 1 w v l S) (n:Int) (wn:(Lit.int .i64 n).wf=true) :
  Calls Tryz.prog 4 #[.agg cs,v,.int .i64 n] w fun e w'=>e=.returned (.bool true)∧aj [] w w' :=
 Y4 (Zr a.p a.sn a.cn a.d l n (Gt he)) he hl
end Fl
end Go.Proofs.YtofnbflkhgammaaGreat
