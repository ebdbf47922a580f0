/-
  What the laws need, part C1.
  Conditions: none.
-/
import Derived.Test.YtofnbflkhgammaaGreatA47
set_option linter.unusedVariables false
set_option linter.unusedSimpArgs false
set_option linter.unnecessarySimpa false
set_option maxHeartbeats 2000000
namespace Go.Proofs.YtofnbflkhgammaaGreat
open Go.RowKit
namespace Fl
open Sx
set_option maxRecDepth 100000
theorem Zp (p:List (List Pn.Op)) (sn cn:Int) (d l:List Int) (hd:∀ x∈d,0≤x∧x < 65536) :
  Pure Tryz.prog 5 [.agg (kP p sn cn d),.c (ints l)] (.c (bI true)):=by
 have CR:=Gs p sn cn d l hd;have HG:=Gq (p:=p) (sn:=sn) (cn:=cn) (l:=l) hd;generalize jO p sn cn d l=r at CR HG;obtain ⟨s,o⟩:=r;refine aq.intro Tryz.func5 rfl rfl rfl (fun ok e=>?_)
 cases o with
 | false =>
  repeat (first | (refine K.store ?_;refine JO.ld (Ld.aP rfl rfl rfl (by exact rfl) (by exact rfl)) rfl (fun _=>?_)) | refine ei (BO) ?_ | refine au ?_ | intro _)
  exact az Tryz.func5
 | true =>
 have G:Sx.Good s:=HG rfl;have g8:=G.n8;clear HG
 repeat (first | (refine K.store ?_;refine JO.ld (Ld.aP rfl rfl rfl (by exact rfl) (by exact rfl)) rfl (fun _=>?_)) | refine ei (BO) ?_ | refine au ?_ | intro _)
 rename_i b2 b5 _;refine J.loop (ι:={ k:Nat // k≤s.gs.length }) (fun q=>[(25,.c (nI q.1)),(24,.c (nI s.gs.length)),(23,.c (.r 25 (s.gs.map eG))),(5,.c (.v (pt b5)))]) (fun _=>[.box b5 36 (ay s),.box b2 27 (kP p sn cn d)]) (fun q=>s.gs.length - q.1) ⟨0,Nat.zero_le _⟩ (fun X h=>h.aU ⟨rfl,rfl,rfl,rfl,trivial⟩) (fun q ih=>?_);obtain ⟨g,hk⟩:=q;simp only at hk ih ⊢
 by_cases hg:g < s.gs.length
 ·have t1:(decide ((g:Int) < (s.gs.length:Int)))=true:=by simpa using hg
  have CO:=Cm s (Gp G);have C2:=fy s g (wE G hg);have B2:=(zE G).common (g:=g);have CS:=y8 (common s g).1 (Bd.fe B2 (by omega));have FW:=Bd.fw B2 (by omega);have C1:=fun b u hu=>Nk b u s g (Nq G hg) hu
  generalize common s g=r at C1 C2 CS FW B2;obtain ⟨s2,o2⟩:=r;simp only at C1 C2 CS FW
  repeat (first | (refine K.binOp ?_;refine jq rfl rfl rfl (Qt.za zb rfl rfl) ?_) | (refine K.call ?_;refine JO.ld (Ld.bU CO (qb rfl) rfl (.cons .refl .nil)) rfl ?_;intro x) | refine gn ?_)
  obtain ⟨⟨b8,u⟩,hu⟩:=x;simp only at hu ⊢;have C1:=C1 b8 u hu
  repeat (first | (refine K.store ?_;refine JO.ld (Ld.aP rfl rfl rfl (by exact rfl) (by exact rfl)) rfl (fun _=>?_)) | (refine K.call ?_;(refine JO.ld (Ld.bU C1 (qb rfl) rfl (.cons .refl (.cons .refl .nil))) rfl ?_;intro y)) | refine au ?_ | intro _)
  have CT:=uu b8 y.1 s2 FW
  cases o2
  all_goals
   refine J.draw (by kernel_rfl) rfl ?_;refine JW.cB (i:=0) (j:=1) (by kernel_rfl) ?_ ?_;refine JT.q rfl rfl rfl (qb rfl) (Qt.move rfl) ?_;refine JW.bk (i:=1) (by kernel_rfl) ?_;refine JT.q rfl rfl rfl (qb rfl) (Qt.move rfl) ?_;refine JW.bk (i:=2) (by kernel_rfl) ?_
   (refine JT.q rfl rfl rfl (qb rfl) (Qt.tI rfl rfl) ?_)
   refine JW.bk (i:=3) (by kernel_rfl) ?_;refine JT.q rfl rfl rfl (qb rfl) (Qt.move rfl) ?_;refine JW.cB (i:=4) (j:=6) (by kernel_rfl) ?_ ?_
   (refine JT.q rfl rfl rfl (qb rfl) (Qt.move rfl) ?_)
   refine JW.cB (i:=5) (j:=6) (by kernel_rfl) ?_ ?_
   (refine JT.ld rfl rfl (Ld.bU CT (qb rfl) rfl (.cons .refl .nil)) (fun _=>?_))
   refine JW.bk (i:=6) (by kernel_rfl) ?_
   (refine JT.q rfl rfl rfl (qb rfl) (Qt.fB rfl (by exact rfl)) ?_)
   refine JW.bk (i:=7) (by kernel_rfl) ?_
   (refine JT.ld rfl rfl (Ld.pure (CS) (qb rfl) rfl (by repeat (first | exact aL.nil | refine aL.cons (cQ.agg (by repeat (first | exact .nil | refine .cons .refl ?_))) ?_))) (fun _=>?_))
   refine JW.bk (i:=8) (by kernel_rfl) ?_
   (refine JT.q rfl rfl rfl (qb rfl) (Qt.not rfl) ?_)
   refine JW.bk (i:=9) (by kernel_rfl) ?_;refine JT.q rfl rfl rfl (qb rfl) (Qt.pick rfl rfl) ?_;refine bJ ?_
   rotate_left
   (refine JT.q rfl rfl rfl (qb rfl) (Qt.fB rfl (by exact rfl)) ?_)
   refine JW.bk (i:=5) (by kernel_rfl) ?_
   (refine JT.ld rfl rfl (Ld.bU CT (qb rfl) rfl (.cons .refl .nil)) (fun _=>?_))
   refine JW.bk (i:=7) (by kernel_rfl) ?_
   (refine JT.ld rfl rfl (Ld.pure (CS) (qb rfl) rfl (by repeat (first | exact aL.nil | refine aL.cons (cQ.agg (by repeat (first | exact .nil | refine .cons .refl ?_))) ?_))) (fun _=>?_))
   refine JW.bk (i:=8) (by kernel_rfl) ?_
   (refine JT.q rfl rfl rfl (qb rfl) (Qt.not rfl) ?_)
   refine JW.bk (i:=9) (by kernel_rfl) ?_;refine JT.q rfl rfl rfl (qb rfl) (Qt.pick rfl rfl) ?_;refine bJ ?_
   rotate_left
   (refine JT.q rfl rfl rfl (qb rfl) (Qt.fB rfl (by exact rfl)) ?_)
   refine JW.bk (i:=4) (by kernel_rfl) ?_
   (refine JT.q rfl rfl rfl (qb rfl) (Qt.move rfl) ?_)
   refine JW.bk (i:=5) (by kernel_rfl) ?_
   (refine JT.ld rfl rfl (Ld.bU CT (qb rfl) rfl (.cons .refl .nil)) (fun _=>?_))
   refine JW.bk (i:=7) (by kernel_rfl) ?_
   (refine JT.ld rfl rfl (Ld.pure (CS) (qb rfl) rfl (by repeat (first | exact aL.nil | refine aL.cons (cQ.agg (by repeat (first | exact .nil | refine .cons .refl ?_))) ?_))) (fun _=>?_))
   refine JW.bk (i:=8) (by kernel_rfl) ?_
   (refine JT.q rfl rfl rfl (qb rfl) (Qt.not rfl) ?_)
   refine JW.bk (i:=9) (by kernel_rfl) ?_;refine JT.q rfl rfl rfl (qb rfl) (Qt.pick rfl rfl) ?_;refine bJ ?_
   rotate_left
   refine JT.q rfl rfl rfl (qb rfl) (Qt.move rfl) ?_;refine JW.bk (i:=0) (by kernel_rfl) ?_;refine JT.q rfl rfl rfl (qb rfl) (Qt.move rfl) ?_;refine JW.bk (i:=2) (by kernel_rfl) ?_
   (refine JT.q rfl rfl rfl (qb rfl) (Qt.tI rfl rfl) ?_)
   refine JW.bk (i:=3) (by kernel_rfl) ?_;refine JT.q rfl rfl rfl (qb rfl) (Qt.move rfl) ?_;refine JW.cB (i:=4) (j:=6) (by kernel_rfl) ?_ ?_
   (refine JT.q rfl rfl rfl (qb rfl) (Qt.move rfl) ?_)
   refine JW.cB (i:=5) (j:=6) (by kernel_rfl) ?_ ?_
   (refine JT.ld rfl rfl (Ld.bU CT (qb rfl) rfl (.cons .refl .nil)) (fun _=>?_))
   refine JW.bk (i:=6) (by kernel_rfl) ?_
   (refine JT.q rfl rfl rfl (qb rfl) (Qt.fB rfl (by exact rfl)) ?_)
   refine JW.bk (i:=7) (by kernel_rfl) ?_
   (refine JT.ld rfl rfl (Ld.pure (CS) (qb rfl) rfl (by repeat (first | exact aL.nil | refine aL.cons (cQ.agg (by repeat (first | exact .nil | refine .cons .refl ?_))) ?_))) (fun _=>?_))
   refine JW.bk (i:=8) (by kernel_rfl) ?_
   (refine JT.q rfl rfl rfl (qb rfl) (Qt.not rfl) ?_)
   refine JW.bk (i:=9) (by kernel_rfl) ?_;refine JT.q rfl rfl rfl (qb rfl) (Qt.pick rfl rfl) ?_;refine bJ ?_
   rotate_left
   (refine JT.q rfl rfl rfl (qb rfl) (Qt.fB rfl (by exact rfl)) ?_)
   refine JW.bk (i:=5) (by kernel_rfl) ?_
   (refine JT.ld rfl rfl (Ld.bU CT (qb rfl) rfl (.cons .refl .nil)) (fun _=>?_))
   refine JW.bk (i:=7) (by kernel_rfl) ?_
   (refine JT.ld rfl rfl (Ld.pure (CS) (qb rfl) rfl (by repeat (first | exact aL.nil | refine aL.cons (cQ.agg (by repeat (first | exact .nil | refine .cons .refl ?_))) ?_))) (fun _=>?_))
   refine JW.bk (i:=8) (by kernel_rfl) ?_
   (refine JT.q rfl rfl rfl (qb rfl) (Qt.not rfl) ?_)
   refine JW.bk (i:=9) (by kernel_rfl) ?_;refine JT.q rfl rfl rfl (qb rfl) (Qt.pick rfl rfl) ?_;refine bJ ?_
   rotate_left
   (refine JT.q rfl rfl rfl (qb rfl) (Qt.fB rfl (by exact rfl)) ?_)
   refine JW.bk (i:=4) (by kernel_rfl) ?_
   (refine JT.q rfl rfl rfl (qb rfl) (Qt.move rfl) ?_)
   refine JW.bk (i:=5) (by kernel_rfl) ?_
   (refine JT.ld rfl rfl (Ld.bU CT (qb rfl) rfl (.cons .refl .nil)) (fun _=>?_))
   refine JW.bk (i:=7) (by kernel_rfl) ?_
   (refine JT.ld rfl rfl (Ld.pure (CS) (qb rfl) rfl (by repeat (first | exact aL.nil | refine aL.cons (cQ.agg (by repeat (first | exact .nil | refine .cons .refl ?_))) ?_))) (fun _=>?_))
   refine JW.bk (i:=8) (by kernel_rfl) ?_
   (refine JT.q rfl rfl rfl (qb rfl) (Qt.not rfl) ?_)
   refine JW.bk (i:=9) (by kernel_rfl) ?_;refine JT.q rfl rfl rfl (qb rfl) (Qt.pick rfl rfl) ?_;refine bJ ?_
   rotate_left
   all_goals
    repeat (refine gn ?_)
    refine J.yX b8 ?_;refine J.eF 0 ?_;exact (ih ⟨g + 1,by omega⟩ (by simp only;omega)).aU ⟨rfl,rfl,rfl,rfl,trivial⟩
 ·have t1:(decide ((g:Int) < (s.gs.length:Int)))=false:=by simpa using hg
  repeat (refine gn ?_)
  exact az Tryz.func5
theorem Zq (w:World) (cs:Array Value) (a:tq) (U:List Nat) (sz:cs.size=4) (he:rN w cs.toList a U) (oc:∀ y∈cs.toList,y.oneCell'=true) (v:Value) (l:List Int) (S:List Nat) (hl:GV (kz .i64) 1 w v l S) :
  Calls Tryz.prog 5 #[.agg cs,v] w fun e w'=>e=.returned (.bool true)∧aj [] w w' :=
 Nr (Zp a.p a.sn a.cn a.d l (Gt he)) he hl
end Fl
end Go.Proofs.YtofnbflkhgammaaGreat
