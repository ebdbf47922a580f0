/-
  What the laws need, part CS3.
  Conditions: none.
-/
import Derived.Test.YtdjhhbpedllnhaaGreatB33
import Derived.Test.YtdjhhbpedllnhaaGreatCS2
set_option linter.unusedVariables false
set_option linter.unusedSimpArgs false
set_option linter.unnecessarySimpa false
set_option maxHeartbeats 2000000
namespace Go.Proofs.YtdjhhbpedllnhaaGreat
open Go.RowKit
namespace Fl
open Sx Go.Proofs.Tryz
set_option maxRecDepth 100000
theorem W2 (p:List (List Pn.Op)) (sn cn:Int) (d l:List Int) (hd:∀ x∈d,0≤x∧x < 65536) :
  Pure prog 7 [.agg (ng p sn cn d),.c (ints l)] (.c (bI true)):=by
 have CR:=FL p sn cn d l hd;have HG:=FK (p:=p) (sn:=sn) (cn:=cn) (l:=l) hd;generalize j6 p sn cn d l=r at CR HG;obtain ⟨s,o⟩:=r;refine an.intro func7 rfl rfl rfl (fun ok e=>?_)
 cases o with
 | false =>
  repeat (first | (refine K.store ?_;refine JO.ld (Ld.bq rfl rfl rfl (by exact rfl) (by exact rfl)) rfl (fun _=>?_)) | refine kN (wR) ?_ | refine ay ?_ | intro _)
  exact aD func7
 | true =>
 have G:Sx.Good s:=HG rfl;have g8:=G.n8;clear HG
 repeat (first | (refine K.store ?_;refine JO.ld (Ld.bq rfl rfl rfl (by exact rfl) (by exact rfl)) rfl (fun _=>?_)) | refine kN (wR) ?_ | refine ay ?_ | intro _)
 rename_i b2 b5 _;refine J.loop (ι:={ k:Nat // k≤s.gs.length }) (fun q=>[(26,.c (nI q.1)),(25,.c (nI s.gs.length)),(24,.c (.r 25 (s.gs.map eG))),(5,.c (.v (pt b5)))]) (fun _=>[.box b5 36 (aC s),.box b2 27 (ng p sn cn d)]) (fun q=>s.gs.length - q.1) ⟨0,Nat.zero_le _⟩ (fun X h=>h.aW ⟨rfl,rfl,rfl,rfl,trivial⟩) (fun q ih=>?_);obtain ⟨g,hk⟩:=q;simp only at hk ih ⊢
 by_cases hg:g < s.gs.length
 ·have t1:(decide ((g:Int) < (s.gs.length:Int)))=true:=by simpa using hg
  cases st:((aa s g).status != 0) with
  | true =>
   repeat (first | (refine K.store ?_;refine JO.ld (Ld.bq rfl rfl rfl (by exact rfl) (by exact rfl)) rfl (fun _=>?_)) | refine ay ?_ | intro _)
   refine J.cS 0 ?_;exact (ih ⟨g + 1,by omega⟩ (by simp only;omega)).aW ⟨rfl,rfl,rfl,rfl,trivial⟩
  | false =>
  have kG:(aa s g).status=0:=by simpa using st
  have CO:=Cf s (FJ G);have C2:=W1 s g (FG G hg kG);have BG:=zI (Gj G hg kG);have CS:=W0 (aR s g).1 (Bd.fe BG (by omega));have FW:=Bd.fw BG (by omega);have C1:=fun b u hu=>Cr b u s g (Gh G hg kG) hu
  generalize aR s g=r at C1 C2 CS FW BG;obtain ⟨s2,o2⟩:=r;simp only at C1 C2 CS FW
  repeat (first | (refine K.store ?_;refine JO.ld (Ld.bq rfl rfl rfl (by exact rfl) (by exact rfl)) rfl (fun _=>?_)) | (refine K.binOp ?_;refine jq rfl rfl rfl (Qt.yI yJ rfl rfl) ?_) | (refine K.call ?_;refine JO.ld (Ld.aY CO (qb rfl) rfl (.cons .refl .nil)) rfl ?_;intro x) | refine ay ?_ | intro _)
  obtain ⟨⟨b8,u⟩,hu⟩:=x;simp only at hu ⊢;have C1:=C1 b8 u hu
  repeat (first | (refine K.store ?_;refine JO.ld (Ld.bq rfl rfl rfl (by exact rfl) (by exact rfl)) rfl (fun _=>?_)) | (refine K.call ?_;(refine JO.ld (Ld.aY C1 (qb rfl) rfl (.cons .refl (.cons .refl .nil))) rfl ?_;intro y)) | refine ay ?_ | intro _)
  have CT:=AQ b8 y.1 s2 FW
  cases o2
  all_goals
   refine J.draw (by kernel_rfl) rfl ?_;refine JW.ya none ?_;refine tk 0 ?_;refine tk 1 ?_;refine tk 2 ?_;refine tk 3 ?_;refine tk 4 ?_;refine JD.cU (i:=5) (j:=6) (by kernel_rfl) ?_ ?_;refine JS.kA rfl rfl rfl (qb rfl) (Ld.aY CT (qb rfl) rfl (.cons .refl .nil)) (iA.bu) (fun _=>?_);refine jk 6 rfl rfl rfl rfl (Qt.tI rfl (by exact rfl)) ?_;refine JD.gU (i:=7) (by kernel_rfl) ?_;refine JS.kA rfl rfl rfl (qb rfl) (Ld.pure (CS) (qb rfl) rfl (by repeat (first | exact aJ.nil | refine aJ.cons (dU.agg (by repeat (first | exact .nil | refine .cons .refl ?_))) ?_))) (iA.nil) (fun _=>?_);refine tk 8 ?_;refine jk 9 rfl rfl rfl rfl (Qt.pick rfl rfl) ?_;refine bE ?_
   rotate_left
   (refine JS.q rfl rfl rfl (qb rfl) (Qt.tI rfl (by exact rfl)) ?_)
   refine JD.gU (i:=5) (by kernel_rfl) ?_;refine JS.kA rfl rfl rfl (qb rfl) (Ld.aY CT (qb rfl) rfl (.cons .refl .nil)) (iA.bu) (fun _=>?_);refine JD.gU (i:=7) (by kernel_rfl) ?_;refine JS.kA rfl rfl rfl (qb rfl) (Ld.pure (CS) (qb rfl) rfl (by repeat (first | exact aJ.nil | refine aJ.cons (dU.agg (by repeat (first | exact .nil | refine .cons .refl ?_))) ?_))) (iA.nil) (fun _=>?_);refine tk 8 ?_;refine jk 9 rfl rfl rfl rfl (Qt.pick rfl rfl) ?_;refine bE ?_
   rotate_left
   all_goals
    repeat (refine gn ?_)
    refine J.uI b8 ?_;refine J.cS 0 ?_;refine J.cS 0 ?_;exact (ih ⟨g + 1,by omega⟩ (by simp only;omega)).aW ⟨rfl,rfl,rfl,rfl,trivial⟩
 ·have t1:(decide ((g:Int) < (s.gs.length:Int)))=false:=by simpa using hg
  repeat (refine gn ?_)
  exact aD func7
theorem W3 (w:World) (cs:Array Value) (a:uq) (U:List Nat) (sz:cs.size=4) (he:sG w cs.toList a U) (oc:∀ y∈cs.toList,y.oneCell'=true) (v:Value) (l:List Int) (S:List Nat) (hl:GV (kY .i64) 1 w v l S) :
  Calls prog 7 #[.agg cs,v] w fun e w'=>e=.returned (.bool true)∧aP [] w w' :=
 FP (W2 a.p a.sn a.cn a.d l (FM he)) he hl
end Fl
end Go.Proofs.YtdjhhbpedllnhaaGreat
