/-
  What the laws need, part L2.
  Conditions: none.
-/
import Derived.Test.YtdjhhbpedllnhaaGreatL1
import Derived.Test.YtdjhhbpedllnhaaGreatA25
set_option linter.unusedVariables false
set_option linter.unusedSimpArgs false
set_option linter.unnecessarySimpa false
set_option maxHeartbeats 2000000
namespace Go.Proofs.YtdjhhbpedllnhaaGreat
open Go.RowKit
namespace Fl
open Sx Go.Proofs.Tryz
set_option maxRecDepth 100000
theorem O2 {s:ah} {g o:Nat} (a b:Gr) (h:o≠g):ai (ai s g a) o b=ai (ai s o b) g a:=by
 unfold ai;simp only [ah.mk.injEq,true_and,and_true];exact List.set_comm _ _ (Ne.symm h)
theorem aaq {s:ah} {g o:Nat} {i:Int} (hg:g < s.gs.length) (ho:o < s.gs.length) (bG:o≠g) (e:(su s i).g=o) :
  aS (aS (aS (aS (aS s g fun x=>{ x with bE:=(aa s g).t }) g fun x=>{ x with wi:=(o:Int) }) o fun x=>{ x with bE:=(aa s g).t }) o fun x=>{ x with wi:=(g:Int) }) o (fun x=>{ x with dJ:=(su s i).cs })=Sx.pair s g i:=by
 rw [fJ hg,fJ (xA ho),fJ (xA ho)];simp only [Sx.pair,e,Int.toNat_natCast,aS];rw [qz _ _ _ _ hg,if_neg bG,O2 _ _ bG]
theorem O3 (b:Nat) (u:U) (s:ah) (g o:Nat) (i:Int) (hg:g < s.gs.length) (ho:o < s.gs.length) (bG:o≠g) (h0:0≤i) (h1:i < s.aB.length) (e0:(su s i).g=o) :
  av prog 146 [.c (.v (pt b)),.c (nI g),.c (nI i)] (wd b u s) (fun _:Unit=>(.aZ [],wd b u (Sx.pair s g i))):=by
 haveI:Sx.bt g s:=⟨hg⟩
 haveI:Sx.bt o s:=⟨ho⟩
 haveI:lQ o g:=⟨bG⟩
 haveI:lQ g o:=⟨Ne.symm bG⟩
 haveI:Sx.gI i s:=⟨h0,h1⟩
 haveI:Sx.jX s i { su s i with g:=(o:Int) }:=⟨by rw [← e0]⟩
 rw [← aaq hg ho bG e0];refine av.intro func146 rfl rfl rfl (fun ok e=>?_)
 repeat ((refine J.seq ?_))
 refine J.draw (by kernel_rfl) rfl ?_;refine JW.base none ?_;refine tk 0 ?_;refine tk 1 ?_;refine tk 2 ?_;refine tk 3 ?_;refine tk 4 ?_;refine JD.take 5 rfl rfl (by kernel_rfl) rfl (qb rfl) (Qt.aV rfl rfl cW cX) rfl ?_;refine tk 6 ?_;refine tk 7 ?_;refine tk 8 ?_;refine tk 9 ?_;refine tk 10 ?_;refine tk 11 ?_;refine tk 12 ?_;refine tk 13 ?_;refine tk 14 ?_;refine JD.take 15 rfl rfl (by kernel_rfl) rfl (qb rfl) (Qt.aV rfl rfl (jH (s:=s)) jI) rfl ?_;refine tk 16 ?_;refine JD.take 17 rfl rfl (by kernel_rfl) rfl (qb rfl) (Qt.bM rfl jY rfl) rfl ?_;refine JD.take 18 rfl rfl (by kernel_rfl) rfl (qb rfl) (Qt.aV rfl rfl cW cX) rfl ?_;refine tk 19 ?_;refine tk 20 ?_;refine bX ?_
 repeat (first | (refine K.load ?_;first | ((refine jq rfl rfl rfl (Qt.bM rfl (jY) (by exact rfl)) ?_)) | ((refine jq rfl rfl rfl (Qt.bM rfl (aP) (by exact rfl)) ?_))) | (refine K.store ?_;first | ((refine JO.ld (Ld.bQ rfl rfl (by exact rfl) aP) rfl (fun _=>?_)));refine JO.bS b g (fun x=>{ x with bE:=(aa s g).t }) (by exact rfl) ?_ | ((refine JO.ld (Ld.bQ rfl rfl (by exact rfl) aP) rfl (fun _=>?_)));refine JO.bS b g (fun x=>{ x with wi:=(o:Int) }) (by exact rfl) ?_ | ((refine JO.ld (Ld.bQ rfl rfl (by exact rfl) aP) rfl (fun _=>?_)));refine JO.bS b o (fun x=>{ x with bE:=(aa s g).t }) (by exact rfl) ?_ | ((refine JO.ld (Ld.bQ rfl rfl (by exact rfl) aP) rfl (fun _=>?_)));refine JO.bS b o (fun x=>{ x with wi:=(g:Int) }) (by exact rfl) ?_ | ((refine JO.ld (Ld.bQ rfl rfl (by exact rfl) aP) rfl (fun _=>?_)));refine JO.bS b o (fun x=>{ x with dJ:=(su s i).cs }) (by exact rfl) ?_) | (refine K.indexAddr ?_;refine jq rfl rfl rfl (Qt.aV rfl rfl (jH (s:=s)) jI) ?_) | refine gn ?_)
 (exact J.ij func146 rfl .nil () (by exact .refl) rfl)
section
variable {P:Program} {c:Cx} {k:List Item} {f:Fm} {b:Nat} {u:U} {s:ah} {g:Nat}
end
end Fl
end Go.Proofs.YtdjhhbpedllnhaaGreat
