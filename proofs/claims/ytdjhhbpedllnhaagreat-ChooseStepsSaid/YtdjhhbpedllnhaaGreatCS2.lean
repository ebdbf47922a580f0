/-
  What the laws need, part CS2.
  Conditions: none.
-/
import Derived.Test.YtdjhhbpedllnhaaGreatB32
import Derived.Test.YtdjhhbpedllnhaaGreatCS1
set_option linter.unusedVariables false
set_option linter.unusedSimpArgs false
set_option linter.unnecessarySimpa false
set_option maxHeartbeats 2000000
namespace Go.Proofs.YtdjhhbpedllnhaaGreat
open Go.RowKit
namespace Fl
open Sx Go.Proofs.Tryz
set_option maxRecDepth 100000
theorem W1 (s:ah) (g:Nat) (h:j5 s g) :
  Pure prog 27 [.agg (aC s),.c (nI g)] (.bp [.agg (aC (aR s g).1),.c (bI (aR s g).2)]):=by
 have C:=KO s g h;refine an.intro func27 rfl rfl rfl (fun ok e=>?_)
 repeat (first | refine ay ?_ | intro _)
 exact aD func27
theorem Gj {s:ah} {g:Nat} (h:Sx.Good s) (hg:g < s.gs.length) (st:(aa s g).status=0):Sx.Good (aR s g).1:=⟨h.toMInv.aR hg st,h.z.aR⟩
end Fl
end Go.Proofs.YtdjhhbpedllnhaaGreat
