/-
  What the laws need, part CL1.
  Conditions: none.
-/
import Derived.Test.YtdjhhbpedllnhaaGreatB32
set_option linter.unusedVariables false
set_option linter.unusedSimpArgs false
set_option linter.unnecessarySimpa false
set_option maxHeartbeats 2000000
namespace Go.Proofs.YtdjhhbpedllnhaaGreat
open Go.RowKit
namespace Fl
open Sx Go.Proofs.Tryz
set_option maxRecDepth 100000
theorem Gj {s:ah} {g:Nat} (h:Sx.Good s) (hg:g < s.gs.length) (st:(aa s g).status=0):Sx.Good (aR s g).1:=⟨h.toMInv.aR hg st,h.z.aR⟩
end Fl
end Go.Proofs.YtdjhhbpedllnhaaGreat
