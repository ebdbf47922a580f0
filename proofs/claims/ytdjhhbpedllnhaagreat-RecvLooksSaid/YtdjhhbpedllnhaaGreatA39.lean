/-
  What the laws need, part A39.
  Conditions: none.
-/
import Derived.Test.YtdjhhbpedllnhaaGreatA38
set_option linter.unusedVariables false
set_option linter.unusedSimpArgs false
set_option linter.unnecessarySimpa false
set_option maxHeartbeats 2000000
namespace Go.Proofs.YtdjhhbpedllnhaaGreat
open Go.RowKit
namespace Sx
structure jj (s:ah) (g o:Nat) (i:Int):Prop where
 h0:0≤i
 h1:i < s.aB.length
 e:(su s i).g=o
 o1:o < s.gs.length
 ne:o≠g
theorem Oi {s:ah} {g:Nat} (h:(common s g).2=false):(common s g).1=s:=by
 unfold common at h ⊢;dsimp only at h ⊢
 split at h
 ·split at h
  ·split at h <;> cases h
  ·cases h
 ·rename_i c1;rw [if_neg c1]
  split at h
  ·cases h
  ·rename_i c2;rw [if_neg c2]
   split at h
   ·cases h
   ·rename_i c3;rw [if_neg c3]
    split at h
    ·cases h
    ·rename_i c4;rw [if_neg c4]
     split at h
     ·cases h
     ·rename_i c5;rw [if_neg c5]
      split at h
      ·cases h
      ·rename_i c6;rw [if_neg c6]
theorem Oj {s:ah} {g:Nat} {i:Int} {d:Bool}:(serve s g i d).gs.length=s.gs.length:=by simp [serve,ai,aN]
end Sx
namespace Fl
open Sx Go.Proofs.Tryz
set_option maxRecDepth 100000
theorem xS {s:ah} {g:Nat} {f:Gr→Gr} (Q:Qs s):Qs (aS s g f):=⟨Q.c8,Q.q,Q.nd⟩
structure G8 (s:ah) (g:Nat):Prop where
 cp:xO s g
 qs:Qs s
 wk:(aa s g).ak.length≤1000
 md:(ag s g).kind=6→21≤(aa s g).place∧(aa s g).place≤23→aL s (ag s g).ch=true
 Da:(ag s g).kind=6→(aa s g).place=22→∀ i,i∈(cn s (ag s g).ch).recv∨i∈(cn s (ag s g).ch).send→(∃ o,jj s g o i)∧-1≤(su s i).cs
 GX:(ag s g).kind=6→(aa s g).place=23→∃ o,jj s g o (aa s g).hold
end Fl
end Go.Proofs.YtdjhhbpedllnhaaGreat
