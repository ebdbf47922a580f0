/-
  What the laws need, part D45.
  Conditions: none.
-/
import Derived.Test.YtofnbflkhgammaaGreatD44
set_option linter.unusedVariables false
set_option linter.unusedSimpArgs false
set_option linter.unnecessarySimpa false
set_option maxHeartbeats 2000000
namespace Go.Proofs.YtofnbflkhgammaaGreat
open Go.RowKit
namespace Sx
structure oP (s:ah) (g o:Nat) (i:Int):Prop where
 h0:0≤i
 h1:i < s.aC.length
 e:(su s i).g=o
 o1:o < s.gs.length
 ne:o≠g
theorem Zu {s:ah} {g:Nat} (h:(common s g).2=false):(common s g).1=s:=by
 unfold common at h ⊢;dsimp only at h ⊢
 split at h
 ·split at h
  ·split at h <;> cases h
  ·cases h
 ·rename_i c1;rw [if_neg c1]
  split at h
  ·cases h
  ·rename_i c2;rw [if_neg c2]
   split at h
   ·cases h
   ·rename_i c3;rw [if_neg c3]
    split at h
    ·cases h
    ·rename_i c4;rw [if_neg c4]
     split at h
     ·cases h
     ·rename_i c5;rw [if_neg c5]
      split at h
      ·cases h
      ·rename_i c6;rw [if_neg c6]
theorem Zv {s:ah} {g:Nat} {i:Int} {d:Bool}:(serve s g i d).gs.length=s.gs.length:=by simp [serve,ai,aR]
end Sx
namespace Fl
open Sx Go.Proofs.Tryz
set_option maxRecDepth 100000
theorem OM {s:ah} {g:Nat} {f:Gr→Gr} (Q:Qs s):Qs (bg s g f):=⟨Q.c8,Q.q,Q.nd⟩
structure abG (s:ah) (g:Nat):Prop where
 cp:xT s g
 qs:Qs s
 wk:(aa s g).an.length≤1000
 md:(ag s g).kind=6→21≤(aa s g).place∧(aa s g).place≤23→aN s (ag s g).ch=true
 G9:(ag s g).kind=6→(aa s g).place=22→∀ i,i∈(cn s (ag s g).ch).recv∨i∈(cn s (ag s g).ch).send→(∃ o,oP s g o i)∧-1≤(su s i).cs
 N6:(ag s g).kind=6→(aa s g).place=23→∃ o,oP s g o (aa s g).hold
end Fl
end Go.Proofs.YtofnbflkhgammaaGreat
