/-
  What the laws need, part B24.
  Conditions: none.
-/
import Derived.Test.YtdjhhbpedllnhaaGreatB23
set_option linter.unusedVariables false
set_option linter.unusedSimpArgs false
set_option linter.unnecessarySimpa false
set_option maxHeartbeats 2000000
namespace Go.Proofs.YtdjhhbpedllnhaaGreat
open Go.RowKit
namespace Sx
structure oz (s:ah) (g o:Nat) (i:Int):Prop where
 h0:0≤i
 h1:i < s.aA.length
 e:(su s i).g=o
 o1:o < s.gs.length
 ne:o≠g
theorem Lu {s:ah} {g:Nat} {i:Int} {d:Bool}:(serve s g i d).gs.length=s.gs.length:=by simp [serve,ai,aV]
theorem Vb {s:ah} {i:Int}:(aZ s i).gs.length=s.gs.length:=by rw [fR]
end Sx
namespace Fl
open Sx Go.Proofs.Tryz
set_option maxRecDepth 100000
theorem Lv {s:ah} {g:Nat} {f:Gr→Gr} (Q:Qs s):Qs (aK s g f):=⟨Q.c8,Q.q,Q.nd⟩
def fst (l:List Int):Int × Bool:=if l=[] then (0,false) else (l.headD (-1),true)
structure YA (s:ah) (g:Nat):Prop where
 cp:uO s g
 qs:Qs s
 wk:(aa s g).au.length≤1000
 md:(ag s g).kind=6→21≤(aa s g).place∧(aa s g).place≤23→aT s (ag s g).ch=true
 Fq:(ag s g).kind=6→(aa s g).place=22→∀ i,i∈(cn s (ag s g).ch).recv∨i∈(cn s (ag s g).ch).send→(∃ o,oz s g o i)∧-1≤(su s i).cs
 KC:(ag s g).kind=6→(aa s g).place=23→∃ o,oz s g o (aa s g).hold
end Fl
end Go.Proofs.YtdjhhbpedllnhaaGreat
