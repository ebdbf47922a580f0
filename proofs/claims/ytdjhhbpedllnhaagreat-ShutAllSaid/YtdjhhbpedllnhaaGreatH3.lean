/-
  What the laws need, part H3.
  Conditions: none.
-/
import Derived.Test.YtdjhhbpedllnhaaGreatH2
import Derived.Test.YtdjhhbpedllnhaaGreatA40
set_option linter.unusedVariables false
set_option linter.unusedSimpArgs false
set_option linter.unnecessarySimpa false
set_option maxHeartbeats 2000000
namespace Go.Proofs.YtdjhhbpedllnhaaGreat
open Go.RowKit
namespace Po
end Po
namespace Fl
open Sx Go.Proofs.Tryz
set_option maxRecDepth 100000
def xU (s:ah) (g:Nat) (i:Int):Bool:=decide (0≤i∧i < s.aB.length∧0≤(su s i).g∧(su s i).g.toNat < s.gs.length∧(su s i).g.toNat≠g)
theorem xU.ok {s:ah} {g:Nat} {i:Int} (h:xU s g i=true):∃ o,jj s g o i:=by
 have h:=of_decide_eq_true h;exact ⟨(su s i).g.toNat,h.1,h.2.1,by rw [Int.toNat_of_nonneg h.2.2.1],h.2.2.2.1,h.2.2.2.2⟩
def AK (s:ah) (g:Nat):Bool :=
 xT s g && qY s && decide ((aa s g).ak.length≤1000∧aL s (ag s g).ch=true) && ((cn s (ag s g).ch).recv ++ (cn s (ag s g).ch).send).all (fun i=>xU s g i && decide (-1≤(su s i).cs)) && (decide ((aa s g).place≠23) || xU s g (aa s g).hold)
theorem AK.ok {s:ah} {g:Nat} (h:AK s g=true):G8 s g:=by
 unfold AK at h;simp only [Bool.and_eq_true,decide_eq_true_eq,List.all_eq_true,Bool.or_eq_true] at h;obtain ⟨⟨⟨⟨h1,h2⟩,h3⟩,h4⟩,h5⟩:=h;exact ⟨xT.ok h1,qY.qs h2,h3.1,fun _ _=>h3.2,fun _ _ i hi=>⟨xU.ok (h4 i (List.mem_append.2 hi)).1,(h4 i (List.mem_append.2 hi)).2⟩,fun _ e=>xU.ok (h5.resolve_left fun n=>n e)⟩
end Fl
end Go.Proofs.YtdjhhbpedllnhaaGreat
