/-
  The numbers that a pool can have.
  Conditions: none; no program stands here.
-/
import Derived.Test.YtgjpdogjekmemaaDoorCore
namespace Go.Proofs.YtgjpdogjekmemaaDoor
namespace Po
def fits (size takers most : Int) : Bool := decide (0 ≤ size ∧ size ≤ 64 ∧ 0 ≤ takers ∧ takers ≤ 8 ∧ 1 ≤ most ∧ most ≤ 16)
theorem fits_le {size takers most : Int} (h : fits size takers most = true) : 0 ≤ size ∧ size ≤ 64 ∧ 0 ≤ takers ∧ takers ≤ 8 ∧ 1 ≤ most ∧ most ≤ 16 := by simpa [fits] using h
end Po
end Go.Proofs.YtgjpdogjekmemaaDoor
