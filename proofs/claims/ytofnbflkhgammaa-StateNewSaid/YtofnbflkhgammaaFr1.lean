/-
  handoffref12: WithG, WithC, WithS, Go, Made, Op, Point.
  Conditions: none.
-/
import Derived.Test.YtofnbflkhgammaaFsb
import Derived.IntWalk
namespace Go.Proofs.Ytofnbflkhgammaa
open Go.RowKit
set_option linter.unusedVariables false
set_option linter.unusedSimpArgs false
set_option linter.unnecessarySimpa false
namespace Fl
/-- what follows at an index of a row that is told by a list -/
theorem at_nat {α : Type} {l : List α} {k : Nat} {a : α} (e : l[k]? = some a) : l[((k : Int)).toNat]? = some a := e
theorem gr_at {s : Sx.St} {g : Nat} (hg : g < s.gs.length) : (s.gs.map eG)[((g : Int)).toNat]? = some (eG (Sx.gr s g)) :=
  at_map (at_nat (by rw [List.getElem?_eq_getElem hg]; simp [Sx.gr, hg]))
theorem cn_at {s : Sx.St} {ch : Int} (h : Sx.made s ch = true) : (s.chans.map eC)[(ch - 1).toNat]? = some (eC (Sx.cn s ch)) := by
  unfold Sx.made at h
  simp at h
  have : (ch - 1).toNat < s.chans.length := by omega
  exact at_map (by unfold Sx.cn; rw [List.getD_eq_getElem?_getD, List.getElem?_eq_getElem this]; rfl)
theorem made_lt {s : Sx.St} {ch : Int} (h : Sx.made s ch = true) : 1 ≤ ch ∧ ch ≤ s.chans.length := by unfold Sx.made at h; simpa using h
theorem su_at {s : Sx.St} {i : Int} (h0 : 0 ≤ i) (h : i < s.sudogs.length) : (s.sudogs.map eS)[i.toNat]? = some (eS (Sx.su s i)) := by
  have : i.toNat < s.sudogs.length := by omega
  exact at_map (by rw [List.getElem?_eq_getElem this]; simp [Sx.su, this])
set_option maxRecDepth 100000
end Fl
end Go.Proofs.Ytofnbflkhgammaa
