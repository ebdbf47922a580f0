/-
  Package ring: its plain laws, and the contracts of its methods.
  Conditions: a ring is held by Rg.
-/
import Derived.Test.YtgpcmifbkbgbjaaInts
namespace Go.Proofs.Ytgpcmifbkbgbjaa
open Go.RowKit
set_option linter.unusedVariables false
set_option linter.unusedSimpArgs false
set_option linter.unnecessarySimpa false

namespace Rn
/-- the values of a ring -/
def vals (ps : List Int) (f c : Nat) : List Int := (List.range c).map fun i => ps.getD ((f + i) % ps.length) 0
theorem vals_len (ps : List Int) (f c : Nat) : (vals ps f c).length = c := by simp [vals]
theorem vals_get (ps : List Int) (f c i : Nat) (h : i < c) : (vals ps f c).getD i 0 = ps.getD ((f + i) % ps.length) 0 := by
  simp [vals, List.getD, h]
theorem mod_ne (N f i c : Nat) (hi : i < c) (hc : c < N) : (f + i) % N ≠ (f + c) % N := by
  intro h
  have h1 := Nat.div_add_mod (f + i) N
  have h2 := Nat.div_add_mod (f + c) N
  rw [h] at h1
  have h3 : N * ((f + c) / N) = N * ((f + i) / N) + (c - i) := by omega
  have h4 : (f + c) / N = (f + i) / N ∨ (f + i) / N + 1 ≤ (f + c) / N := by
    rcases Nat.lt_or_ge ((f + i) / N) ((f + c) / N) with h | h
    · right; omega
    · left
      have := Nat.div_le_div_right (c := N) (show f + i ≤ f + c by omega)
      omega
  rcases h4 with h4 | h4
  · rw [h4] at h3; omega
  · have := Nat.mul_le_mul_left N h4
    rw [Nat.mul_add] at this; omega
theorem getD_set_ne (l : List Int) (i j : Nat) (v : Int) (h : i ≠ j) : (l.set i v).getD j 0 = l.getD j 0 := by
  simp [List.getD, h]
theorem getD_set_eq (l : List Int) (i : Nat) (v : Int) (h : i < l.length) : (l.set i v).getD i 0 = v := by
  simp [List.getD, h]
theorem put (ps : List Int) (f c : Nat) (v : Int) (h : c < ps.length) : vals (ps.set ((f + c) % ps.length) v) f (c + 1) = vals ps f c ++ [v] := by
  have hp : 0 < ps.length := by omega
  unfold vals
  rw [List.range_succ, List.map_append]
  congr 1
  · apply List.map_congr_left
    intro i hi
    have hi' : i < c := by simpa using hi
    rw [List.length_set, getD_set_ne _ _ _ _ (fun e => mod_ne ps.length f i c hi' h e.symm)]
  · simp only [List.map_cons, List.map_nil, List.length_set]
    rw [getD_set_eq _ _ _ (Nat.mod_lt _ hp)]
theorem get (ps : List Int) (f c : Nat) (h : 0 < c) : vals ps ((f + 1) % ps.length) (c - 1) = (vals ps f c).tail := by
  apply List.ext_getElem
  · simp [vals]
  · intro i h1 h2
    simp only [vals, List.getElem_map, List.getElem_range, List.getElem_tail]
    congr 1
    rw [show f + (i + 1) = (f + 1) + i by omega, Nat.add_mod, Nat.mod_mod, ← Nat.add_mod]
theorem vals_len_eq (ps qs : List Int) (f c : Nat) (hl : ps.length = qs.length) (h : ∀ i, i < c → ps.getD ((f + i) % ps.length) 0 = qs.getD ((f + i) % ps.length) 0) : vals ps f c = vals qs f c := by
  unfold vals
  apply List.map_congr_left
  intro i hi
  rw [h i (by simpa using hi), hl]
theorem pass (ps : List Int) (f : Nat) (v : Int) (h : 0 < ps.length) (hf : f < ps.length) : vals (ps.set f v) ((f + 1) % ps.length) ps.length = (vals ps f ps.length).tail ++ [v] := by
  have e1 : vals (ps.set f v) ((f + 1) % ps.length) ps.length = vals ((ps.set f v).set (((f + 1) % ps.length + (ps.length - 1)) % ps.length) v) ((f + 1) % ps.length) (ps.length - 1 + 1) := by
    have hq : ((f + 1) % ps.length + (ps.length - 1)) % ps.length = f := by
      rw [Nat.add_mod, Nat.mod_mod, ← Nat.add_mod, show f + 1 + (ps.length - 1) = f + ps.length by omega, Nat.add_mod_right, Nat.mod_eq_of_lt hf]
    rw [hq, List.set_set, show ps.length - 1 + 1 = ps.length by omega]
  have hl : (ps.set f v).length = ps.length := by simp
  have e2 := put (ps.set f v) ((f + 1) % ps.length) (ps.length - 1) v (by rw [hl]; omega)
  rw [hl] at e2
  rw [e1, e2]
  congr 1
  have e3 := get ps f ps.length h
  rw [← e3]
  apply vals_len_eq
  · simp
  · intro i hi
    rw [hl]
    apply getD_set_ne
    intro e
    have : (f + 1 + i) % ps.length = f % ps.length := by
      rw [Nat.mod_eq_of_lt hf]
      rw [Nat.add_mod, Nat.mod_mod, ← Nat.add_mod] at e
      exact e.symm
    have h2 := mod_ne ps.length f 0 (i + 1) (by omega) (by omega)
    apply h2
    rw [Nat.add_zero, ← this, show f + (i + 1) = f + 1 + i by omega]
theorem start (l : List Int) (N : Nat) (h : l.length ≤ N) : vals (l ++ List.replicate (N - l.length) 0) 0 l.length = l := by
  apply List.ext_getElem
  · simp [vals]
  · intro i h1 h2
    simp only [vals, List.getElem_map, List.getElem_range, List.length_append, List.length_replicate]
    rw [Nat.zero_add, Nat.mod_eq_of_lt (by omega)]
    rw [List.getD_eq_getElem?_getD, List.getElem?_append_left h2]; simp [h2]
theorem head (ps : List Int) (f c : Nat) (h : 0 < c) (hf : f < ps.length) : (vals ps f c).headD 0 = ps.getD f 0 := by
  obtain ⟨k, rfl⟩ : ∃ k, c = k + 1 := ⟨c - 1, by omega⟩
  unfold vals
  rw [List.range_succ_eq_map]
  simp [Nat.mod_eq_of_lt hf]
def hd (l : List Int) : Int := l.headD 0
def passOk (N : Nat) (l : List Int) : Bool := decide (l.length = N) && !l.isEmpty
def passX (N : Nat) (l : List Int) : Int := if passOk N l then hd l else 0
def passL (N : Nat) (l : List Int) (v : Int) : List Int := if passOk N l then l.tail ++ [v] else l
def putL (N : Nat) (l : List Int) (v : Int) : List Int := if l.length < N then l ++ [v] else l
end Rn
end Go.Proofs.Ytgpcmifbkbgbjaa
