/-
  Package pool: what it means that a pointer holds a pool.
  Conditions: none.
-/
import Derived.Test.YtofnbflkhgammaaCore
namespace Go.Proofs.Ytofnbflkhgammaa
open Go.RowKit
set_option linter.unusedVariables false
set_option linter.unusedSimpArgs false
set_option linter.unnecessarySimpa false

/-- rows of blocks, no two of which have one block -/
def Apart (L : List (List Nat)) : Prop := L.Pairwise fun A B => ∀ x ∈ A, x ∉ B

/-- v owns the bools l -/
def BR (w : World) (v : Value) (l : List Bool) (S : List Nat) : Prop := Row w v 4 1 l.length (l.map Value.bool) S
section
variable {w w' : World} {v : Value} {l : List Bool} {S T : List Nat}
theorem BR.keep (h : BR w v l S) (k : Keeps T w w') (hn : ∀ x ∈ S, x ∉ T) : BR w' v l S := Row.keep h k hn
theorem BR.lt (h : BR w v l S) : ∀ k ∈ S, k < w.heap.size := Row.lt h
theorem BR.le (h : BR w v l S) : l.length ≤ maxLen := Row.le h
theorem BR.shape (h : BR w v l S) : ∃ ao cap, v = .slice ao l.length cap := Row.shape h
theorem BR.cells {ao : Option Addr} {m cap : Nat} (h : BR w (.slice ao m cap) l S) {k : Nat} {t : Bool} (hk : l[k]? = some t) :
    ∃ g off, ao = some ⟨g, off, none⟩ ∧ S = [g] ∧ g < w.heap.size ∧ w.cell? ⟨g, off + k, none⟩ = some (.bool t) ∧ w.frozen? ⟨g, off + k, none⟩ = false := by
  have hkl := (List.getElem?_eq_some_iff.1 hk).1
  obtain ⟨g, off, h1, h2, h3, h4, h5⟩ := Row.cells h (by omega)
  exact ⟨g, off, h1, h2, h3, by rw [h4 k (by simpa using hkl)]; simp [hk], h5 k⟩
theorem BR.stored {g off m cap : Nat} (h : BR w (.slice (some ⟨g, off, none⟩) m cap) l S) (j : Nat) (hj : j < l.length) (t : Bool) :
    BR (w.setCell ⟨g, off + j, none⟩ (.bool t)) (.slice (some ⟨g, off, none⟩) m cap) (l.set j t) S ∧ Keeps S w (w.setCell ⟨g, off + j, none⟩ (.bool t)) := by
  have := Row.stored h j (by simpa using hj) (.bool t)
  refine ⟨?_, this.2⟩
  unfold BR
  simpa using this.1
end

/-- p is a pool of size things, most per cache: caches C, middle M, fresh f, home H; S: its blocks -/
def Pl (w : World) (p : Value) (size most : Int) (C : List (List Int)) (M : List Int) (f : Int) (H : List Bool) (S : List Nat) : Prop :=
  ∃ b vc vm vh T Us Tm Th, p = .pointer (some ⟨b, 0, none⟩) ∧ Blk w b [.int .i64 size, .int .i64 most, vc, vm, .int .i64 f, vh] 96 ∧
    NR w vc 38 3 C T Us ∧ IR w vm 3 M Tm ∧ BR w vh H Th ∧ Apart [[b], T, Us.flatten, Tm, Th] ∧ S = b :: (T ++ Us.flatten ++ Tm ++ Th)

section
variable {w w' : World} {p : Value} {size most f : Int} {C : List (List Int)} {M : List Int} {H : List Bool} {S T : List Nat}
theorem Pl.keep (h : Pl w p size most C M f H S) (k : Keeps T w w') (hn : ∀ x ∈ S, x ∉ T) : Pl w' p size most C M f H S := by
  obtain ⟨b, vc, vm, vh, T1, Us, Tm, Th, rfl, hb, hc, hm, hh, ha, rfl⟩ := h
  exact ⟨b, vc, vm, vh, T1, Us, Tm, Th, rfl, hb.keep k (hn b (by simp)), hc.keep k (fun x hx => hn x (by simp [hx])) (fun U hU x hx => hn x (by simp; right; right; left; exact ⟨U, hU, hx⟩)),
    hm.keep k (fun x hx => hn x (by simp [hx])), hh.keep k (fun x hx => hn x (by simp [hx])), ha, rfl⟩
theorem Pl.then (h : Pl w p size most C M f H S) (k : Keeps [] w w') : Pl w' p size most C M f H S := h.keep k (by simp)
theorem Pl.drewN (h : Pl w p size most C M f H S) (n : Nat) : Pl (w.drewN n) p size most C M f H S := h.then ((Keeps.refl [] w).drewN n)
theorem Pl.shape (h : Pl w p size most C M f H S) : ∃ b, p = .pointer (some ⟨b, 0, none⟩) := by
  obtain ⟨b, vc, vm, vh, T1, Us, Tm, Th, rfl, _⟩ := h; exact ⟨b, rfl⟩
theorem Pl.lt (h : Pl w p size most C M f H S) : ∀ k ∈ S, k < w.heap.size := by
  obtain ⟨b, vc, vm, vh, T1, Us, Tm, Th, rfl, hb, hc, hm, hh, ha, rfl⟩ := h
  intro k hk
  simp only [List.mem_cons, List.mem_append, List.mem_flatten] at hk
  rcases hk with rfl | ((hk | ⟨U, hU, hk⟩) | hk) | hk
  · exact hb.lt
  · exact hc.lt.1 k hk
  · exact hc.lt.2 U hU k hk
  · exact hm.lt k hk
  · exact hh.lt k hk
end

namespace Po
def taker (C : List (List Int)) (g : Int) : Bool := decide (0 ≤ g) && decide (g < C.length)
def live (f : Int) (H : List Bool) (x : Int) : Bool := decide (0 ≤ x) && decide (x < f) && !(H.getD x.toNat false)
end Po

theorem pool_taker (w : World) (p : Value) (size most f : Int) (C : List (List Int)) (M : List Int) (H : List Bool) (S : List Nat) (g : Int) (h : Pl w p size most C M f H S) :
    Calls Try.prog 41 #[p, .int .i64 g] w fun e w' => e = .returned (.bool (Po.taker C g)) ∧ w = w' := by
  obtain ⟨b, vc, vm, vh, T1, Us, Tm, Th, rfl, hb, hc, hm, hh, ha, rfl⟩ := h
  have hle := hc.le
  unfold maxLen at hle
  obtain ⟨ao, cap, rfl⟩ := hc.shape
  have c2 : w.cell? ⟨b, 2, none⟩ = some (.slice ao C.length cap) := hb.cell 2
  clear hb hc hm hh ha
  cases h1 : decide (0 ≤ g) with
  | true =>
    go_enter Try.func41, Try.ntmps41
    go_wp2
    go_ret
    exact ⟨ret_bool (by simp [Po.taker, h1]), rfl⟩
  | false =>
    go_enter Try.func41, Try.ntmps41
    go_wp2
    go_ret
    exact ⟨ret_bool (by simp [Po.taker, h1]), rfl⟩

theorem pool_fresh (w : World) (p : Value) (size most f : Int) (C : List (List Int)) (M : List Int) (H : List Bool) (S : List Nat) (h : Pl w p size most C M f H S) :
    Calls Try.prog 24 #[p] w fun e w' => e = .returned (.int .i64 f) ∧ w = w' := by
  obtain ⟨b, vc, vm, vh, T1, Us, Tm, Th, rfl, hb, hc, hm, hh, ha, rfl⟩ := h
  have c4 : w.cell? ⟨b, 4, none⟩ = some (.int .i64 f) := hb.cell 4
  clear hb hc hm hh ha
  go_enter Try.func24, Try.ntmps24
  go_wp2
  go_ret
  exact ⟨rfl, rfl⟩

end Go.Proofs.Ytofnbflkhgammaa
