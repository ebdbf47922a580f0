/-
  Contracts of package pool, the second part: Middle (more to come).
  Conditions: the middle is no longer than 1000.
-/
import Derived.Test.YtofnbflkhgammaaPool
namespace Go.Proofs.Ytofnbflkhgammaa
open Go.RowKit
set_option linter.unusedVariables false
set_option linter.unusedSimpArgs false
set_option linter.unnecessarySimpa false

theorem elemInt : Elem Try.prog 38 3 1 8 (.int .i64 0) := ⟨Try.underlying38, by kernel_rfl, rfl, by decide, by decide⟩

/-- a new slice of numbers -/
def NewInts (r : List Int) (w : World) (e : Ending) (w' : World) : Prop :=
  ∃ v S, e = .returned v ∧ Keeps [] w w' ∧ IV w' v r S ∧ ∀ k ∈ S, w.heap.size ≤ k

theorem pool_middle (w : World) (p : Value) (size most f : Int) (C : List (List Int)) (M : List Int) (H : List Bool) (S : List Nat) (h : Pl w p size most C M f H S) (hM : M.length ≤ 1000) :
    Calls Try.prog 23 #[p] w (NewInts M w) := by
  obtain ⟨b, vc, vm, vh, T1, Us, Tm, Th, rfl, hb, hc, hm, hh, ha, rfl⟩ := h
  obtain ⟨ao, cap, rfl⟩ := hm.shape
  have c3 : w.cell? ⟨b, 3, none⟩ = some (.slice ao M.length cap) := hb.cell 3
  have HM := Lib.hid hm
  have HB := Lib.hid hM
  clear hb hc hm hh ha hM
  go_enter Try.func23, Try.ntmps23
  go_wp2_with (at_builtin; go_must (refine wp_apps elemInt (IR.nil w 3) HM.out.iv (by have := HB.out; simp; omega) ?_))
  intro ao1 cap1 w1 S1 r1 k1 s1
  have R1 := Lib.hid r1
  have K1 := Lib.hid k1
  have T1 := Lib.hid s1
  clear r1 k1 s1
  go_wp2_with fail
  go_ret
  exact ⟨_, S1, rfl, K1.out, by simpa using R1.out.iv, T1.out⟩

namespace Po
def cache (C : List (List Int)) (g : Int) : List Int := if taker C g then C.getD g.toNat [] else []
end Po

theorem pool_cache (w : World) (p : Value) (size most f : Int) (C : List (List Int)) (M : List Int) (H : List Bool) (S : List Nat) (g : Int) (h : Pl w p size most C M f H S) (hC : ∀ l ∈ C, l.length ≤ 1000) :
    Calls Try.prog 29 #[p, .int .i64 g] w (NewInts (Po.cache C g) w) := by
  have HP := Lib.hid h
  obtain ⟨b, vc, vm, vh, T1, Us, Tm, Th, rfl, hb, hc, hm, hh, ha, rfl⟩ := h
  cases h1 : Po.taker C g with
  | true =>
    have h2 := h1
    simp only [Po.taker, Bool.and_eq_true, decide_eq_true_eq] at h2
    obtain ⟨n, rfl⟩ := Int.eq_ofNat_of_zero_le h2.1
    have hn : n < C.length := by omega
    have hle := hc.le
    unfold maxLen at hle
    obtain ⟨ao, cap, rfl⟩ := hc.shape
    have hk := List.getElem?_eq_getElem hn
    have HF : Hid (Po.cache C n = C[n]) := Lib.hid (by simp [Po.cache, h1, List.getD, hn])
    have hl := hC _ (List.getElem_mem hn)
    obtain ⟨g2, off, x, U, rfl, rfl, hg, c6, _, hr, hU, _⟩ := hc.get hk
    have c2 : w.cell? ⟨b, 2, none⟩ = some (.slice (some ⟨g2, off, none⟩) C.length cap) := hb.cell 2
    generalize C[n] = l at *
    obtain ⟨ao3, cap3, rfl⟩ := hr.shape
    have HR := Lib.hid hr
    have HL := Lib.hid hl
    clear hb hc hm hh ha hC hr hl hk hU h2
    go_enter Try.func29, Try.ntmps29
    go_wp2_with fail
    refine (pool_taker _ _ _ _ _ _ _ _ _ _ HP.out).mono ?_
    rintro e w1 ⟨rfl, rfl⟩
    rw [h1]
    go_wp2_with (at_builtin; go_must (refine wp_apps elemInt (IR.nil w 3) HR.out.iv (by have := HL.out; simp; omega) ?_))
    intro ao1 cap1 w1 S1 r1 k1 s1
    have R1 := Lib.hid r1
    have K1 := Lib.hid k1
    have T1 := Lib.hid s1
    clear r1 k1 s1
    go_wp2_with fail
    go_ret
    exact ⟨_, S1, rfl, K1.out, by rw [HF.out]; simpa using R1.out.iv, T1.out⟩
  | false =>
    have HF : Hid (Po.cache C g = []) := Lib.hid (by simp [Po.cache, h1])
    clear hb hc hm hh ha hC
    go_enter Try.func29, Try.ntmps29
    go_wp2_with fail
    refine (pool_taker _ _ _ _ _ _ _ _ _ _ HP.out).mono ?_
    rintro e w1 ⟨rfl, rfl⟩
    rw [h1]
    go_wp2_with fail
    go_ret
    exact ⟨_, [], rfl, Keeps.refl _ _, by rw [HF.out]; exact IV.nil _, by simp⟩

namespace Po
/-- how many of the first k are out -/
def outs (H : List Bool) (k : Nat) : Nat := ((H.take k).filter (fun t => !t)).length
theorem outs_le (H : List Bool) (k : Nat) : outs H k ≤ k := by
  unfold outs; exact Nat.le_trans (List.length_filter_le _ _) (List.length_take_le _ _)
theorem outs_succ (H : List Bool) (k : Nat) (t : Bool) (h : H[k]? = some t) : outs H (k + 1) = outs H k + (if t then 0 else 1) := by
  obtain ⟨hk, rfl⟩ := List.getElem?_eq_some_iff.1 h
  unfold outs
  rw [List.take_succ_eq_append_getElem hk, List.filter_append, List.length_append]
  cases H[k] <;> simp
end Po

end Go.Proofs.Ytofnbflkhgammaa
