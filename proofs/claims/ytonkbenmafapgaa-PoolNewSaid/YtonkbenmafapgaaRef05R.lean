/-
  Contracts of handoffref05: Can, Right.
  Conditions: a middle no longer than 1000.
-/
import Derived.Test.YtonkbenmafapgaaPoolH
namespace Go.Proofs.Ytonkbenmafapgaa
open Go.RowKit
set_option linter.unusedVariables false
set_option linter.unusedSimpArgs false
set_option linter.unnecessarySimpa false

namespace Po
/-- each thing may be, and is not there twice -/
def once (f : Int) (L : List Int) : Bool := decide (∀ i, i < L.length → 0 ≤ L.getD i 0 ∧ L.getD i 0 < f ∧ L.getD i 0 ∉ L.take i)
def right (size most f : Int) (C : List (List Int)) (M : List Int) : Bool :=
  fits size C.length most && decide (0 ≤ f) && decide (f ≤ size) && decide (∀ l ∈ C, (l.length : Int) ≤ most) && once f (M ++ C.flatten)
theorem flat_bound {C : List (List Int)} {m : Nat} (h : ∀ l ∈ C, l.length ≤ m) : C.flatten.length ≤ C.length * m := by
  induction C with
  | nil => simp
  | cons a r ih =>
    have h1 := h a (by simp)
    have h2 := ih (fun l hl => h l (by simp [hl]))
    rw [List.flatten_cons, List.length_append, List.length_cons, Nat.add_mul, Nat.one_mul]
    omega
theorem fits_le {size takers most : Int} (h : fits size takers most = true) : 0 ≤ size ∧ size ≤ 64 ∧ 0 ≤ takers ∧ takers ≤ 8 ∧ 1 ≤ most ∧ most ≤ 16 := by simpa [fits] using h
end Po

theorem ref05_can (w : World) (size takers most : Int) :
    Calls Try.prog 51 #[.int .i64 size, .int .i64 takers, .int .i64 most] w fun e w' => e = .returned (.bool (Po.fits size takers most)) ∧ w = w' := by
  have hcase : size < 0 ∨ (0 ≤ size ∧ 64 < size) ∨ (0 ≤ size ∧ size ≤ 64 ∧ takers < 0) ∨ (0 ≤ size ∧ size ≤ 64 ∧ 0 ≤ takers ∧ 8 < takers) ∨ (0 ≤ size ∧ size ≤ 64 ∧ 0 ≤ takers ∧ takers ≤ 8 ∧ most < 1) ∨ (0 ≤ size ∧ size ≤ 64 ∧ 0 ≤ takers ∧ takers ≤ 8 ∧ 1 ≤ most ∧ 16 < most) ∨ (0 ≤ size ∧ size ≤ 64 ∧ 0 ≤ takers ∧ takers ≤ 8 ∧ 1 ≤ most ∧ most ≤ 16) := by omega
  obtain ⟨c, hc⟩ : ∃ c, c = Po.fits size takers most := ⟨_, rfl⟩
  have HC := Lib.hid hc
  rw [← hc]
  clear hc
  rcases hcase with h1 | ⟨h1, h2⟩ | ⟨h1, h2, h3⟩ | ⟨h1, h2, h3, h4⟩ | ⟨h1, h2, h3, h4, h5⟩ | ⟨h1, h2, h3, h4, h5, h6⟩ | ⟨h1, h2, h3, h4, h5, h6⟩
  all_goals go_enter Try.func51, Try.ntmps51
  all_goals go_wp2_with fail
  all_goals go_ret
  all_goals exact ⟨ret_bool (by rw [HC.out, Bool.eq_iff_iff]; simp [Po.fits]; omega), rfl⟩

theorem IV.prefix {w : World} {g off cap : Nat} {l : List Int} {S : List Nat} (h : IV w (.slice (some ⟨g, off, none⟩) l.length cap) l S) (k : Nat) (hk : k ≤ l.length) (h0 : 0 < l.length) :
    IV w (.slice (some ⟨g, off, none⟩) k cap) (l.take k) S := by
  obtain ⟨g', off', e, rfl, hg, hc⟩ := h.cells h0
  obtain ⟨rfl, rfl⟩ := by simpa using e
  obtain ⟨hl, ao, cap', e', hnc, hcm, _⟩ := h
  obtain ⟨rfl, rfl⟩ := by simpa using e'
  have e : (l.take k).length = k := by simp; omega
  refine ⟨by simp, some ⟨g, off, none⟩, cap, by rw [e], by rw [e]; omega, hcm, .inr ⟨g, off, rfl, rfl, hg, fun j hj => ?_⟩⟩
  have hj' : j < k := by simp at hj; omega
  rw [hc j (by omega)]
  have h1 : j < l.length := by omega
  simp [List.getD, hj', h1, List.getElem?_take]

set_option maxHeartbeats 1600000 in
theorem ref05_right (w : World) (size most f : Int) (vc vm : Value) (C : List (List Int)) (M : List Int) (S : List Nat) (h : RP w vc vm C M S) (hM : M.length ≤ 500) :
    Calls Try.prog 52 #[.agg #[.int .i64 size, .int .i64 most, vc, vm, .int .i64 f]] w fun e w' => e = .returned (.bool (Po.right size most f C M)) ∧ Keeps [] w w' := by
  have H := Lib.hid h
  obtain ⟨h1, U, h2, h3⟩ := h
  have hle := h1.le
  unfold maxLen at hle
  obtain ⟨aoc, capc, rfl⟩ := h1.shape
  obtain ⟨aom, capm, rfl⟩ := h2.shape
  have HM := Lib.hid hM
  clear h1 h2 h3 hM
  obtain ⟨r, hr⟩ : ∃ r, r = Po.right size most f C M := ⟨_, rfl⟩
  have HR := Lib.hid hr
  rw [← hr]
  clear hr
  cases hc : Po.fits size C.length most with
  | false =>
    have HF : Hid (false = r) := Lib.hid (by rw [HR.out]; simp [Po.right, hc])
    go_enter Try.func52, Try.ntmps52
    go_wp2_with fail
    refine (ref05_can _ _ _ _).mono ?_
    rintro e w1 ⟨rfl, rfl⟩
    rw [hc]
    go_wp2_with fail
    go_ret
    exact ⟨ret_bool HF.out, (Keeps.refl _ _).alloc _⟩
  | true =>
    cases q1 : decide (f < 0) with
    | true =>
      have HF : Hid (false = r) := Lib.hid (by have : f < 0 := of_decide_eq_true q1
                                               have h0 : ¬ 0 ≤ f := by omega
                                               rw [HR.out]; simp [Po.right, h0])
      go_enter Try.func52, Try.ntmps52
      go_wp2_with fail
      refine (ref05_can _ _ _ _).mono ?_
      rintro e w1 ⟨rfl, rfl⟩
      rw [hc]
      go_wp2_with fail
      go_ret
      exact ⟨ret_bool HF.out, (Keeps.refl _ _).alloc _⟩
    | false =>
      cases q2 : decide (size < f) with
      | true =>
        have HF : Hid (false = r) := Lib.hid (by have : size < f := of_decide_eq_true q2
                                                 have h0 : ¬ f ≤ size := by omega
                                                 rw [HR.out]; simp [Po.right, h0])
        go_enter Try.func52, Try.ntmps52
        go_wp2_with fail
        refine (ref05_can _ _ _ _).mono ?_
        rintro e w1 ⟨rfl, rfl⟩
        rw [hc]
        go_wp2_with fail
        go_ret
        exact ⟨ret_bool HF.out, (Keeps.refl _ _).alloc _⟩
      | false =>
        have HC := Lib.hid (Po.fits_le hc)
        have HF : Hid (r = (decide (∀ l ∈ C, (l.length : Int) ≤ most) && Po.once f (M ++ C.flatten))) := Lib.hid (by
          have h1 := of_decide_eq_false q1
          have h2 := of_decide_eq_false q2
          have h3 : 0 ≤ f := by omega
          have h4 : f ≤ size := by omega
          rw [HR.out]; simp [Po.right, hc, h3, h4])
        have HB := Lib.hid (blk_new w [.int .i64 size, .int .i64 most, .slice aoc C.length capc, .slice aom M.length capm, .int .i64 f] 38 _ rfl)
        clear HR
        go_enter Try.func52, Try.ntmps52
        go_wp2_with fail
        refine (ref05_can _ _ _ _).mono ?_
        rintro e w1 ⟨rfl, rfl⟩
        rw [hc]
        go_wp2_with fail
        go_loopw [4, 32] (fun _ i wr => ∃ k : Nat, k ≤ C.length ∧ i = .int .i64 k ∧ wr = w.alloc (.cells #[.int .i64 size, .int .i64 most, .slice aoc C.length capc, .slice aom M.length capm, .int .i64 f] 38) ∧ ∀ l ∈ C.take k, (l.length : Int) ≤ most) (fun _ i _ => C.length - (intOf i).toNat)
        case atStart => exact ⟨0, Nat.zero_le _, rfl, rfl, by simp⟩
        case round =>
          obtain ⟨k, hk, rfl, rfl, hn⟩ := hrel
          by_cases hlt : k < C.length
          · obtain ⟨g, off, cs, U1, rfl, hgS, hg, hcs, hcell, ⟨vk, rfl, hvk⟩, hUS⟩ := GV.get H.out.1 (List.getElem?_eq_getElem hlt)
            have c0 : w.cell? ⟨g, off + k, none⟩ = some vk := by have := hcell 0 (by omega); rwa [Nat.mul_one, Nat.add_zero] at this
            have HT : Hid (C.take (k + 1) = C.take k ++ [C[k]]) := Lib.hid (List.take_succ_eq_append_getElem hlt)
            have HMem : Hid (C[k] ∈ C) := Lib.hid (List.getElem_mem hlt)
            generalize C[k] = l at *
            obtain ⟨aok, capk, rfl⟩ := hvk.shape
            have hml := hvk.le
            unfold maxLen at hml
            have HN := Lib.hid hn
            clear hcs hcell hvk hn
            cases q3 : decide (most < (l.length : Int)) with
            | true =>
              have HFF : Hid (false = r) := Lib.hid (by
                have h1 := of_decide_eq_true q3
                rw [HF.out, decide_eq_false (fun h => by have := h l HMem.out; omega)]; rfl)
              go_wp2_with fail
              go_ret
              exact ⟨ret_bool HFF.out, (Keeps.refl _ _).alloc _⟩
            | false =>
              have HN2 : Hid (∀ l ∈ C.take (k + 1), (l.length : Int) ≤ most) := Lib.hid (by
                have h1 := of_decide_eq_false q3
                rw [HT.out]; intro y hy
                rcases List.mem_append.1 hy with h | h
                · exact HN.out y h
                · simp at h; subst h; omega)
              go_wp2_with fail
              go_roundw
              case rel => exact ⟨k + 1, by omega, by go_num, by trivial, HN2.out⟩
              case measure => simp [intOf]; omega
          · obtain rfl : k = C.length := by omega
            rw [List.take_length] at hn
            have hC : C.flatten.length ≤ 500 := by
              have h1 := HC.out
              obtain ⟨m, hm⟩ : ∃ m : Nat, most = m := ⟨most.toNat, by omega⟩
              have h2 := Po.flat_bound (C := C) (m := m) (fun l hl => by have := hn l hl; omega)
              have h3 : C.length * m ≤ 8 * 16 := Nat.mul_le_mul (by omega) (by omega)
              omega
            have hL : (M ++ C.flatten).length ≤ 1000 := by have := HM.out; rw [List.length_append]; omega
            have HF2 : Hid (r = Po.once f (M ++ C.flatten)) := Lib.hid (by rw [HF.out, decide_eq_true hn]; rfl)
            have hM2 := HM.out
            clear hn HF
            go_wp2_with fail
            refine (ref05_all _ size most f _ _ C M S (H.out.then ((Keeps.refl [] w).alloc _)) (by omega) (by omega)).mono ?_
            rintro e w2 ⟨v2, S2, rfl, k2, i2, s2⟩
            clear hM2
            obtain ⟨L, hLL⟩ : ∃ L, M ++ C.flatten = L := ⟨_, rfl⟩
            rw [hLL] at i2 hL HF2
            clear hLL
            obtain ⟨ao2, cap2, rfl⟩ := i2.shape
            have HI := Lib.hid i2
            have K2 := Lib.hid (((Keeps.refl [] w).alloc _).then k2)
            have c4 : w2.cell? ⟨w.heap.size, 4, none⟩ = some (.int .i64 f) := (HB.out.keep k2 (by simp)).cell 4
            clear i2 k2 s2
            go_wp2_with fail
            go_loopw [6, 7, 46] (fun _ _ i wr => ∃ k : Nat, k ≤ L.length ∧ i = .int .i64 k ∧ wr = w2 ∧ ∀ i, i < k → 0 ≤ L.getD i 0 ∧ L.getD i 0 < f ∧ L.getD i 0 ∉ L.take i) (fun _ _ i _ => L.length - (intOf i).toNat)
            case atStart => exact ⟨0, Nat.zero_le _, rfl, rfl, fun i h => by omega⟩
            case round =>
              obtain ⟨k, hk, rfl, rfl, hn⟩ := hrel
              by_cases hlt : k < L.length
              · obtain ⟨g, off, rfl, rfl, hg, hcell⟩ := HI.out.cells (by omega)
                have c0 := hcell k hlt
                have HPre := Lib.hid (HI.out.prefix k (by omega) (by omega))
                obtain ⟨x, hx⟩ : ∃ x, L.getD k 0 = x := ⟨_, rfl⟩
                rw [hx] at c0
                have HX := Lib.hid hx
                have HN := Lib.hid hn
                have hcap : L.length ≤ cap2 := by
                  obtain ⟨_, ao, cap', e', hnc, _⟩ := HI.out
                  obtain ⟨rfl, rfl⟩ := by simpa using e'
                  exact hnc
                clear hcell hx hn
                cases q3 : decide (x < 0) with
                | true =>
                  have HFF : Hid (false = r) := Lib.hid (by
                    have h1 := of_decide_eq_true q3
                    rw [HF2.out]; symm; exact decide_eq_false (fun h => by have := (h k hlt).1; rw [HX.out] at this; omega))
                  go_wp2_with fail
                  go_ret
                  exact ⟨ret_bool HFF.out, K2.out⟩
                | false =>
                  cases q4 : decide (f ≤ x) with
                  | true =>
                    have HFF : Hid (false = r) := Lib.hid (by
                      have h1 := of_decide_eq_true q4
                      rw [HF2.out]; symm; exact decide_eq_false (fun h => by have := (h k hlt).2.1; rw [HX.out] at this; omega))
                    go_wp2_with fail
                    go_ret
                    exact ⟨ret_bool HFF.out, K2.out⟩
                  | false =>
                    go_wp2_with fail
                    refine (ref05_has _ _ (L.take k) _ x HPre.out).mono ?_
                    rintro e w3 ⟨rfl, rfl⟩
                    cases q5 : decide (x ∈ L.take k) with
                    | true =>
                      have HFF : Hid (false = r) := Lib.hid (by
                        have h1 := of_decide_eq_true q5
                        rw [HF2.out]; symm; exact decide_eq_false (fun h => (h k hlt).2.2 (by rw [HX.out]; exact h1)))
                      go_wp2_with fail
                      go_ret
                      exact ⟨ret_bool HFF.out, K2.out⟩
                    | false =>
                      have HN2 : Hid (∀ i, i < k + 1 → 0 ≤ L.getD i 0 ∧ L.getD i 0 < f ∧ L.getD i 0 ∉ L.take i) := Lib.hid (fun i hi => by
                        by_cases h : i < k
                        · exact HN.out i h
                        · obtain rfl : i = k := by omega
                          have h1 := of_decide_eq_false q3
                          have h2 := of_decide_eq_false q4
                          rw [HX.out]
                          exact ⟨by omega, by omega, of_decide_eq_false q5⟩)
                      go_wp2_with fail
                      go_roundw
                      case rel => exact ⟨k + 1, by omega, by go_num, by trivial, HN2.out⟩
                      case measure => simp [intOf]; omega
              · obtain rfl : k = L.length := by omega
                have HFF : Hid (true = r) := Lib.hid (by rw [HF2.out]; exact (decide_eq_true hn).symm)
                clear hn
                go_wp2_with fail
                go_ret
                exact ⟨ret_bool HFF.out, K2.out⟩
end Go.Proofs.Ytonkbenmafapgaa
