/-
  Contracts of package ring, the second part: All, Of, New.
  Conditions: a ring is held by Rg.
-/
import Derived.Test.YtgpcmifbkbgbjaaRingC
namespace Go.Proofs.Ytgpcmifbkbgbjaa
open Go.RowKit
set_option linter.unusedVariables false
set_option linter.unusedSimpArgs false
set_option linter.unnecessarySimpa false

namespace Rn
theorem vals_take (ps : List Int) (f c k : Nat) (h : k ≤ c) : (vals ps f c).take k = vals ps f k := by
  unfold vals; rw [← List.map_take]; congr 1
  rw [List.take_range]; congr 1; omega
theorem vals_succ (ps : List Int) (f k : Nat) : vals ps f (k + 1) = vals ps f k ++ [ps.getD ((f + k) % ps.length) 0] := by
  unfold vals; rw [List.range_succ]; simp
end Rn

/-- what All leaves: a new list -/
def AllPost (l : List Int) (w : World) (e : Ending) (w' : World) : Prop :=
  ∃ v S, e = .returned v ∧ Keeps [] w w' ∧ IV w' v l S ∧ ∀ k ∈ S, w.heap.size ≤ k

set_option maxHeartbeats 1600000 in
theorem ring_all (w : World) (p : Value) (N : Nat) (l : List Int) (S : List Nat) (h : Rg w p N l S) :
    Calls Try.prog 24 #[p] w (AllPost l w) := by
  obtain ⟨b, rfl⟩ := h.shape
  have hle := h.le
  obtain ⟨b', sv, U, ps, f, hbb, hb, hr, hd, rfl, hN, h64, hl, _, hf⟩ := h
  obtain rfl : b = b' := by simpa using hbb
  obtain ⟨ao, cap, rfl⟩ := hr.shape
  have c0 : w.cell? ⟨b, 0, none⟩ = some (.slice ao ps.length cap) := hb.cell 0
  have c1 : w.cell? ⟨b, 1, none⟩ = some (.int .i64 f) := hb.cell 1
  have c2 : w.cell? ⟨b, 2, none⟩ = some (.int .i64 l.length) := hb.cell 2
  have HB := Lib.hid hb
  have HR := Lib.hid hr
  have HL := Lib.hid hl
  have HF := Lib.hid hf
  have HN := Lib.hid hN
  have hl64 : l.length ≤ 64 := by omega
  clear hb hr hd hbb hl hf hN hle
  obtain ⟨c, hc⟩ : ∃ c, l.length = c := ⟨_, rfl⟩
  have HC := Lib.hid hc
  rw [hc] at c2 hl64
  clear hc
  go_enter Try.func24, Try.ntmps24
  go_wp2_with (at_make; go_must (refine wp_make0 elemInt64 c (by omega) ?_ (hC := rfl)); intro w1 r1 k1; have c2' := k1.cell c2 (by simp))
  have HR1 := Lib.hid r1
  have HK1 := Lib.hid k1
  clear r1 k1 c2'
  go_loopw [3, 14] (fun v i wr => ∃ (k : Nat) (T : List Nat), k ≤ c ∧ i = .int .i64 k ∧ Keeps [] w wr ∧ IR wr v 2 (Rn.vals ps f k) T ∧ ∀ x ∈ T, w.heap.size ≤ x) (fun _ i _ => c - (intOf i).toNat)
  case atStart => exact ⟨0, [w.heap.size], Nat.zero_le _, rfl, HK1.out, HR1.out, by simp⟩
  case round =>
    obtain ⟨k, T, hk, rfl, hke, hrow, hT⟩ := hrel
    obtain ⟨ao3, cap3, hv⟩ := hrow.shape
    rw [Rn.vals_len] at hv
    subst hv
    have HK := Lib.hid hke
    have HRo := Lib.hid hrow
    have HT := Lib.hid hT
    clear hke hrow hT
    by_cases hlt : k < c
    · have hcN : c ≤ ps.length := by have := HC.out; have := HN.out; omega
      have hfN : f < ps.length := by have := HF.out; have := HN.out; omega
      have hps : ps.length ≤ 64 := by have := HN.out; omega
      obtain ⟨j, hj⟩ : ∃ j, j = (f + k) % ps.length := ⟨_, rfl⟩
      have hjN : j < ps.length := by rw [hj]; exact Nat.mod_lt _ (by omega)
      obtain ⟨g, off, rfl, rfl, hg, hcc, _⟩ := (HR.out.then HK.out).cells (by omega)
      have d0 : wr.cell? ⟨b, 0, none⟩ = some (.slice (some ⟨g, off, none⟩) ps.length cap) := HK.out.cell c0 (by simp)
      have d1 : wr.cell? ⟨b, 1, none⟩ = some (.int .i64 f) := HK.out.cell c1 (by simp)
      have cg : wr.cell? ⟨g, off + j, none⟩ = some (.int .i64 (ps.getD j 0)) := hcc j hjN
      have HJ := Lib.hid hj
      have HV : Hid (Rn.vals ps f (k + 1) = Rn.vals ps f k ++ [ps.getD j 0]) := Lib.hid (by rw [Rn.vals_succ, ← hj])
      have HLn : Hid ((Rn.vals ps f k).length = k) := Lib.hid (Rn.vals_len ps f k)
      have hbT : b ∉ T := fun h => by have := HT.out b h; have := HB.out.lt; omega
      have hgT : g ∉ T := fun h => by have := HT.out g h; have := HR.out.lt g (by simp); omega
      clear hcc hj
      obtain ⟨x, HX⟩ : ∃ x, Hid (ps.getD j 0 = x) := ⟨_, rfl⟩
      rw [HX.out] at cg
      go_wp2_with fail
      go_region_held3 (fun w' => w'.cell? ⟨b, 0, none⟩ = some (.slice (some ⟨g, off, none⟩) ps.length cap) ∧ w'.cell? ⟨g, off + j, none⟩ = some (.int .i64 x)) (first | exact ⟨d0, cg⟩ | exact ⟨e0, eg⟩ | (refine ⟨(World.cell?_alloc_past _ _ _ (block_lt_of_cell d0)).trans d0, (World.cell?_alloc_past _ _ _ (block_lt_of_cell cg)).trans cg⟩))
        (first
          | (go_at_call 54; refine (ring_at _ b _ _ cap f k (by exact d0) (by exact d1) hfN hps (by omega)).mono ?_; rintro e w2 ⟨rfl, m2, rfl⟩; rw [← HJ.out])
          | (refine step_appn elemInt64 (HRo.out.then ((Keeps.refl [] wr).drewN _)) (by rw [HLn.out]; omega) ?_; intro ao6 cap6 w6 S6 r6 k6 s6; have e0 : w6.cell? ⟨b, 0, none⟩ = some (.slice (some ⟨g, off, none⟩) ps.length cap) := k6.cell (by exact d0) hbT; have eg : w6.cell? ⟨g, off + j, none⟩ = some (.int .i64 x) := k6.cell (by exact cg) hgT; have R6 := Lib.hid r6; have K6 := Lib.hid k6; have S6' := Lib.hid s6; clear r6 k6 s6))
      go_wp2_with fail
      go_roundw
      case rel => exact ⟨k + 1, S6, by omega, by go_num, HK.out.trans (((Keeps.refl T wr).drewN _).trans K6.out (fun x hx => .inl hx)) (fun x hx => .inr (HT.out x hx)), by rw [HV.out, HX.out]; exact R6.out, fun x hx => by
        rcases S6'.out x hx with h | h
        · exact HT.out x h
        · have := HK.out.size; simp at h; omega⟩
      case measure => simp [intOf]; omega
    · obtain rfl : k = c := by omega
      go_wp2_with fail
      go_ret
      exact ⟨_, T, rfl, HK.out, by have := HRo.out.iv; rw [← HC.out] at this ⊢; rw [← HL.out] at this; exact this, HT.out⟩

/-- what Of and New leave: a ring, or the error -/
def OfPost (room : Int) (l : List Int) (w : World) (e : Ending) (w' : World) : Prop :=
  if 0 ≤ room ∧ room ≤ 64 ∧ (l.length : Int) ≤ room then ∃ p S, e = .returned (.tuple #[p, .int .i64 0]) ∧ Keeps [] w w' ∧ Rg w' p room.toNat l S ∧ ∀ k ∈ S, w.heap.size ≤ k
  else e = .returned (.tuple #[.pointer none, .int .i64 1]) ∧ w' = w

theorem of_cells (l : List Int) (N : Nat) (h : l.length ≤ N) : List.take (min l.length N) (l.map (Value.int .i64)) ++ List.drop (min l.length N) (List.replicate N (Value.int .i64 0)) = (l ++ List.replicate (N - l.length) 0).map (Value.int .i64) := by
  rw [Nat.min_eq_left h, List.take_of_length_le (by simp), List.drop_replicate]; simp

set_option maxHeartbeats 800000 in
theorem ring_of (w : World) (room : Int) (v : Value) (l : List Int) (T : List Nat) (h : IV w v l T) :
    Calls Try.prog 18 #[.int .i64 room, v] w (OfPost room l w) := by
  have hm := h.le
  unfold maxLen at hm
  obtain ⟨ao, cap, rfl⟩ := h.shape
  by_cases hok : 0 ≤ room ∧ room ≤ 64 ∧ (l.length : Int) ≤ room
  · have HOK := Lib.hid hok
    obtain ⟨h1, h2, h3⟩ := hok
    obtain ⟨N, rfl⟩ := Int.eq_ofNat_of_zero_le h1
    have H := Lib.hid h
    clear h h1
    have hN64 : N ≤ 64 := by omega
    have hlN : l.length ≤ N := by omega
    go_enter Try.func18, Try.ntmps18
    go_wp2_with (first | (at_make; go_must (refine wp_make elemInt64 N (by omega) ?_ (hL := rfl) (hC := rfl)); intro w1 r1 k1; simp only [Nat.mul_one, Value.cells, toList_madeCells_one] at r1; have R1 := Lib.hid r1; have K1 := Lib.hid k1; clear r1 k1) | ((with_reducible show wpList _ _ _ (⟨some 30, _, _, _, _, _⟩ :: _) _ _); go_must (refine wp_copy elemInt64 (Row.alloc R1.out _) (View.then (View.then H.out K1.out) ((Keeps.refl [] _).alloc _)) (oc_ints l) ?_); intro w2 r2 k2; have R2 := Lib.hid r2; have K2 := Lib.hid k2; clear r2 k2))
    have hlt : w.heap.size < w1.heap.size := R1.out.lt _ (by simp)
    have hb2 := (Blk.new w1 [.slice (some ⟨w.heap.size, 0, none⟩) N N, .int .i64 0, .int .i64 l.length] 84).keep K2.out (by simp; omega)
    have hrow := R2.out
    rw [of_cells l N hlN] at hrow
    have hpl : (l ++ List.replicate (N - l.length) 0).length = N := by simp; omega
    have hres : Rg w2 (.pointer (some ⟨w1.heap.size, 0, none⟩)) N l [w1.heap.size, w.heap.size] :=
      ⟨w1.heap.size, _, [w.heap.size], l ++ List.replicate (N - l.length) 0, 0, rfl, hb2, by unfold IR; rw [hpl]; exact hrow, by simp; omega, rfl, hpl, hN64, (Rn.start l N hlN).symm, hlN, by omega⟩
    have HRES := Lib.hid hres
    have HKK := Lib.hid ((K1.out.alloc (.cells #[.slice (some ⟨w.heap.size, 0, none⟩) N N, .int .i64 0, .int .i64 l.length] 84)).trans K2.out (by simp))
    have HLT := Lib.hid hlt
    clear hb2 hrow hpl hres hlt
    go_ret2
    unfold OfPost
    rw [if_pos HOK.out]
    refine ⟨_, [w1.heap.size, w.heap.size], rfl, HKK.out, by rw [Int.toNat_natCast]; exact HRES.out, ?_⟩
    intro k hk
    have := HLT.out
    simp at hk
    rcases hk with rfl | rfl <;> omega
  · have HOK := Lib.hid hok
    clear h
    have hcase : room < 0 ∨ (0 ≤ room ∧ 64 < room) ∨ (0 ≤ room ∧ room ≤ 64 ∧ room < l.length) := by omega
    clear hok
    rcases hcase with h1 | ⟨h1, h2⟩ | ⟨h1, h2, h3⟩
    all_goals go_enter Try.func18, Try.ntmps18
    all_goals go_wp2_with fail
    all_goals go_ret2
    all_goals unfold OfPost
    all_goals rw [if_neg HOK.out]
    all_goals exact ⟨rfl, rfl⟩

theorem ring_new (w : World) (room : Int) :
    Calls Try.prog 17 #[.int .i64 room] w (OfPost room [] w) := by
  go_enter Try.func17, Try.ntmps17
  go_wp2_with fail
  refine (ring_of _ room _ [] [] (IV.nil w)).mono ?_
  intro e w1 h1
  by_cases hok : 0 ≤ room ∧ room ≤ 64 ∧ (([] : List Int).length : Int) ≤ room
  · unfold OfPost at h1
    rw [if_pos hok] at h1
    obtain ⟨p, S, rfl, h1⟩ := h1
    have H1 := Lib.hid h1
    have HOK := Lib.hid hok
    clear h1 hok
    go_wp2_with fail
    go_ret2
    unfold OfPost
    rw [if_pos HOK.out]
    exact ⟨p, S, rfl, H1.out⟩
  · unfold OfPost at h1
    rw [if_neg hok] at h1
    obtain ⟨rfl, rfl⟩ := h1
    have HOK := Lib.hid hok
    clear hok
    go_wp2_with fail
    go_ret2
    unfold OfPost
    rw [if_neg HOK.out]
    exact ⟨rfl, rfl⟩
end Go.Proofs.Ytgpcmifbkbgbjaa
