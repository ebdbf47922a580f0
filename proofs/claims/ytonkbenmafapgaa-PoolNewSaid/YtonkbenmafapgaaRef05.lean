/-
  Contracts of handoffref05: has, all, with, Live, Count.
  Conditions: rows no longer than 1000.
-/
import Derived.Test.YtonkbenmafapgaaGen
import Derived.Test.YtonkbenmafapgaaPoolOnce
namespace Go.Proofs.Ytonkbenmafapgaa
open Go.RowKit
set_option linter.unusedVariables false
set_option linter.unusedSimpArgs false
set_option linter.unnecessarySimpa false

theorem take_mem (l : List Int) (k : Nat) (h : k < l.length) : l.take (k + 1) = l.take k ++ [l.getD k 0] := by
  rw [List.take_succ_eq_append_getElem h, List.getD_eq_getElem?_getD, List.getElem?_eq_getElem h]; rfl

theorem ref05_has (w : World) (v : Value) (l : List Int) (S : List Nat) (x : Int) (h : IV w v l S) :
    Calls Try.prog 66 #[v, .int .i64 x] w fun e w' => e = .returned (.bool (decide (x ∈ l))) ∧ w = w' := by
  have hm := h.le
  unfold maxLen at hm
  obtain ⟨ao, cap, rfl⟩ := h.shape
  have H := Lib.hid h
  clear h
  go_enter Try.func66, Try.ntmps66
  go_wp2_with fail
  go_loopw [6, 9] (fun _ i wr => ∃ k : Nat, k ≤ l.length ∧ i = .int .i64 k ∧ wr = w ∧ x ∉ l.take k) (fun _ i _ => l.length - (intOf i).toNat)
  case atStart => exact ⟨0, Nat.zero_le _, rfl, rfl, by simp⟩
  case round =>
    obtain ⟨k, hk, rfl, rfl, hn⟩ := hrel
    by_cases hlt : k < l.length
    · obtain ⟨g, off, rfl, rfl, hg, hc⟩ := H.out.cells (by omega)
      have c0 := hc k hlt
      have HT := Lib.hid (take_mem l k hlt)
      have HM : Hid (l.getD k 0 ∈ l) := Lib.hid (by rw [List.getD_eq_getElem?_getD, List.getElem?_eq_getElem hlt]; simp)
      have HN := Lib.hid hn
      clear hc hn
      generalize l.getD k 0 = y at *
      cases hq : (x == y) with
      | true =>
        have HR : Hid (decide (x ∈ l) = true) := Lib.hid (by have : x = y := by simpa using hq
                                                             rw [this]; exact decide_eq_true HM.out)
        go_wp2_with fail
        go_ret
        exact ⟨ret_bool HR.out.symm, rfl⟩
      | false =>
        have HN2 : Hid (x ∉ l.take (k + 1)) := Lib.hid (by
          rw [HT.out]; simp only [List.mem_append, List.mem_singleton, not_or]
          exact ⟨HN.out, by simpa using hq⟩)
        go_wp2_with fail
        go_roundw
        case rel => exact ⟨k + 1, by omega, by go_num, by trivial, HN2.out⟩
        case measure => simp [intOf]; omega
    · obtain rfl : k = l.length := by omega
      have HR : Hid (decide (x ∈ l) = false) := Lib.hid (decide_eq_false (by rwa [List.take_length] at hn))
      clear hn
      go_wp2_with fail
      go_ret
      exact ⟨ret_bool HR.out.symm, rfl⟩

/-- the caches and the middle of the document's pool -/
def RP (w : World) (vc vm : Value) (C : List (List Int)) (M : List Int) (S : List Nat) : Prop :=
  GV intsE 1 w vc C S ∧ ∃ U, IV w vm M U ∧ ∀ x ∈ U, x ∈ S
theorem RP.keep {w w' : World} {vc vm : Value} {C : List (List Int)} {M : List Int} {S T : List Nat} (h : RP w vc vm C M S) (k : Keeps T w w') (hn : ∀ x ∈ S, x ∉ T) : RP w' vc vm C M S := by
  obtain ⟨h1, U, h2, h3⟩ := h
  exact ⟨h1.keep intsE_kept k hn, U, h2.keep k (fun x hx => hn x (h3 x hx)), h3⟩
theorem RP.then {w w' : World} {vc vm : Value} {C : List (List Int)} {M : List Int} {S : List Nat} (h : RP w vc vm C M S) (k : Keeps [] w w') : RP w' vc vm C M S := h.keep k (by simp)

theorem ref05_all (w : World) (size most f : Int) (vc vm : Value) (C : List (List Int)) (M : List Int) (S : List Nat) (h : RP w vc vm C M S) (hM : M.length ≤ 1000) (hC : C.flatten.length ≤ 1000) :
    Calls Try.prog 67 #[.agg #[.int .i64 size, .int .i64 most, vc, vm, .int .i64 f]] w (NewInts (M ++ C.flatten) w) := by
  have H := Lib.hid h
  obtain ⟨h1, U, h2, h3⟩ := h
  have hle := h1.le
  unfold maxLen at hle
  obtain ⟨aoc, capc, rfl⟩ := h1.shape
  obtain ⟨aom, capm, rfl⟩ := h2.shape
  have H2 := Lib.hid h2
  have HM := Lib.hid hM
  have HC := Lib.hid hC
  clear h1 h2 h3 hM hC
  go_enter Try.func67, Try.ntmps67
  go_wp2_with (at_builtin; go_must (refine wp_apps elemInt (IR.lit (w.alloc _) 3 (w.heap.size + 1) (by simp)) (IV.alloc (IV.alloc H2.out _) _) (by have := HM.out; simp; omega) ?_))
  intro ao1 cap1 w1 S1 r1 k1 s1
  have hbk := ((blk_new w [.int .i64 size, .int .i64 most, .slice aoc C.length capc, .slice aom M.length capm, .int .i64 f] 38 _ rfl).alloc (.cells #[] 3)).keep k1 (by simp)
  have c2 : w1.cell? ⟨w.heap.size, 2, none⟩ = some (.slice aoc C.length capc) := hbk.cell 2
  have K1 : Hid (Keeps [] w w1) := Lib.hid ((((Keeps.refl [] w).alloc _).alloc _).trans k1 (fun x hx => by simp at hx; right; omega))
  have R1 : Hid (IR w1 (.slice ao1 M.length cap1) 3 (M ++ (C.take 0).flatten) S1) := Lib.hid (by simpa using r1)
  have T1 : Hid (∀ k ∈ S1, w.heap.size ≤ k) := Lib.hid (fun k hk => by
    rcases s1 k hk with h | h
    · have : k = w.heap.size + 1 := by simpa using h
      omega
    · have h' : w.heap.size + 1 + 1 ≤ k := by simpa using h
      omega)
  clear r1 k1 s1 hbk
  go_wp2_with fail
  go_loopw [3, 5, 13] (fun v3 _ i wr => ∃ (k : Nat) (T : List Nat), k ≤ C.length ∧ i = .int .i64 k ∧ Keeps [] w wr ∧ IR wr v3 3 (M ++ (C.take k).flatten) T ∧ ∀ x ∈ T, w.heap.size ≤ x) (fun _ _ i _ => C.length - (intOf i).toNat)
  case atStart => exact ⟨0, S1, Nat.zero_le _, rfl, K1.out, R1.out, T1.out⟩
  case round =>
    obtain ⟨k, T, hk, rfl, hke, hr, hT⟩ := hrel
    obtain ⟨q, hq⟩ : ∃ q, M ++ (C.take k).flatten = q := ⟨_, rfl⟩
    rw [hq] at hr
    have HQ := Lib.hid hq
    clear hq
    obtain ⟨ao3, cap3, rfl⟩ := hr.shape
    have HKe := Lib.hid hke
    have HR := Lib.hid hr
    have HT := Lib.hid hT
    clear hke hr hT
    by_cases hlt : k < C.length
    · obtain ⟨g, off, cs, U1, rfl, hgS, hg, hcs, hcc, ⟨v1, rfl, hv1⟩, hU1⟩ := (H.out.1.then intsE_kept HKe.out).get (List.getElem?_eq_getElem hlt)
      have c0 : wr.cell? ⟨g, off + k, none⟩ = some v1 := by have := hcc 0 (by omega); rwa [Nat.mul_one, Nat.add_zero] at this
      obtain ⟨l, hl⟩ : ∃ l, C[k] = l := ⟨_, rfl⟩
      rw [hl] at hv1
      obtain ⟨aov, capv, rfl⟩ := hv1.shape
      have HV1 := Lib.hid hv1
      have HS : Hid ((C.take (k + 1)).flatten = (C.take k).flatten ++ l) := Lib.hid (by
        rw [List.take_succ_eq_append_getElem hlt, List.flatten_append, hl]; simp)
      have hle1 : (C.take (k + 1)).flatten.length ≤ C.flatten.length := Po.lens_le C (k + 1)
      rw [HS.out, List.length_append] at hle1
      have HLe : Hid ((q.length + l.length) * 8 ≤ 140737488355328) := Lib.hid (by rw [← HQ.out, List.length_append]; have := HM.out; have := HC.out; omega)
      clear hcc hcs hv1 hle1 hl
      go_wp2_with (at_builtin; go_must (refine wp_apps elemInt HR.out HV1.out HLe.out ?_))
      intro ao6 cap6 w6 S6 r6 k6 s6
      have HR6 : Hid (IR w6 (.slice ao6 (q.length + l.length) cap6) 3 (M ++ (C.take (k + 1)).flatten) S6) := Lib.hid (by rw [HS.out, ← List.append_assoc, HQ.out]; exact r6)
      have HK6 := Lib.hid (HKe.out.trans k6 (fun x hx => .inr (HT.out x hx)))
      have HT6 : Hid (∀ x ∈ S6, w.heap.size ≤ x) := Lib.hid (fun x hx => by
        rcases s6 x hx with h | h
        · exact HT.out x h
        · have := HKe.out.size; omega)
      clear r6 k6 s6 c0
      go_wp2_with fail
      go_roundw
      case rel => exact ⟨k + 1, S6, by omega, by go_num, HK6.out, HR6.out, HT6.out⟩
      case measure => simp [intOf]; omega
    · obtain rfl : k = C.length := by omega
      go_wp2_with fail
      go_ret
      exact ⟨_, T, rfl, HKe.out, by have h1 := HR.out.iv; have h2 := HQ.out; rw [List.take_length] at h2; rw [h2]; exact h1, HT.out⟩

theorem elemInts : Elem Try.prog 36 27 1 24 (.slice none 0 0) := ⟨Try.underlying36, by kernel_rfl, rfl, by decide, by decide⟩
def WithPost (size most f : Int) (vm : Value) (C : List (List Int)) (M : List Int) (S U : List Nat) (w : World) (e : Ending) (w' : World) : Prop :=
  ∃ vc' S', e = .returned (.agg #[.int .i64 size, .int .i64 most, vc', vm, .int .i64 f]) ∧ Keeps [] w w' ∧ RP w' vc' vm C M S' ∧ ∀ x ∈ S', x ∈ S ∨ x ∈ U ∨ w.heap.size ≤ x

theorem ne_of_lt3 {y n : Nat} (h : y < n) (hT : y ∈ [n + 1 + 1]) : False := by simp at hT; omega

set_option maxHeartbeats 800000 in
theorem ref05_with (w : World) (size most f : Int) (vc vm vl : Value) (C : List (List Int)) (M l : List Int) (S U : List Nat) (n : Nat) (h : RP w vc vm C M S) (hn : n < C.length) (hl : IV w vl l U) (hC : C.length ≤ 1000) :
    Calls Try.prog 64 #[.agg #[.int .i64 size, .int .i64 most, vc, vm, .int .i64 f], .int .i64 n, vl] w (WithPost size most f vm (C.set n l) M S U w) := by
  have H := Lib.hid h
  obtain ⟨h1, U1, h2, h3⟩ := h
  obtain ⟨aoc, capc, rfl⟩ := h1.shape
  obtain ⟨aom, capm, rfl⟩ := h2.shape
  obtain ⟨aol, capl, rfl⟩ := hl.shape
  have HL := Lib.hid hl
  have hltS := h1.lt
  have HLS := Lib.hid hltS
  have hnI : (n : Int) < (C.length : Int) := by omega
  clear h1 h2 h3 hl hltS
  go_enter Try.func64, Try.ntmps64
  go_wp2_with (at_builtin; go_must (refine wp_gapps elemInts intsE_kept (GR.lit intsE 1 ((w.alloc _).alloc _) 27 (w.heap.size + 1 + 1) (by simp)) (GV.then intsE_kept H.out.1 ((((Keeps.refl [] w).alloc _).alloc _).alloc _)) (fun y hy hT => ne_of_lt3 (HLS.out y hy) hT) (by rw [List.length_nil]; omega) ?_))
  intro ao4 cap4 w4 T4 r4 k4 s4
  have hb1 := (((blk_new w [.int .i64 size, .int .i64 most, .slice aoc C.length capc, .slice aom M.length capm, .int .i64 f] 38 _ rfl).alloc (.cells #[.int .i64 0, .int .i64 0, .slice none 0 0, .slice none 0 0, .int .i64 0] 38)).alloc (.cells #[] 27)).keep k4 (by simp; try omega)
  have hb2 := ((blk_new (w.alloc (.cells #[.int .i64 size, .int .i64 most, .slice aoc C.length capc, .slice aom M.length capm, .int .i64 f] 38)) [.int .i64 0, .int .i64 0, .slice none 0 0, .slice none 0 0, .int .i64 0] 38 _ rfl).alloc (.cells #[] 27)).keep k4 (by simp; try omega)
  have KW : Hid (Keeps [] w w4) := Lib.hid (((((Keeps.refl [] w).alloc _).alloc _).alloc _).trans k4 (fun x hx => .inr (by simp at hx; omega)))
  have hT4 : ∀ x ∈ T4, w.heap.size + 2 ≤ x := fun x hx => by
    rcases s4 x hx with h | h <;> omega
  have r4' : GR intsE 1 w4 (.slice ao4 C.length cap4) 27 C T4 S := by simpa using r4
  obtain ⟨g4, off4, rfl, rfl, hg4⟩ := r4'.addr (by omega)
  have hg4' : w.heap.size + 2 ≤ g4 := hT4 g4 (by simp)
  obtain ⟨q1, q2, q3, y, q4⟩ := r4'.stored intsE_kept n hn (U := U) ⟨_, rfl, HL.out.then KW.out⟩ (fun z hz hT => by
    have h1 := HL.out.lt z hz
    simp at hT
    omega) rfl
  have Q1 := Lib.hid q1
  have Q2 := Lib.hid q2
  simp only [World.size_alloc] at hb2
  obtain ⟨⟨a0, a1, a2, a3, a4⟩, f0, f1, f2, f3, f4⟩ := hb1.cells5
  obtain ⟨⟨b0, b1, b2, b3, b4⟩, e0, e1, e2, e3, e4⟩ := hb2.cells5
  have n1 : w.heap.size ≠ g4 := by omega
  have n2 : w.heap.size + 1 ≠ g4 := by omega
  clear r4 k4 s4 r4' q1 q2 hb1 hb2 hT4
  go_wp2_with fail
  refine bodyPost_ret (v := .agg #[.int .i64 size, .int .i64 most, .slice (some ⟨g4, off4, none⟩) C.length cap4, .slice aom M.length capm, .int .i64 f]) (by simp [results, Try.results64, go_sem, b0, b1, b2, b3, b4, n2]) rfl ?_
  have kk : ∀ W : World, ∀ v0 v1 v2 v3 v4 v5 : Value, Keeps [w.heap.size, w.heap.size + 1] W ((((((W.setCell ⟨w.heap.size, 2, none⟩ v0).setCell ⟨w.heap.size + 1, 0, none⟩ v1).setCell ⟨w.heap.size + 1, 1, none⟩ v2).setCell ⟨w.heap.size + 1, 2, none⟩ v3).setCell ⟨w.heap.size + 1, 3, none⟩ v4).setCell ⟨w.heap.size + 1, 4, none⟩ v5) := fun W v0 v1 v2 v3 v4 v5 =>
    ((((((Keeps.refl _ W).setCell (by simp) _).setCell (by simp) _).setCell (by simp) _).setCell (by simp) _).setCell (by simp) _).setCell (by simp) _
  obtain ⟨_, U2, h2, h3⟩ := H.out
  refine ⟨_, [g4] ++ (S ++ U), rfl, ?_, ⟨Q1.out.gv.keep intsE_kept (kk _ _ _ _ _ _ _) ?_, U2, ((h2.then KW.out).keep Q2.out ?_).keep (kk _ _ _ _ _ _ _) ?_, fun x hx => by simp [h3 x hx]⟩, ?_⟩
  · exact (KW.out.trans Q2.out (fun x hx => .inr (by simp at hx; omega))).trans (kk _ _ _ _ _ _ _) (fun x hx => .inr (by simp at hx; omega))
  · intro x hx hx2
    have h1 := HLS.out x
    have h4 := HL.out.lt x
    simp at hx hx2
    rcases hx with h | h | h
    · omega
    · have := h1 h; omega
    · have := h4 h; omega
  · intro x hx hx2
    have := HLS.out x (h3 x hx)
    simp at hx2; omega
  · intro x hx hx2
    have := HLS.out x (h3 x hx)
    simp at hx2; omega
  · intro x hx
    simp at hx
    rcases hx with h | h | h
    · exact .inr (.inr (by omega))
    · exact .inl h
    · exact .inr (.inl h)

theorem ref05_live (w : World) (size most : Int) (f : Nat) (vc vm : Value) (C : List (List Int)) (M : List Int) (S : List Nat) (x : Int) (h : RP w vc vm C M S) (hM : M.length ≤ 1000) (hC : C.flatten.length ≤ 1000) :
    Calls Try.prog 24 #[.agg #[.int .i64 size, .int .i64 most, vc, vm, .int .i64 f], .int .i64 x] w fun e w' => e = .returned (.bool (decide (0 ≤ x) && decide (x < (f : Int)) && !decide (x ∈ M ++ C.flatten))) ∧ Keeps [] w w' := by
  have H := Lib.hid h
  obtain ⟨h1, U1, h2, h3⟩ := h
  obtain ⟨aoc, capc, rfl⟩ := h1.shape
  obtain ⟨aom, capm, rfl⟩ := h2.shape
  clear h1 h2 h3
  cases h0 : decide (0 ≤ x) with
  | false =>
    go_enter Try.func24, Try.ntmps24
    go_wp2_with fail
    go_ret
    exact ⟨rfl, (Keeps.refl _ _).alloc _⟩
  | true =>
    cases hf : decide (x < (f : Int)) with
    | false =>
      go_enter Try.func24, Try.ntmps24
      go_wp2_with fail
      go_ret
      exact ⟨rfl, (Keeps.refl _ _).alloc _⟩
    | true =>
      obtain ⟨q, hq⟩ : ∃ q, decide (x ∈ M ++ C.flatten) = q := ⟨_, rfl⟩
      rw [hq]
      have HQ := Lib.hid hq
      clear hq
      go_enter Try.func24, Try.ntmps24
      go_wp2_with fail
      refine (ref05_all _ _ _ _ _ _ C M S (H.out.then ((Keeps.refl _ _).alloc _)) hM hC).mono ?_
      rintro e w1 ⟨v1, S1, rfl, k1, i1, _⟩
      have K1 := Lib.hid (((Keeps.refl [] w).alloc _).then k1)
      have I1 := Lib.hid i1
      clear k1 i1
      go_wp2_with fail
      refine (ref05_has _ _ _ _ x I1.out).mono ?_
      rintro e w2 ⟨rfl, rfl⟩
      rw [HQ.out]
      go_wp2_with fail
      go_ret
      exact ⟨by cases q <;> rfl, K1.out⟩

theorem ref05_count (w : World) (size most : Int) (f : Nat) (vc vm : Value) (C : List (List Int)) (M : List Int) (S : List Nat) (h : RP w vc vm C M S) (hM : M.length ≤ 1000) (hC : C.flatten.length ≤ 1000) (hf : f ≤ 1000) :
    Calls Try.prog 65 #[.agg #[.int .i64 size, .int .i64 most, vc, vm, .int .i64 f]] w fun e w' => e = .returned (.int .i64 ((f : Int) - ((M ++ C.flatten).length : Int))) ∧ Keeps [] w w' := by
  have H := Lib.hid h
  obtain ⟨h1, U1, h2, h3⟩ := h
  obtain ⟨aoc, capc, rfl⟩ := h1.shape
  obtain ⟨aom, capm, rfl⟩ := h2.shape
  clear h1 h2 h3
  obtain ⟨L, hL⟩ : ∃ L, M ++ C.flatten = L := ⟨_, rfl⟩
  have hL2 : L.length ≤ 2000 := by rw [← hL, List.length_append]; omega
  have HM := Lib.hid hM
  have HC := Lib.hid hC
  rw [hL]
  have HL := Lib.hid hL
  clear hM hC hL
  go_enter Try.func65, Try.ntmps65
  go_wp2_with fail
  have hb := blk_new w [.int .i64 size, .int .i64 most, .slice aoc C.length capc, .slice aom M.length capm, .int .i64 f] 38 _ rfl
  have HB := Lib.hid hb
  obtain ⟨⟨c0, c1, c2, c3, c4⟩, _⟩ := hb.cells5
  clear hb
  go_region_held3 (fun w' => w'.cell? ⟨w.heap.size, 0, none⟩ = some (.int .i64 size) ∧ w'.cell? ⟨w.heap.size, 1, none⟩ = some (.int .i64 most) ∧ w'.cell? ⟨w.heap.size, 2, none⟩ = some (.slice aoc C.length capc) ∧ w'.cell? ⟨w.heap.size, 3, none⟩ = some (.slice aom M.length capm) ∧ w'.cell? ⟨w.heap.size, 4, none⟩ = some (.int .i64 f))
    (first | exact ⟨c0, c1, c2, c3, c4⟩ | exact ⟨d0, d1, d2, d3, d4⟩)
    (first | (go_at_call 67; refine (ref05_all _ _ _ _ _ _ C M S (H.out.then (((Keeps.refl _ _).alloc _).drew)) HM.out HC.out).mono ?_; rintro e w1 ⟨v1, S1, rfl, k1, i1, _⟩; obtain ⟨ao1, cap1, rfl⟩ := i1.shape; rw [HL.out]; have K1 := Lib.hid ((((Keeps.refl [] w).alloc _).drew).then k1); obtain ⟨⟨d0, d1, d2, d3, d4⟩, _⟩ := (HB.out.drew.keep k1 (by simp)).cells5; clear k1 i1))
  go_wp2_with fail
  go_ret
  exact ⟨ret_int (by rw [IntKind.wrap_i64]; omega), K1.out⟩
end Go.Proofs.Ytonkbenmafapgaa
