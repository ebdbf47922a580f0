/-
  The small functions of plan and of its document: contracts.
  Conditions: none.
-/
import Derived.Test.YtopkfhmdgheghaaPlanE
namespace Go.Proofs.Ytopkfhmdgheghaa
open Go.RowKit
set_option linter.unusedVariables false
set_option linter.unusedSimpArgs false
set_option linter.unnecessarySimpa false

theorem plan_hasCh (w : World) (k : Int) : Calls Try.prog 101 #[.int .i64 k] w fun e w' => e = .returned (.bool (Pn.hasCh k)) ∧ w = w' := by
  go_enter Try.func101, Try.ntmps101
  go_wp2_with fail
  all_goals
    go_ret
    exact ⟨ret_bool (by simp [Pn.hasCh, *] <;> omega), rfl⟩
theorem plan_hasV (w : World) (k : Int) : Calls Try.prog 102 #[.int .i64 k] w fun e w' => e = .returned (.bool (Pn.hasV k)) ∧ w = w' := by
  go_enter Try.func102, Try.ntmps102
  go_wp2_with fail
  all_goals
    go_ret
    exact ⟨ret_bool (by simp [Pn.hasV, *]), rfl⟩
theorem ref10_hasCh (w : World) (k : Int) : Calls Try.prog 82 #[.int .i64 k] w fun e w' => e = .returned (.bool (Pn.hasCh k)) ∧ w = w' := by
  go_enter Try.func82, Try.ntmps82
  go_wp2_with fail
  all_goals
    go_ret
    exact ⟨ret_bool (by simp [Pn.hasCh, *] <;> omega), rfl⟩
theorem ref10_hasV (w : World) (k : Int) : Calls Try.prog 83 #[.int .i64 k] w fun e w' => e = .returned (.bool (Pn.hasV k)) ∧ w = w' := by
  go_enter Try.func83, Try.ntmps83
  go_wp2_with fail
  all_goals
    go_ret
    exact ⟨ret_bool (by simp [Pn.hasV, *]), rfl⟩
theorem plan_flag (w : World) (b : Bool) : Calls Try.prog 100 #[.bool b] w fun e w' => e = .returned (.int .u8 (Pn.flag b)) ∧ w = w' := by
  cases b <;>
  · go_enter Try.func100, Try.ntmps100
    go_wp2_with fail
    go_ret
    exact ⟨rfl, rfl⟩
theorem ref10_flag (w : World) (b : Bool) : Calls Try.prog 84 #[.bool b] w fun e w' => e = .returned (.int .u8 (Pn.flag b)) ∧ w = w' := by
  cases b <;>
  · go_enter Try.func84, Try.ntmps84
    go_wp2_with fail
    go_ret
    exact ⟨rfl, rfl⟩
/-- within -/
def Pn.within (has : Bool) (n most : Int) : Bool := if has then decide (0 ≤ n) && decide (n ≤ most) else n == 0
theorem plan_within (w : World) (b : Bool) (n most : Int) : Calls Try.prog 108 #[.bool b, .int .i64 n, .int .i64 most] w fun e w' => e = .returned (.bool (Pn.within b n most)) ∧ w = w' := by
  cases b with
  | true =>
    go_enter Try.func108, Try.ntmps108
    go_wp2_with fail
    all_goals
      go_ret
      exact ⟨ret_bool (by simp [Pn.within, *] <;> omega), rfl⟩
  | false =>
    go_enter Try.func108, Try.ntmps108
    go_wp2_with fail
    all_goals
      go_ret
      exact ⟨ret_bool (by simp [Pn.within, *] <;> omega), rfl⟩

theorem Pn.byte_get {l : List Int} {i : Nat} (h : i < l.length) : l.getD i 0 = Pn.byte l i := rfl
theorem Pn.byte_out {l : List Int} {i : Nat} (h : l.length ≤ i) : Pn.byte l i = 0 := by simp [Pn.byte, List.getD, List.getElem?_eq_none h]

theorem ref10_at (w : World) (v : Value) (l : List Int) (S : List Nat) (i : Nat) (h : GV (numE .u8) 1 w v l S) :
    Calls Try.prog 88 #[v, .int .i64 i] w fun e w' => e = .returned (.int .i64 (Pn.byte l i)) ∧ w = w' := by
  have hle := h.le
  unfold maxLen at hle
  obtain ⟨ao, cap, rfl⟩ := h.shape
  by_cases hlt : i < l.length
  · obtain ⟨g, off, rfl, _, _, hc⟩ := h.num hlt
    have hr := wf8 (h.wf _ (List.getElem_mem hlt))
    have e : l[i] = Pn.byte l i := by simp [Pn.byte, List.getD, hlt]
    rw [e] at hr
    rw [Pn.byte_get hlt] at hc
    generalize Pn.byte l i = x at *
    obtain ⟨r0, r1⟩ := hr
    clear h e
    go_enter Try.func88, Try.ntmps88
    go_wp2_with fail
    go_ret
    exact ⟨rfl, rfl⟩
  · have hge : l.length ≤ i := by omega
    rw [Pn.byte_out hge]
    clear h
    go_enter Try.func88, Try.ntmps88
    go_wp2_with fail
    go_ret
    exact ⟨rfl, rfl⟩

/-- the source of bytes: used in bu, the bytes' slice in bb; all its blocks lie below B -/
def Src (B : Nat) (w : World) (bu bb : Nat) (l : List Int) (i : Nat) : Prop :=
  Blk w bu [.int .i64 ((min i l.length : Nat) : Int)] 3 ∧ (∃ v S, Blk w bb [v] 35 ∧ GV (numE .u8) 1 w v l S ∧ bu ∉ S ∧ ∀ x ∈ S, x < B) ∧ bu ≠ bb ∧ bu < B ∧ bb < B
theorem Src.keep {B : Nat} {w w' : World} {bu bb : Nat} {l : List Int} {i : Nat} {T : List Nat} (h : Src B w bu bb l i) (k : Keeps T w w') (hT : ∀ x ∈ T, B ≤ x) : Src B w' bu bb l i := by
  obtain ⟨h1, ⟨v, S, h2, h3, h4, h5⟩, h6, h7, h8⟩ := h
  exact ⟨h1.keep k (fun hm => by have := hT _ hm; omega), ⟨v, S, h2.keep k (fun hm => by have := hT _ hm; omega), h3.keep (numE_kept _) k (fun x hx hm => by have := hT _ hm; have := h5 x hx; omega), h4, h5⟩, h6, h7, h8⟩
theorem Src.range {B : Nat} {w : World} {bu bb : Nat} {l : List Int} {i : Nat} (h : Src B w bu bb l i) : ∀ x ∈ l, 0 ≤ x ∧ x ≤ 255 := by
  obtain ⟨h1, ⟨v, S, h2, h3, h4, h5⟩, h6, h7, h8⟩ := h
  exact fun x hx => wf8 (h3.wf x hx)

def NextPost (B : Nat) (bu bb : Nat) (l : List Int) (i : Nat) (w : World) (e : Ending) (w' : World) : Prop :=
  e = .returned (.int .i64 (Pn.byte l i)) ∧ Src B w' bu bb l (i + 1) ∧ Keeps [bu] w w'
theorem plan_next (B : Nat) (w : World) (bu bb : Nat) (l : List Int) (i : Nat) (h : Src B w bu bb l i) :
    Calls Try.prog 86 #[.pointer (some ⟨bu, 0, none⟩), .pointer (some ⟨bb, 0, none⟩)] w (NextPost B bu bb l i w) := by
  have H := Lib.hid h
  obtain ⟨h1, ⟨v, S, h2, h3, h4, h5⟩, h6, h7, h8⟩ := h
  have hle := h3.le
  unfold maxLen at hle
  obtain ⟨ao, cap, rfl⟩ := h3.shape
  have cu : w.cell? ⟨bu, 0, none⟩ = some (.int .i64 ((min i l.length : Nat) : Int)) := h1.cell 0
  have fu : w.frozen? ⟨bu, 0, none⟩ = false := h1.free 0
  have cb : w.cell? ⟨bb, 0, none⟩ = some (.slice ao l.length cap) := h2.cell 0
  by_cases hlt : i < l.length
  · obtain ⟨g, off, rfl, hgS, _, hc⟩ := h3.num hlt
    have hr := wf8 (h3.wf _ (List.getElem_mem hlt))
    have e : l[i] = Pn.byte l i := by simp [Pn.byte, List.getD, hlt]
    rw [e] at hr
    rw [Pn.byte_get hlt] at hc
    have hgu : g ≠ bu := fun h => h4 (h ▸ hgS)
    have hmin : min i l.length = i := by omega
    rw [hmin] at cu
    have HE : Hid (Src B (w.setCell ⟨bu, 0, none⟩ (.int .i64 ((i + 1 : Nat) : Int))) bu bb l (i + 1)) := Lib.hid (by
      have k : Keeps [bu] w (w.setCell ⟨bu, 0, none⟩ (.int .i64 ((i + 1 : Nat) : Int))) := (Keeps.refl _ w).setCell (by simp) _
      refine ⟨?_, ⟨_, S, h2.keep k (by simpa using Ne.symm h6), h3.keep (numE_kept _) k (fun x hx hm => by simp at hm; subst hm; exact h4 hx), h4, h5⟩, h6, h7, h8⟩
      have := h1.set 0 (.int .i64 ((i + 1 : Nat) : Int))
      rw [show min (i + 1) l.length = i + 1 by omega]
      simpa using this)
    generalize hx : Pn.byte l i = x at *
    have HX := Lib.hid hx
    obtain ⟨r0, r1⟩ := hr
    have hbb : bb ≠ bu := Ne.symm h6
    clear h1 h2 h3 h4 h5 e hmin h7 h8 hx
    go_enter Try.func86, Try.ntmps86
    go_wp2_with fail
    go_ret
    exact ⟨by rw [HX.out]; rfl, HE.out, (Keeps.refl _ w).setCell (by simp) _⟩
  · have hge : l.length ≤ i := by omega
    have HB := Lib.hid (Pn.byte_out hge)
    have hmin : min i l.length = l.length := by omega
    rw [hmin] at cu
    have HE : Hid (Src B w bu bb l (i + 1)) := Lib.hid (by
      obtain ⟨h1, hr⟩ := H.out
      refine ⟨?_, hr⟩
      rw [show min (i + 1) l.length = min i l.length by omega]
      exact h1)
    clear h1 h2 h3 h4 h5 hmin
    go_enter Try.func86, Try.ntmps86
    go_wp2_with fail
    go_ret
    exact ⟨by rw [HB.out]; rfl, HE.out, Keeps.refl _ w⟩
end Go.Proofs.Ytopkfhmdgheghaa
