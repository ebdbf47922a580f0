/-
  The small functions of plan and of its document: contracts.
  Conditions: none.
-/
import Derived.Test.YtgjpdogjekmemaaDoorPlanE
namespace Go.Proofs.YtgjpdogjekmemaaDoor
open Go.RowKit
set_option linter.unusedVariables false
set_option linter.unusedSimpArgs false
set_option linter.unnecessarySimpa false

theorem plan_hasCh (w : World) (k : Int) : Calls Tryd.prog 37 #[.int .i64 k] w fun e w' => e = .returned (.bool (Pn.hasCh k)) ∧ w = w' := by
  go_enter Tryd.func37, Tryd.ntmps37
  go_wp2_with fail
  all_goals
    go_ret
    exact ⟨ret_bool (by simp [Pn.hasCh, *] <;> omega), rfl⟩
theorem plan_hasV (w : World) (k : Int) : Calls Tryd.prog 38 #[.int .i64 k] w fun e w' => e = .returned (.bool (Pn.hasV k)) ∧ w = w' := by
  go_enter Tryd.func38, Tryd.ntmps38
  go_wp2_with fail
  all_goals
    go_ret
    exact ⟨ret_bool (by simp [Pn.hasV, *]), rfl⟩
theorem ref10_hasCh (w : World) (k : Int) : Calls Tryd.prog 40 #[.int .i64 k] w fun e w' => e = .returned (.bool (Pn.hasCh k)) ∧ w = w' := by
  go_enter Tryd.func40, Tryd.ntmps40
  go_wp2_with fail
  all_goals
    go_ret
    exact ⟨ret_bool (by simp [Pn.hasCh, *] <;> omega), rfl⟩
theorem ref10_hasV (w : World) (k : Int) : Calls Tryd.prog 27 #[.int .i64 k] w fun e w' => e = .returned (.bool (Pn.hasV k)) ∧ w = w' := by
  go_enter Tryd.func27, Tryd.ntmps27
  go_wp2_with fail
  all_goals
    go_ret
    exact ⟨ret_bool (by simp [Pn.hasV, *]), rfl⟩
/-- within -/
def Pn.within (has : Bool) (n most : Int) : Bool := if has then decide (0 ≤ n) && decide (n ≤ most) else n == 0
theorem plan_within (w : World) (b : Bool) (n most : Int) : Calls Tryd.prog 36 #[.bool b, .int .i64 n, .int .i64 most] w fun e w' => e = .returned (.bool (Pn.within b n most)) ∧ w = w' := by
  cases b with
  | true =>
    go_enter Tryd.func36, Tryd.ntmps36
    go_wp2_with fail
    all_goals
      go_ret
      exact ⟨ret_bool (by simp [Pn.within, *] <;> omega), rfl⟩
  | false =>
    go_enter Tryd.func36, Tryd.ntmps36
    go_wp2_with fail
    all_goals
      go_ret
      exact ⟨ret_bool (by simp [Pn.within, *] <;> omega), rfl⟩

theorem Pn.byte_get {l : List Int} {i : Nat} (h : i < l.length) : l.getD i 0 = Pn.byte l i := rfl
theorem Pn.byte_out {l : List Int} {i : Nat} (h : l.length ≤ i) : Pn.byte l i = 0 := by simp [Pn.byte, List.getD, List.getElem?_eq_none h]

/-- the source of bytes: used in bu, the bytes' slice in bb; all its blocks lie below B -/
def Src (B : Nat) (w : World) (bu bb : Nat) (l : List Int) (i : Nat) : Prop :=
  Blk w bu [.int .i64 ((min i l.length : Nat) : Int)] 3 ∧ (∃ v S, Blk w bb [v] 43 ∧ GV (numE .u8) 1 w v l S ∧ bu ∉ S ∧ ∀ x ∈ S, x < B) ∧ bu ≠ bb ∧ bu < B ∧ bb < B
theorem Src.keep {B : Nat} {w w' : World} {bu bb : Nat} {l : List Int} {i : Nat} {T : List Nat} (h : Src B w bu bb l i) (k : Keeps T w w') (hT : ∀ x ∈ T, B ≤ x) : Src B w' bu bb l i := by
  obtain ⟨h1, ⟨v, S, h2, h3, h4, h5⟩, h6, h7, h8⟩ := h
  exact ⟨h1.keep k (fun hm => by have := hT _ hm; omega), ⟨v, S, h2.keep k (fun hm => by have := hT _ hm; omega), h3.keep (numE_kept _) k (fun x hx hm => by have := hT _ hm; have := h5 x hx; omega), h4, h5⟩, h6, h7, h8⟩
theorem Src.range {B : Nat} {w : World} {bu bb : Nat} {l : List Int} {i : Nat} (h : Src B w bu bb l i) : ∀ x ∈ l, 0 ≤ x ∧ x ≤ 255 := by
  obtain ⟨h1, ⟨v, S, h2, h3, h4, h5⟩, h6, h7, h8⟩ := h
  exact fun x hx => wf8 (h3.wf x hx)

def NextPost (B : Nat) (bu bb : Nat) (l : List Int) (i : Nat) (w : World) (e : Ending) (w' : World) : Prop :=
  e = .returned (.int .i64 (Pn.byte l i)) ∧ Src B w' bu bb l (i + 1) ∧ Keeps [bu] w w'
end Go.Proofs.YtgjpdogjekmemaaDoor
