/-
  Contracts of package queue: Drop, Pop.
  Conditions: Qu.Inv.
-/
import Derived.Test.YtofnbflkhgammaaQueueB
namespace Go.Proofs.Ytofnbflkhgammaa
open Go.RowKit
set_option linter.unusedVariables false
set_option linter.unusedSimpArgs false
set_option linter.unnecessarySimpa false
attribute [local go_sem ↓] Go.wp_at_zero Go.wp_at_succ

namespace Qu
theorem last_mem' {a : List Int} (h : a ≠ []) : a.getLastD (-1) ∈ a := by
  rw [List.getLastD_eq_getLast?, List.getLast?_eq_some_getLast h]; exact List.getLast_mem h
theorem head_mem' {b : List Int} (h : b ≠ []) : b.headD (-1) ∈ b := by
  cases b with
  | nil => exact absurd rfl h
  | cons z r => simp
structure DropF (n : Nat) (R : List (List Int)) (k : Nat) (x : Int) (a b : List Int) : Prop where
  x0 : 0 ≤ x ∧ x < n
  tx : tc R x = ((k : Int), b.headD (-1), a.getLastD (-1))
  pa : a ≠ [] → 0 ≤ a.getLastD (-1) ∧ a.getLastD (-1) < n ∧ a.getLastD (-1) ≠ x ∧ tc R (a.getLastD (-1)) = ((k : Int), x, prv a (a.getLastD (-1)))
  hb : b ≠ [] → 0 ≤ b.headD (-1) ∧ b.headD (-1) < n ∧ b.headD (-1) ≠ x ∧ tc R (b.headD (-1)) = ((k : Int), nxt b (b.headD (-1)), x)
  ab : a ≠ [] → b ≠ [] → a.getLastD (-1) ≠ b.headD (-1)
  len : (a ++ x :: b).length ≤ 64
theorem dropF {n : Nat} {R : List (List Int)} {k : Nat} {x : Int} {a b : List Int} (v : Inv n R) (hk : k < R.length) (hl : R.getD k [] = a ++ x :: b) : DropF n R k x a b := by
  have ho : ∀ y, (a ++ x :: b).count y ≤ 1 := fun y => by rw [← hl]; exact Nat.le_trans (count_le hk y) (v.one y)
  have hbd : ∀ y, y ∈ a ++ x :: b → 0 ≤ y ∧ y < n := fun y hy => v.bound y (mem_flat hk (by rw [hl]; exact hy))
  have hof := fun y => tc_of v hk (y := y)
  rw [hl] at hof
  have cnt : ∀ y, a.count y + ((if x = y then 1 else 0) + b.count y) ≤ 1 := fun y => by
    have := ho y
    rw [List.count_append, List.count_cons] at this
    by_cases e : x = y
    · subst e; simp at this ⊢; omega
    · have e2 : (x == y) = false := by simpa using e
      rw [e2] at this
      rw [if_neg e]; simp at this; omega
  have hxa : x ∉ a := fun h => by have := List.count_pos_iff.2 h; have := cnt x; rw [if_pos rfl] at this; omega
  have hxb : x ∉ b := fun h => by have := List.count_pos_iff.2 h; have := cnt x; rw [if_pos rfl] at this; omega
  have hab : ∀ y, y ∈ a → y ∉ b := fun y h1 h2 => by
    have := List.count_pos_iff.2 h1; have := List.count_pos_iff.2 h2; have := cnt y; omega
  have ca : ∀ y, a.count y ≤ 1 := fun y => by have := cnt y; omega
  refine ⟨hbd x (by simp), ?_, fun h => ?_, fun h => ?_, fun h1 h2 e => hab _ (last_mem' h1) (by rw [e]; exact head_mem' h2), ?_⟩
  · rw [hof x (by simp), nxt_right hxa, prv, prvA_right hxa, nxt, if_pos rfl, prvA, if_pos rfl]
  · have hm := last_mem' h
    have h2 := hbd _ (List.mem_append_left _ hm)
    refine ⟨h2.1, h2.2, fun e => hxa (e ▸ hm), ?_⟩
    rw [hof _ (List.mem_append_left _ hm), nxt_left hm (ca _), if_pos rfl, prv_left hm]; rfl
  · have hm := head_mem' h
    have h2 := hbd _ (List.mem_append_right _ (List.mem_cons_of_mem _ hm))
    have hne : b.headD (-1) ≠ x := fun e => hxb (e ▸ hm)
    have hna : b.headD (-1) ∉ a := fun e => hab _ e hm
    refine ⟨h2.1, h2.2, hne, ?_⟩
    rw [hof _ (List.mem_append_right _ (List.mem_cons_of_mem _ hm)), nxt_right hna, prv, prvA_right hna, nxt, if_neg (fun e => hne e.symm), prvA, if_neg (fun e => hne e.symm), prvA_head (q := x) hm, if_pos rfl]
  · have := len_bound ho hbd
    have := v.n64
    omega
def drop (R : List (List Int)) (x : Int) : List (List Int) × Bool := match loc R x with
  | some k => (R.set k ((R.getD k []).filter (fun y => y != x)), true)
  | none => (R, false)
theorem filter_split {x : Int} {a b : List Int} (h1 : x ∉ a) (h2 : x ∉ b) : (a ++ x :: b).filter (fun y => y != x) = a ++ b := by
  rw [List.filter_append, List.filter_cons]
  have e1 : a.filter (fun y => y != x) = a := List.filter_eq_self.2 (fun y hy => by simp; exact fun e => h1 (e ▸ hy))
  have e2 : b.filter (fun y => y != x) = b := List.filter_eq_self.2 (fun y hy => by simp; exact fun e => h2 (e ▸ hy))
  rw [e1, e2]; simp
theorem drop_split {n : Nat} {R : List (List Int)} {x : Int} {k : Nat} (v : Inv n R) (h : loc R x = some k) : ∃ a b, k < R.length ∧ R.getD k [] = a ++ x :: b ∧ drop R x = (R.set k (a ++ b), true) := by
  obtain ⟨hk, hm⟩ := loc_some h
  obtain ⟨a, b, hl, hxa⟩ := split_at hm
  have ho : (a ++ x :: b).count x ≤ 1 := by rw [← hl]; exact Nat.le_trans (count_le hk x) (v.one x)
  have hxb : x ∉ b := fun hb => by
    have := List.count_pos_iff.2 hb
    rw [List.count_append, List.count_cons_self] at ho
    omega
  refine ⟨a, b, hk, hl, ?_⟩
  unfold drop
  rw [h]
  simp only [hl, filter_split hxa hxb]
theorem drop_inv' {n : Nat} {R : List (List Int)} (v : Inv n R) (x : Int) : Inv n (drop R x).1 := by
  cases h : loc R x with
  | none => unfold drop; rw [h]; exact v
  | some k =>
    obtain ⟨a, b, hk, hl, e⟩ := drop_split v h
    rw [e]; exact drop_inv v hk hl
end Qu

theorem blk_newq (w : World) (cs : List Value) (e : TypeId) (b : Nat) (hb : b = w.heap.size) : Blk (w.alloc (.cells cs.toArray e)) b cs e := by subst hb; exact Blk.new w cs e
theorem blk_new3 (w : World) (cs : List Value) (e : TypeId) : Blk (w.alloc (.cells cs.toArray e)) w.heap.size cs e := Blk.new w cs e
theorem QRaw.then {w w' : World} {b g1 o1 c1 g2 o2 c2 : Nat} {A B : List (Int × Int × Int)} (h : QRaw w b g1 o1 c1 g2 o2 c2 A B) (k : Keeps [] w w') : QRaw w' b g1 o1 c1 g2 o2 c2 A B :=
  ⟨h.1.keep k (by simp), h.2.1.then k, h.2.2.1.then k, h.2.2.2⟩
theorem Qu.headD_app2 {a b : List Int} {y : Int} (h : a ≠ []) : (a ++ b).headD (-1) = (a ++ y :: b).headD (-1) := by
  cases a with
  | nil => exact absurd rfl h
  | cons z r => rfl
theorem Qu.lastD_app {a b : List Int} (h : b ≠ []) : (a ++ b).getLastD (-1) = b.getLastD (-1) := by
  rw [List.getLastD_eq_getLast?, List.getLastD_eq_getLast?, List.getLast?_append, List.getLast?_eq_some_getLast h]; rfl
theorem Qu.lastD_cons {y : Int} {b : List Int} (h : b ≠ []) : (y :: b).getLastD (-1) = b.getLastD (-1) := by
  cases b with
  | nil => exact absurd rfl h
  | cons z r => simp [List.getLastD_eq_getLast?]

end Go.Proofs.Ytofnbflkhgammaa
