/-
  Contracts of handoffref08: the document's answer for bench.
  Conditions: none.
-/
import Derived.Test.YtgpcmifbkbgbjaaBenchWakes
namespace Go.Proofs.Ytgpcmifbkbgbjaa
open Go.RowKit
set_option linter.unusedVariables false
set_option linter.unusedSimpArgs false
set_option linter.unnecessarySimpa false

theorem elemSeat : Elem Try.prog 70 79 2 16 (.agg #[.int .i64 0, .bool false]) := ⟨Try.underlying70, by kernel_rfl, rfl, by decide, by decide⟩
theorem oc_one (o : Int × Bool) : ∀ y ∈ oneC o, y.oneCell' = true := by intro y hy; simp [oneC] at hy; rcases hy with rfl | rfl <;> rfl
theorem oc_ones (l : List (Int × Bool)) : ∀ y ∈ l.flatMap oneC, y.oneCell' = true := by intro y hy; obtain ⟨o, _, ho⟩ := List.mem_flatMap.1 hy; exact oc_one o y ho

/-- what the walk asks of a seat -/
theorem EV.mem {w : World} {ao : Option Addr} {cap : Nat} {l : List (Int × Bool)} {S : List Nat} (h : EV oneC 2 w (.slice ao l.length cap) l S) {i : Int} (hi : Bc.has l i = true) :
    ∃ n : Nat, i = n ∧ n < l.length ∧ ∃ g off, ao = some ⟨g, off, none⟩ ∧ S = [g] ∧ g < w.heap.size ∧
      w.cell? ⟨g, off + n * 2, none⟩ = some (.int .i64 (Bc.mem l i).1) ∧ w.cell? ⟨g, off + n * 2 + 1, none⟩ = some (.bool (Bc.mem l i).2) ∧ l[n]? = some (Bc.mem l i) := by
  simp only [Bc.has, Bool.and_eq_true, decide_eq_true_eq] at hi
  obtain ⟨n, rfl⟩ := Int.eq_ofNat_of_zero_le hi.1
  have hn : n < l.length := by omega
  obtain ⟨g, off, rfl, rfl, hg, hc⟩ := h.cells oneC_len (by omega)
  have hx : l[n]? = some (Bc.mem l n) := by simp [Bc.mem, List.getD, hn]
  refine ⟨n, rfl, hn, g, off, rfl, rfl, hg, ?_, ?_, hx⟩
  · exact hc n _ 0 hx (by omega)
  · rw [Nat.add_assoc]; exact hc n _ 1 hx (by omega)

theorem ref08_is (w : World) (v : Value) (l : List (Int × Bool)) (S : List Nat) (i s : Int) (h : EV oneC 2 w v l S) (hs : s ≠ 2) :
    Calls Try.prog 57 #[v, .int .i64 i, .int .i64 s] w fun e w' => e = .returned (.bool (Bc.status l i == s)) ∧ w = w' := by
  have hm := h.le
  unfold maxLen at hm
  obtain ⟨ao, cap, rfl⟩ := h.shape
  cases h1 : Bc.has l i with
  | true =>
    obtain ⟨n, rfl, hn, g, off, rfl, rfl, hg, c1, c2, hx⟩ := h.mem h1
    have HF : Hid ((Bc.status l n == s) = ((Bc.mem l n).1 == s)) := Lib.hid (by simp [Bc.status, h1])
    clear h hx h1 c2
    generalize Bc.mem l n = o at *
    go_enter Try.func57, Try.ntmps57
    go_wp2_with fail
    go_ret
    exact ⟨ret_bool HF.out.symm, rfl⟩
  | false =>
    have HF : Hid ((Bc.status l i == s) = false) := Lib.hid (Bc.no h1 hs)
    by_cases h2 : 0 ≤ i
    · have h3 : decide (i < (l.length : Int)) = false := by simp [Bc.has, h2] at h1; simpa using h1
      clear h h1
      go_enter Try.func57, Try.ntmps57
      go_wp2_with fail
      go_ret
      exact ⟨ret_bool HF.out.symm, rfl⟩
    · clear h h1
      go_enter Try.func57, Try.ntmps57
      go_wp2_with fail
      go_ret
      exact ⟨ret_bool HF.out.symm, rfl⟩

def NewSeats (r : List (Int × Bool)) (w : World) (e : Ending) (w' : World) : Prop :=
  ∃ v S, e = .returned v ∧ Keeps [] w w' ∧ EV oneC 2 w' v r S ∧ ∀ k ∈ S, w.heap.size ≤ k

set_option maxHeartbeats 400000 in
theorem ref08_with (w : World) (v : Value) (l : List (Int × Bool)) (S : List Nat) (n : Nat) (s : Int) (t : Bool) (h : EV oneC 2 w v l S) (hn : n < l.length) (hb : l.length ≤ 5000) :
    Calls Try.prog 58 #[v, .int .i64 n, .agg #[.int .i64 s, .bool t]] w (NewSeats (l.set n (s, t)) w) := by
  obtain ⟨ao, cap, rfl⟩ := h.shape
  have H := Lib.hid h
  have HB := Lib.hid hb
  have hbb : l.length ≤ 17592186044416 := by omega
  have HL : Hid (ER oneC 2 ((w.alloc (.cells #[.int .i64 s, .bool t] 79)).alloc (.cells #[] 79)) (.slice (some ⟨w.heap.size + 1, 0, none⟩) 0 0) 79 [] [w.heap.size + 1]) := Lib.hid (ER.lit _ _ _ _ _ (by simp))
  have hK0 : Keeps [] w ((w.alloc (.cells #[.int .i64 s, .bool t] 79)).alloc (.cells #[] 79)) := ((Keeps.refl [] w).alloc _).alloc _
  have cb0 : ((w.alloc (.cells #[.int .i64 s, .bool t] 79)).alloc (.cells #[] 79)).cell? ⟨w.heap.size, 0, none⟩ = some (.int .i64 s) := ((Blk.new w [.int .i64 s, .bool t] 79).alloc _).cell 0
  have cb1 : ((w.alloc (.cells #[.int .i64 s, .bool t] 79)).alloc (.cells #[] 79)).cell? ⟨w.heap.size, 1, none⟩ = some (.bool t) := ((Blk.new w [.int .i64 s, .bool t] 79).alloc _).cell 1
  have HK0 := Lib.hid hK0
  have HC0 := Lib.hid cb0
  have HC1 := Lib.hid cb1
  clear h hb hK0 cb0 cb1
  go_enter Try.func58, Try.ntmps58
  go_wp2_with (at_builtin; go_must (refine wp_app elemSeat HL.out (View.alloc2 H.out _ _) (oc_ones l) (by have := HB.out; simp; omega) ?_))
  intro ao1 cap1 w1 S1 r1 k1 s1

  have r1' : ER oneC 2 w1 (.slice ao1 l.length cap1) 79 l S1 := r1
  obtain ⟨g, off, rfl, rfl, hg, hc, hf⟩ := r1'.cells oneC_len (by omega)
  obtain ⟨o, ho⟩ : ∃ o, l[n]? = some o := ⟨_, List.getElem?_eq_getElem hn⟩
  have c1 : w1.cell? ⟨g, off + n * 2, none⟩ = some (.int .i64 o.1) := hc n o 0 ho (by omega)
  have c2 : w1.cell? ⟨g, off + n * 2 + 1, none⟩ = some (.bool o.2) := by rw [Nat.add_assoc]; exact hc n o 1 ho (by omega)
  have f1 : w1.frozen? ⟨g, off + n * 2, none⟩ = false := hf _
  have f2 : w1.frozen? ⟨g, off + n * 2 + 1, none⟩ = false := by rw [Nat.add_assoc]; exact hf _
  have hlt1 : w.heap.size + 1 ≤ g := by rcases s1 g (by simp) with h | h <;> first | (simp at h; omega) | omega
  have cb0 : w1.cell? ⟨w.heap.size, 0, none⟩ = some (.int .i64 s) := k1.cell HC0.out (by simp)
  have cb1 : w1.cell? ⟨w.heap.size, 1, none⟩ = some (.bool t) := k1.cell HC1.out (by simp)
  have hs1 := r1'.stored (k := n) (j := 0) (x' := (s, o.2)) (u := .int .i64 s) oneC_len ho (by omega) rfl
  have hs2 := hs1.1
  rw [show (.slice (some ⟨g, off, none⟩) l.length cap1 : Value) = .slice (some ⟨g, off, none⟩) (l.set n (s, o.2)).length cap1 by rw [List.length_set]] at hs2
  have hs3 := hs2.stored (k := n) (j := 1) (x := (s, o.2)) (x' := (s, t)) (u := .bool t) oneC_len (by simp [hn]) (by omega) rfl
  have HE := Lib.hid hs3.1.ev
  have HKK : Hid (Keeps [] w ((w1.setCell ⟨g, off + (n * 2 + 0), none⟩ (.int .i64 s)).setCell ⟨g, off + (n * 2 + 1), none⟩ (.bool t))) := Lib.hid ((HK0.out.trans k1 (fun x hx => by simp at hx; omega)).trans (hs1.2.trans hs3.2 (fun x hx => .inl hx)) (fun x hx => by simp at hx; omega))
  rw [List.length_set, List.set_set] at HE
  rw [← Nat.add_assoc] at HE HKK
  rw [Nat.add_zero] at HE HKK
  clear r1 r1' k1 s1 hc hf ho hs1 hs2 hs3
  go_wp2_with fail
  go_ret
  exact ⟨_, [g], rfl, HKK.out, HE.out, by intro x hx; simp at hx; omega⟩
end Go.Proofs.Ytgpcmifbkbgbjaa
