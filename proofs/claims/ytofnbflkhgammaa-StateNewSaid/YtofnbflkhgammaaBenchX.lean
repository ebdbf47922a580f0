/-
  Contracts of package bench.
  Conditions: none.
-/
import Derived.Test.YtofnbflkhgammaaCore
import Derived.Test.YtofnbflkhgammaaLatchX
/- Bench -/
namespace Go.Proofs.Ytofnbflkhgammaa
open Go.RowKit
set_option linter.unusedVariables false
set_option linter.unusedSimpArgs false
set_option linter.unnecessarySimpa false

/-- an element's cells: status, token -/
def oneC (o : Int × Bool) : List Value := [.int .i64 o.1, .bool o.2]
theorem oneC_len (o : Int × Bool) : (oneC o).length = 2 := rfl

/-- p is a Bench whose members are l; S: its blocks -/
def Bn (w : World) (p : Value) (l : List (Int × Bool)) (S : List Nat) : Prop :=
  ∃ b v T, p = .pointer (some ⟨b, 0, none⟩) ∧ Blk w b [v] 107 ∧ ER oneC 2 w v 115 l T ∧ b ∉ T ∧ S = b :: T

section
variable {w w' : World} {p : Value} {l : List (Int × Bool)} {S T : List Nat}
theorem Bn.keep (h : Bn w p l S) (k : Keeps T w w') (hn : ∀ x ∈ S, x ∉ T) : Bn w' p l S := by
  obtain ⟨b, v, U, rfl, hb, hr, hd, rfl⟩ := h
  exact ⟨b, v, U, rfl, hb.keep k (hn b (by simp)), hr.keep k (fun x hx => hn x (by simp [hx])), hd, rfl⟩
theorem Bn.then (h : Bn w p l S) (k : Keeps [] w w') : Bn w' p l S := h.keep k (by simp)
theorem Bn.drewN (h : Bn w p l S) (n : Nat) : Bn (w.drewN n) p l S := h.then ((Keeps.refl [] w).drewN n)
theorem Bn.alloc (h : Bn w p l S) (o : Obj) : Bn (w.alloc o) p l S := h.then ((Keeps.refl [] w).alloc o)
theorem Bn.lt (h : Bn w p l S) : ∀ k ∈ S, k < w.heap.size := by
  obtain ⟨b, v, U, rfl, hb, hr, hd, rfl⟩ := h
  intro k hk
  rcases List.mem_cons.1 hk with rfl | hk
  · exact hb.lt
  · exact hr.lt k hk
theorem Bn.shape (h : Bn w p l S) : ∃ b, p = .pointer (some ⟨b, 0, none⟩) := by
  obtain ⟨b, v, U, rfl, _⟩ := h; exact ⟨b, rfl⟩
theorem Bn.le (h : Bn w p l S) : l.length ≤ maxLen := by
  obtain ⟨b, v, U, rfl, hb, hr, hd, rfl⟩ := h; exact hr.le
end

namespace Bc
def has (l : List (Int × Bool)) (g : Int) : Bool := decide (0 ≤ g) && decide (g < l.length)
def mem (l : List (Int × Bool)) (g : Int) : Int × Bool := l.getD g.toNat (0, false)
def status (l : List (Int × Bool)) (g : Int) : Int := if has l g then (mem l g).1 else 2
def token (l : List (Int × Bool)) (g : Int) : Bool := has l g && (mem l g).2
def parkOk (l : List (Int × Bool)) (g : Int) : Bool := (status l g == 0) && !(mem l g).2
def parkL (l : List (Int × Bool)) (g : Int) : List (Int × Bool) := if status l g = 0 then (if (mem l g).2 then l.set g.toNat (0, false) else l.set g.toNat (1, false)) else l
def readyOk (l : List (Int × Bool)) (g : Int) : Bool := (status l g == 1) || ((status l g == 0) && !(mem l g).2)
def readyL (l : List (Int × Bool)) (g : Int) : List (Int × Bool) := if status l g = 1 then l.set g.toNat (0, (mem l g).2) else if status l g = 0 then l.set g.toNat (0, true) else l
def endOk (l : List (Int × Bool)) (g : Int) : Bool := status l g == 0
def endL (l : List (Int × Bool)) (g : Int) : List (Int × Bool) := if status l g = 0 then l.set g.toNat (2, false) else l
def setOk (l : List (Int × Bool)) (g s : Int) : Bool := has l g && decide (0 ≤ s) && decide (s ≤ 2)
def setL (l : List (Int × Bool)) (g s : Int) (t : Bool) : List (Int × Bool) := if setOk l g s then l.set g.toNat (s, t) else l
def runFrom : Nat → List (Int × Bool) → List Int
  | _, [] => []
  | k, o :: r => (if o.1 = 0 then [(k : Int)] else []) ++ runFrom (k + 1) r
def running (l : List (Int × Bool)) : List Int := runFrom 0 l
end Bc

theorem bench_there (w : World) (p : Value) (l : List (Int × Bool)) (S : List Nat) (i : Int) (h : Bn w p l S) :
    Calls Try.prog 40 #[p, .int .i64 i] w fun e w' => e = .returned (.bool (Bc.has l i)) ∧ w = w' := by
  obtain ⟨b, v, U, rfl, hb, hr, hd, rfl⟩ := h
  have hm := hr.le
  unfold maxLen at hm
  obtain ⟨ao, cap, rfl⟩ := hr.shape
  have c0 : w.cell? ⟨b, 0, none⟩ = some (.slice ao l.length cap) := hb.cell 0
  clear hb hr hd
  cases h1 : decide (0 ≤ i) with
  | true =>
    go_enter Try.func40, Try.ntmps40
    go_wp2
    go_ret
    exact ⟨ret_bool (by simp [Bc.has, h1]), rfl⟩
  | false =>
    go_enter Try.func40, Try.ntmps40
    go_wp2
    go_ret
    exact ⟨ret_bool (by simp [Bc.has, h1]), rfl⟩

/-- a bench's memory: the struct b, the members' block g -/
def Brw (w : World) (b g off cap : Nat) (l : List (Int × Bool)) : Prop :=
  Blk w b [.slice (some ⟨g, off, none⟩) l.length cap] 107 ∧ ER oneC 2 w (.slice (some ⟨g, off, none⟩) l.length cap) 115 l [g] ∧ b ≠ g
theorem Brw.bn {w : World} {b g off cap : Nat} {l : List (Int × Bool)} (h : Brw w b g off cap l) : Bn w (.pointer (some ⟨b, 0, none⟩)) l [b, g] :=
  ⟨b, _, [g], rfl, h.1, h.2.1, by simpa using h.2.2, rfl⟩
theorem Brw.st {w : World} {b g off cap n : Nat} {l : List (Int × Bool)} {o : Int × Bool} (h : Brw w b g off cap l) (hx : l[n]? = some o) (s : Int) : Brw (w.setCell ⟨g, off + n * 2, none⟩ (.int .i64 s)) b g off cap (l.set n (s, o.2)) := by
  obtain ⟨h1, h2, h3⟩ := h
  refine ⟨?_, ?_, h3⟩
  · rw [List.length_set]; exact h1.other h3 _
  · rw [List.length_set]; exact (h2.stored (j := 0) (x' := (s, o.2)) (u := .int .i64 s) oneC_len hx (by omega) rfl).1
theorem Brw.tk {w : World} {b g off cap n : Nat} {l : List (Int × Bool)} {o : Int × Bool} (h : Brw w b g off cap l) (hx : l[n]? = some o) (t : Bool) : Brw (w.setCell ⟨g, off + n * 2 + 1, none⟩ (.bool t)) b g off cap (l.set n (o.1, t)) := by
  obtain ⟨h1, h2, h3⟩ := h
  refine ⟨?_, ?_, h3⟩
  · rw [List.length_set]; exact h1.other h3 _
  · rw [List.length_set, Nat.add_assoc]; exact (h2.stored (j := 1) (x' := (o.1, t)) (u := .bool t) oneC_len hx (by omega) rfl).1
theorem Brw.both {w : World} {b g off cap n : Nat} {l : List (Int × Bool)} {o : Int × Bool} (h : Brw w b g off cap l) (hx : l[n]? = some o) (s : Int) (t : Bool) :
    Brw ((w.setCell ⟨g, off + n * 2, none⟩ (.int .i64 s)).setCell ⟨g, off + n * 2 + 1, none⟩ (.bool t)) b g off cap (l.set n (s, t)) := by
  have hn := (List.getElem?_eq_some_iff.1 hx).1
  have := (h.st hx s).tk (n := n) (o := (s, o.2)) (by simp [hn]) t
  simpa using this

/-- what the walk asks of a member -/
theorem Bn.at {w : World} {b : Nat} {l : List (Int × Bool)} {S : List Nat} (h : Bn w (.pointer (some ⟨b, 0, none⟩)) l S) {i : Int} (hi : Bc.has l i = true) :
    ∃ n : Nat, i = n ∧ n < l.length ∧ l.length ≤ 9223372036854775807 ∧ ∃ g off cap, S = [b, g] ∧ b ≠ g ∧ w.cell? ⟨b, 0, none⟩ = some (.slice (some ⟨g, off, none⟩) l.length cap) ∧
      w.cell? ⟨g, off + n * 2, none⟩ = some (.int .i64 (Bc.mem l i).1) ∧ w.cell? ⟨g, off + n * 2 + 1, none⟩ = some (.bool (Bc.mem l i).2) ∧
      w.frozen? ⟨g, off + n * 2, none⟩ = false ∧ w.frozen? ⟨g, off + n * 2 + 1, none⟩ = false ∧ Brw w b g off cap l ∧ l[n]? = some (Bc.mem l i) := by
  obtain ⟨b', v, U, hbb, hb, hr, hd, rfl⟩ := h
  obtain rfl : b = b' := by simpa using hbb
  have hm := hr.le
  unfold maxLen at hm
  obtain ⟨ao, cap, rfl⟩ := hr.shape
  simp only [Bc.has, Bool.and_eq_true, decide_eq_true_eq] at hi
  obtain ⟨n, rfl⟩ := Int.eq_ofNat_of_zero_le hi.1
  have hn : n < l.length := by omega
  obtain ⟨g, off, rfl, rfl, hg, hc, hf⟩ := hr.cells oneC_len (by omega)
  have hx : l[n]? = some (Bc.mem l n) := by simp [Bc.mem, List.getD, hn]
  have hbg : b ≠ g := by simpa using hd
  refine ⟨n, rfl, hn, hm, g, off, cap, rfl, hbg, hb.cell 0, ?_, ?_, hf _, by rw [Nat.add_assoc]; exact hf _, ⟨hb, hr, hbg⟩, hx⟩
  · exact hc n _ 0 hx (by omega)
  · rw [Nat.add_assoc]; exact hc n _ 1 hx (by omega)

theorem bench_status (w : World) (p : Value) (l : List (Int × Bool)) (S : List Nat) (i : Int) (h : Bn w p l S) :
    Calls Try.prog 27 #[p, .int .i64 i] w fun e w' => e = .returned (.int .i64 (Bc.status l i)) ∧ w = w' := by
  obtain ⟨b, rfl⟩ := h.shape
  have H := Lib.hid h
  cases h1 : Bc.has l i with
  | true =>
    obtain ⟨n, rfl, hn, hm, g, off, cap, rfl, hbg, c0, c1, c2, f1, f2, hraw, hx⟩ := h.at h1
    have HF : Hid (Bc.status l n = (Bc.mem l n).1) := Lib.hid (by simp [Bc.status, h1])
    clear f1 f2 hraw hx h c2
    generalize Bc.mem l n = o at *
    go_enter Try.func27, Try.ntmps27
    go_wp2_with fail
    refine (bench_there _ _ _ _ _ H.out).mono ?_
    rintro e w1 ⟨rfl, rfl⟩
    rw [h1]
    go_wp2_with fail
    go_ret
    exact ⟨ret_int HF.out.symm, rfl⟩
  | false =>
    have HF : Hid (Bc.status l i = 2) := Lib.hid (by simp [Bc.status, h1])
    clear h
    go_enter Try.func27, Try.ntmps27
    go_wp2_with fail
    refine (bench_there _ _ _ _ _ H.out).mono ?_
    rintro e w1 ⟨rfl, rfl⟩
    rw [h1]
    go_wp2_with fail
    go_ret
    exact ⟨ret_int HF.out.symm, rfl⟩

theorem bench_token (w : World) (p : Value) (l : List (Int × Bool)) (S : List Nat) (i : Int) (h : Bn w p l S) :
    Calls Try.prog 28 #[p, .int .i64 i] w fun e w' => e = .returned (.bool (Bc.token l i)) ∧ w = w' := by
  obtain ⟨b, rfl⟩ := h.shape
  have H := Lib.hid h
  cases h1 : Bc.has l i with
  | true =>
    obtain ⟨n, rfl, hn, hm, g, off, cap, rfl, hbg, c0, c1, c2, f1, f2, hraw, hx⟩ := h.at h1
    have HF : Hid (Bc.token l n = (Bc.mem l n).2) := Lib.hid (by simp [Bc.token, h1])
    clear f1 f2 hraw hx h c1
    generalize Bc.mem l n = o at *
    go_enter Try.func28, Try.ntmps28
    go_wp2_with fail
    refine (bench_there _ _ _ _ _ H.out).mono ?_
    rintro e w1 ⟨rfl, rfl⟩
    rw [h1]
    go_wp2_with fail
    go_ret
    exact ⟨ret_bool HF.out.symm, rfl⟩
  | false =>
    have HF : Hid (Bc.token l i = false) := Lib.hid (by simp [Bc.token, h1])
    clear h
    go_enter Try.func28, Try.ntmps28
    go_wp2_with fail
    refine (bench_there _ _ _ _ _ H.out).mono ?_
    rintro e w1 ⟨rfl, rfl⟩
    rw [h1]
    go_wp2_with fail
    go_ret
    exact ⟨ret_bool HF.out.symm, rfl⟩

/-- a method that answers ok and leaves the list l' -/
def BPost (p : Value) (ok : Bool) (l' : List (Int × Bool)) (S : List Nat) (w : World) (e : Ending) (w' : World) : Prop :=
  e = .returned (.bool ok) ∧ Bn w' p l' S ∧ Keeps S w w'
theorem BPost.same {w : World} {p : Value} {ok : Bool} {l l' : List (Int × Bool)} {S : List Nat} {b : Bool} (h : Bn w p l S) (h1 : ok = b) (h2 : l' = l) : BPost p ok l' S w (.returned (.bool b)) w := by
  subst h1 h2; exact ⟨rfl, h, Keeps.refl _ _⟩
/-- the status is not s: the method looks away -/
theorem Bc.no {l : List (Int × Bool)} {i s : Int} (h : Bc.has l i = false) (hs : s ≠ 2) : (Bc.status l i == s) = false := by
  simp [Bc.status, h]; omega

end Go.Proofs.Ytofnbflkhgammaa
/- BenchB -/
namespace Go.Proofs.Ytofnbflkhgammaa
open Go.RowKit
set_option linter.unusedVariables false
set_option linter.unusedSimpArgs false
set_option linter.unnecessarySimpa false

namespace Bc
theorem runFrom_append : ∀ (l : List (Int × Bool)) (k : Nat) (o : Int × Bool), runFrom k (l ++ [o]) = runFrom k l ++ (if o.1 = 0 then [((k + l.length : Nat) : Int)] else [])
  | [], k, o => by simp [runFrom]
  | x :: r, k, o => by
    simp only [List.cons_append, runFrom, runFrom_append r (k + 1) o, List.append_assoc, List.length_cons]
    rw [show k + 1 + r.length = k + (r.length + 1) by omega]
theorem runFrom_len : ∀ (l : List (Int × Bool)) (k : Nat), (runFrom k l).length ≤ l.length
  | [], k => by simp [runFrom]
  | x :: r, k => by
    have := runFrom_len r (k + 1)
    simp only [runFrom, List.length_append, List.length_cons]
    split <;> simp <;> omega
theorem running_take (l : List (Int × Bool)) (k : Nat) (o : Int × Bool) (h : l[k]? = some o) : running (l.take (k + 1)) = running (l.take k) ++ (if o.1 = 0 then [(k : Int)] else []) := by
  obtain ⟨hk, rfl⟩ := List.getElem?_eq_some_iff.1 h
  rw [List.take_succ_eq_append_getElem hk]
  unfold running
  rw [runFrom_append]
  have e : (0 + (l.take k).length : Nat) = k := by simp; omega
  rw [e]
end Bc

/-- a new slice of numbers -/
def NewIntsB (r : List Int) (w : World) (e : Ending) (w' : World) : Prop :=
  ∃ v S, e = .returned v ∧ Keeps [] w w' ∧ IV w' v r S ∧ ∀ k ∈ S, w.heap.size ≤ k

theorem elemOne : Elem Try.prog 105 115 2 16 (.agg #[.int .i64 0, .bool false]) := ⟨Try.underlying105, by kernel_rfl, rfl, by decide, by decide⟩

namespace Bc
def newL (n : Int) : List (Int × Bool) := List.replicate (max 0 (min n 4096)).toNat (0, false)
end Bc
def BNewPost (n : Int) (w : World) (e : Ending) (w' : World) : Prop :=
  ∃ p S, e = .returned p ∧ Keeps [] w w' ∧ Bn w' p (Bc.newL n) S ∧ ∀ k ∈ S, w.heap.size ≤ k

theorem bench_new (w : World) (n : Int) : Calls Try.prog 12 #[.int .i64 n] w (BNewPost n w) := by
  obtain ⟨N, hN⟩ : ∃ N : Nat, (N : Int) = max 0 (min n 4096) := ⟨(max 0 (min n 4096)).toNat, Int.toNat_of_nonneg (by omega)⟩
  have hN2 : N ≤ 4096 := by omega
  have hfin : Bc.newL n = List.replicate N (0, false) := by unfold Bc.newL; rw [← hN]; simp
  have HN := Lib.hid hN
  have HN2 := Lib.hid hN2
  have HF := Lib.hid hfin
  clear hN hN2 hfin
  go_enter Try.func12, Try.ntmps12
  go_wp2_with (at_make; go_must (refine wp_make elemOne N (by have := HN2.out; omega) ?_ (hL := by have := HN.out; split <;> split <;> omega) (hC := by have := HN.out; split <;> split <;> omega)); intro w1 r1 k1; have R1 := Lib.hid r1; have K1 := Lib.hid k1; clear r1 k1; generalize (if 0 < if 4096 < n then 4096 else n then if 4096 < n then 4096 else n else (0 : Int)) = z1; generalize (if 4096 < n then (4096 : Int) else n) = z2)
  go_ret
  have r1 := ER.made oneC_len (x0 := (0, false)) rfl (by omega) R1.out
  have hlt : w.heap.size < w1.heap.size := R1.out.lt _ (by simp)
  refine ⟨.pointer (some ⟨w1.heap.size, 0, none⟩), [w1.heap.size, w.heap.size], rfl, K1.out.alloc _, ?_, by intro x hx; simp at hx; omega⟩
  rw [HF.out]
  refine ⟨_, _, [w.heap.size], rfl, Blk.new w1 _ _, ?_, by simp; omega, rfl⟩
  exact ER.then r1 ((Keeps.refl [] w1).alloc _)
end Go.Proofs.Ytofnbflkhgammaa
