/-
  Contracts of package ring.
  Conditions: none.
-/
import Derived.Test.YtofnbflkhgammaaCore
/- Ring -/
namespace Go.Proofs.Ytofnbflkhgammaa
open Go.RowKit
set_option linter.unusedVariables false
set_option linter.unusedSimpArgs false
set_option linter.unnecessarySimpa false

namespace Rn
/-- the values of a ring -/
def vals (ps : List Int) (f c : Nat) : List Int := (List.range c).map fun i => ps.getD ((f + i) % ps.length) 0
theorem vals_len (ps : List Int) (f c : Nat) : (vals ps f c).length = c := by simp [vals]
theorem vals_get (ps : List Int) (f c i : Nat) (h : i < c) : (vals ps f c).getD i 0 = ps.getD ((f + i) % ps.length) 0 := by
  simp [vals, List.getD, h]
theorem mod_ne (N f i c : Nat) (hi : i < c) (hc : c < N) : (f + i) % N ≠ (f + c) % N := by
  intro h
  have h1 := Nat.div_add_mod (f + i) N
  have h2 := Nat.div_add_mod (f + c) N
  rw [h] at h1
  have h3 : N * ((f + c) / N) = N * ((f + i) / N) + (c - i) := by omega
  have h4 : (f + c) / N = (f + i) / N ∨ (f + i) / N + 1 ≤ (f + c) / N := by
    rcases Nat.lt_or_ge ((f + i) / N) ((f + c) / N) with h | h
    · right; omega
    · left
      have := Nat.div_le_div_right (c := N) (show f + i ≤ f + c by omega)
      omega
  rcases h4 with h4 | h4
  · rw [h4] at h3; omega
  · have := Nat.mul_le_mul_left N h4
    rw [Nat.mul_add] at this; omega
theorem getD_set_ne (l : List Int) (i j : Nat) (v : Int) (h : i ≠ j) : (l.set i v).getD j 0 = l.getD j 0 := by
  simp [List.getD, h]
theorem getD_set_eq (l : List Int) (i : Nat) (v : Int) (h : i < l.length) : (l.set i v).getD i 0 = v := by
  simp [List.getD, h]
theorem put (ps : List Int) (f c : Nat) (v : Int) (h : c < ps.length) : vals (ps.set ((f + c) % ps.length) v) f (c + 1) = vals ps f c ++ [v] := by
  have hp : 0 < ps.length := by omega
  unfold vals
  rw [List.range_succ, List.map_append]
  congr 1
  · apply List.map_congr_left
    intro i hi
    have hi' : i < c := by simpa using hi
    rw [List.length_set, getD_set_ne _ _ _ _ (fun e => mod_ne ps.length f i c hi' h e.symm)]
  · simp only [List.map_cons, List.map_nil, List.length_set]
    rw [getD_set_eq _ _ _ (Nat.mod_lt _ hp)]
theorem get (ps : List Int) (f c : Nat) (h : 0 < c) : vals ps ((f + 1) % ps.length) (c - 1) = (vals ps f c).tail := by
  apply List.ext_getElem
  · simp [vals]
  · intro i h1 h2
    simp only [vals, List.getElem_map, List.getElem_range, List.getElem_tail]
    congr 1
    rw [show f + (i + 1) = (f + 1) + i by omega, Nat.add_mod, Nat.mod_mod, ← Nat.add_mod]
theorem vals_len_eq (ps qs : List Int) (f c : Nat) (hl : ps.length = qs.length) (h : ∀ i, i < c → ps.getD ((f + i) % ps.length) 0 = qs.getD ((f + i) % ps.length) 0) : vals ps f c = vals qs f c := by
  unfold vals
  apply List.map_congr_left
  intro i hi
  rw [h i (by simpa using hi), hl]
theorem pass (ps : List Int) (f : Nat) (v : Int) (h : 0 < ps.length) (hf : f < ps.length) : vals (ps.set f v) ((f + 1) % ps.length) ps.length = (vals ps f ps.length).tail ++ [v] := by
  have e1 : vals (ps.set f v) ((f + 1) % ps.length) ps.length = vals ((ps.set f v).set (((f + 1) % ps.length + (ps.length - 1)) % ps.length) v) ((f + 1) % ps.length) (ps.length - 1 + 1) := by
    have hq : ((f + 1) % ps.length + (ps.length - 1)) % ps.length = f := by
      rw [Nat.add_mod, Nat.mod_mod, ← Nat.add_mod, show f + 1 + (ps.length - 1) = f + ps.length by omega, Nat.add_mod_right, Nat.mod_eq_of_lt hf]
    rw [hq, List.set_set, show ps.length - 1 + 1 = ps.length by omega]
  have hl : (ps.set f v).length = ps.length := by simp
  have e2 := put (ps.set f v) ((f + 1) % ps.length) (ps.length - 1) v (by rw [hl]; omega)
  rw [hl] at e2
  rw [e1, e2]
  congr 1
  have e3 := get ps f ps.length h
  rw [← e3]
  apply vals_len_eq
  · simp
  · intro i hi
    rw [hl]
    apply getD_set_ne
    intro e
    have : (f + 1 + i) % ps.length = f % ps.length := by
      rw [Nat.mod_eq_of_lt hf]
      rw [Nat.add_mod, Nat.mod_mod, ← Nat.add_mod] at e
      exact e.symm
    have h2 := mod_ne ps.length f 0 (i + 1) (by omega) (by omega)
    apply h2
    rw [Nat.add_zero, ← this, show f + (i + 1) = f + 1 + i by omega]
theorem start (l : List Int) (N : Nat) (h : l.length ≤ N) : vals (l ++ List.replicate (N - l.length) 0) 0 l.length = l := by
  apply List.ext_getElem
  · simp [vals]
  · intro i h1 h2
    simp only [vals, List.getElem_map, List.getElem_range, List.length_append, List.length_replicate]
    rw [Nat.zero_add, Nat.mod_eq_of_lt (by omega)]
    rw [List.getD_eq_getElem?_getD, List.getElem?_append_left h2]; simp [h2]
theorem head (ps : List Int) (f c : Nat) (h : 0 < c) (hf : f < ps.length) : (vals ps f c).headD 0 = ps.getD f 0 := by
  obtain ⟨k, rfl⟩ : ∃ k, c = k + 1 := ⟨c - 1, by omega⟩
  unfold vals
  rw [List.range_succ_eq_map]
  simp [Nat.mod_eq_of_lt hf]
def hd (l : List Int) : Int := l.headD 0
def passOk (N : Nat) (l : List Int) : Bool := decide (l.length = N) && !l.isEmpty
def passX (N : Nat) (l : List Int) : Int := if passOk N l then hd l else 0
def passL (N : Nat) (l : List Int) (v : Int) : List Int := if passOk N l then l.tail ++ [v] else l
def putL (N : Nat) (l : List Int) (v : Int) : List Int := if l.length < N then l ++ [v] else l
end Rn
end Go.Proofs.Ytofnbflkhgammaa
/- RingC -/
namespace Go.Proofs.Ytofnbflkhgammaa
open Go.RowKit
set_option linter.unusedVariables false
set_option linter.unusedSimpArgs false
set_option linter.unnecessarySimpa false

theorem elemInt64 : Elem Try.prog 77 2 1 8 (.int .i64 0) := ⟨Try.underlying77, by kernel_rfl, rfl, by decide, by decide⟩

/-- p is a ring of N places that holds l; S: its blocks. -/
def Rg (w : World) (p : Value) (N : Nat) (l : List Int) (S : List Nat) : Prop :=
  ∃ b v T ps f, p = .pointer (some ⟨b, 0, none⟩) ∧ Blk w b [v, .int .i64 ((f : Nat) : Int), .int .i64 l.length] 117 ∧ IR w v 2 ps T ∧ b ∉ T ∧ S = b :: T ∧
    ps.length = N ∧ N ≤ 64 ∧ l = Rn.vals ps f l.length ∧ l.length ≤ N ∧ (f < N ∨ (N = 0 ∧ f = 0))

section
variable {w w' : World} {p : Value} {N : Nat} {l : List Int} {S T : List Nat}
theorem Rg.keep (h : Rg w p N l S) (k : Keeps T w w') (hn : ∀ x ∈ S, x ∉ T) : Rg w' p N l S := by
  obtain ⟨b, v, U, ps, f, rfl, hb, hr, hd, rfl, h⟩ := h
  exact ⟨b, v, U, ps, f, rfl, hb.keep k (hn b (by simp)), hr.keep k (fun x hx => hn x (by simp [hx])), hd, rfl, h⟩
theorem Rg.then (h : Rg w p N l S) (k : Keeps [] w w') : Rg w' p N l S := h.keep k (by simp)
theorem Rg.drewN (h : Rg w p N l S) (n : Nat) : Rg (w.drewN n) p N l S := h.then ((Keeps.refl [] w).drewN n)
theorem Rg.drew (h : Rg w p N l S) : Rg w.drew p N l S := h.then ((Keeps.refl [] w).drew)
theorem Rg.alloc (h : Rg w p N l S) (o : Obj) : Rg (w.alloc o) p N l S := h.then ((Keeps.refl [] w).alloc o)
theorem Rg.lt (h : Rg w p N l S) : ∀ k ∈ S, k < w.heap.size := by
  obtain ⟨b, v, U, ps, f, rfl, hb, hr, hd, rfl, h⟩ := h
  intro k hk
  rcases List.mem_cons.1 hk with rfl | hk
  · exact hb.lt
  · exact hr.lt k hk
theorem Rg.shape (h : Rg w p N l S) : ∃ b, p = .pointer (some ⟨b, 0, none⟩) := by obtain ⟨b, _, _, _, _, rfl, _⟩ := h; exact ⟨b, rfl⟩
theorem Rg.le (h : Rg w p N l S) : l.length ≤ N ∧ N ≤ 64 := by obtain ⟨b, _, _, _, _, rfl, _, _, _, _, _, h1, _, h2, _⟩ := h; exact ⟨h2, h1⟩
end

theorem ring_room (w : World) (p : Value) (N : Nat) (l : List Int) (S : List Nat) (h : Rg w p N l S) :
    Calls Try.prog 30 #[p] w fun e w' => e = .returned (.int .i64 N) ∧ w = w' := by
  obtain ⟨b, v, U, ps, f, rfl, hb, hr, hd, rfl, rfl, h64, hl, hle, hf⟩ := h
  obtain ⟨ao, cap, rfl⟩ := hr.shape
  have c0 : w.cell? ⟨b, 0, none⟩ = some (.slice ao ps.length cap) := hb.cell 0
  have hm : ps.length ≤ 9223372036854775807 := by omega
  clear hb hr hd h64 hl hle hf
  go_enter Try.func30, Try.ntmps30
  go_wp2
  go_ret
  exact ⟨rfl, rfl⟩

theorem ring_at (w : World) (b : Nat) (ao : Option Addr) (n cap f i : Nat) (c0 : w.cell? ⟨b, 0, none⟩ = some (.slice ao n cap)) (c1 : w.cell? ⟨b, 1, none⟩ = some (.int .i64 f)) (hf : f < n) (hn : n ≤ 64) (hi : i ≤ 64) :
    Calls Try.prog 42 #[.pointer (some ⟨b, 0, none⟩), .int .i64 (i : Int)] w fun e w' => e = .returned (.int .i64 (((f + i) % n : Nat) : Int)) ∧ ∃ m, w' = w.drewN m := by
  have hnz : ((n : Int) == 0) = false := by simp; omega
  have hn0 : (0 : Int) < n := by omega
  have hf0 : (f : Int) ≤ 64 := by omega
  go_enter Try.func42, Try.ntmps42
  go_wp2_with fail
  go_quiet (fail)
  go_wp2
  go_ret
  exact ⟨by simp, _, rfl⟩

/-- a ring's memory: the struct b, the places' block g -/
def Raw (w : World) (b g off cap : Nat) (ps : List Int) (f c : Int) : Prop :=
  Blk w b [.slice (some ⟨g, off, none⟩) ps.length cap, .int .i64 f, .int .i64 c] 117 ∧ IR w (.slice (some ⟨g, off, none⟩) ps.length cap) 2 ps [g] ∧ b ≠ g
theorem Raw.draw {w : World} {b g off cap : Nat} {ps : List Int} {f c : Int} (h : Raw w b g off cap ps f c) (n : Nat) : Raw (w.drewN n) b g off cap ps f c := h
theorem Raw.put {w : World} {b g off cap : Nat} {ps : List Int} {f c : Int} (h : Raw w b g off cap ps f c) (j : Nat) (hj : j < ps.length) (v : Int) :
    Raw (w.setCell ⟨g, off + j, none⟩ (.int .i64 v)) b g off cap (ps.set j v) f c := by
  obtain ⟨h1, h2, h3⟩ := h
  refine ⟨?_, ?_, h3⟩
  · rw [List.length_set]; exact h1.other h3 _
  · rw [List.length_set]; exact (h2.stored j hj v).1
theorem Raw.first {w : World} {b g off cap : Nat} {ps : List Int} {f c : Int} (h : Raw w b g off cap ps f c) (f' : Int) : Raw (w.setCell ⟨b, 1, none⟩ (.int .i64 f')) b g off cap ps f' c :=
  ⟨by simpa using h.1.set 1 (.int .i64 f'), h.2.1.keep ((Keeps.refl [b] w).setCell (p := ⟨b, 1, none⟩) (by simp) _) (by simp [h.2.2.symm]), h.2.2⟩
theorem Raw.count {w : World} {b g off cap : Nat} {ps : List Int} {f c : Int} (h : Raw w b g off cap ps f c) (c' : Int) : Raw (w.setCell ⟨b, 2, none⟩ (.int .i64 c')) b g off cap ps f c' :=
  ⟨by simpa using h.1.set 2 (.int .i64 c'), h.2.1.keep ((Keeps.refl [b] w).setCell (p := ⟨b, 2, none⟩) (by simp) _) (by simp [h.2.2.symm]), h.2.2⟩
theorem Raw.rg {w : World} {b g off cap : Nat} {ps : List Int} {f : Nat} {c : Int} (h : Raw w b g off cap ps f c) {N : Nat} (hN : N = ps.length) (l : List Int) (hc : c = (l.length : Int)) (h64 : N ≤ 64) (hl : l = Rn.vals ps f l.length) (hle : l.length ≤ N) (hf : f < N) :
    Rg w (.pointer (some ⟨b, 0, none⟩)) N l [b, g] := by
  subst hc
  subst hN
  exact ⟨b, _, [g], ps, f, rfl, h.1, h.2.1, by simpa using h.2.2, rfl, rfl, h64, hl, hle, .inl hf⟩
theorem Raw.cells {w : World} {b g off cap : Nat} {ps : List Int} {f c : Int} (h : Raw w b g off cap ps f c) :
    w.cell? ⟨b, 0, none⟩ = some (.slice (some ⟨g, off, none⟩) ps.length cap) ∧ w.cell? ⟨b, 1, none⟩ = some (.int .i64 f) ∧ w.cell? ⟨b, 2, none⟩ = some (.int .i64 c) ∧ w.frozen? ⟨b, 1, none⟩ = false ∧ w.frozen? ⟨b, 2, none⟩ = false :=
  ⟨h.1.cell 0, h.1.cell 1, h.1.cell 2, h.1.free 1, h.1.free 2⟩
theorem Raw.place {w : World} {b g off cap : Nat} {ps : List Int} {f c : Int} (h : Raw w b g off cap ps f c) (j : Nat) (hj : j < ps.length) :
    w.cell? ⟨g, off + j, none⟩ = some (.int .i64 (ps.getD j 0)) ∧ w.frozen? ⟨g, off + j, none⟩ = false := by
  obtain ⟨g', off', e, _, _, hc, hf⟩ := h.2.1.cells (by omega)
  obtain ⟨rfl, rfl⟩ := by simpa using e
  exact ⟨hc j hj, hf j⟩
/-- a ring with places, opened -/
theorem Rg.raw {w : World} {b N : Nat} {l : List Int} {S : List Nat} (h : Rg w (.pointer (some ⟨b, 0, none⟩)) N l S) (hN : 0 < N) :
    ∃ g off cap ps f, N = ps.length ∧ S = [b, g] ∧ Raw w b g off cap ps ((f : Nat) : Int) l.length ∧ ps.length ≤ 64 ∧ l = Rn.vals ps f l.length ∧ l.length ≤ ps.length ∧ f < ps.length := by
  obtain ⟨b', sv, U, ps, f, hbb, hb, hr, hd, rfl, rfl, h64, hl, hle, hf⟩ := h
  obtain rfl : b = b' := by simpa using hbb
  obtain ⟨ao, cap, rfl⟩ := hr.shape
  obtain ⟨g, off, rfl, rfl, hg, hc, hfz⟩ := hr.cells (by omega)
  exact ⟨g, off, cap, ps, f, rfl, rfl, ⟨hb, hr, by simpa using hd⟩, h64, hl, hle, by omega⟩
theorem keeps_set {S : List Nat} {w : World} {p : Addr} (hp : p.block ∈ S) (u : Value) : Keeps S w (w.setCell p u) := (Keeps.refl S w).setCell (.inl hp) u

/-- what Put leaves -/
def PutPost (p : Value) (N : Nat) (l : List Int) (v : Int) (S : List Nat) (w : World) (e : Ending) (w' : World) : Prop :=
  e = .returned (.bool (decide (l.length < N))) ∧ Keeps S w w' ∧ Rg w' p N (Rn.putL N l v) S

/-- what Get and Pass leave: a value, ok, and the list -/
def OutPost (p : Value) (N : Nat) (x : Int) (ok : Bool) (l' : List Int) (S : List Nat) (w : World) (e : Ending) (w' : World) : Prop :=
  e = .returned (.tuple #[.int .i64 x, .bool ok]) ∧ Keeps S w w' ∧ Rg w' p N l' S

end Go.Proofs.Ytofnbflkhgammaa
/- RingD -/
namespace Go.Proofs.Ytofnbflkhgammaa
open Go.RowKit
set_option linter.unusedVariables false
set_option linter.unusedSimpArgs false
set_option linter.unnecessarySimpa false

namespace Rn
theorem vals_take (ps : List Int) (f c k : Nat) (h : k ≤ c) : (vals ps f c).take k = vals ps f k := by
  unfold vals; rw [← List.map_take]; congr 1
  rw [List.take_range]; congr 1; omega
theorem vals_succ (ps : List Int) (f k : Nat) : vals ps f (k + 1) = vals ps f k ++ [ps.getD ((f + k) % ps.length) 0] := by
  unfold vals; rw [List.range_succ]; simp
end Rn

/-- what All leaves: a new list -/
def AllPost (l : List Int) (w : World) (e : Ending) (w' : World) : Prop :=
  ∃ v S, e = .returned v ∧ Keeps [] w w' ∧ IV w' v l S ∧ ∀ k ∈ S, w.heap.size ≤ k

set_option maxRecDepth 100000 in
set_option maxHeartbeats 1600000 in
theorem ring_all (w : World) (p : Value) (N : Nat) (l : List Int) (S : List Nat) (h : Rg w p N l S) :
    Calls Try.prog 31 #[p] w (AllPost l w) := by
  obtain ⟨b, rfl⟩ := h.shape
  have hle := h.le
  obtain ⟨b', sv, U, ps, f, hbb, hb, hr, hd, rfl, hN, h64, hl, _, hf⟩ := h
  obtain rfl : b = b' := by simpa using hbb
  obtain ⟨ao, cap, rfl⟩ := hr.shape
  have c0 : w.cell? ⟨b, 0, none⟩ = some (.slice ao ps.length cap) := hb.cell 0
  have c1 : w.cell? ⟨b, 1, none⟩ = some (.int .i64 f) := hb.cell 1
  have c2 : w.cell? ⟨b, 2, none⟩ = some (.int .i64 l.length) := hb.cell 2
  have HB := Lib.hid hb
  have HR := Lib.hid hr
  have HL := Lib.hid hl
  have HF := Lib.hid hf
  have HN := Lib.hid hN
  have hl64 : l.length ≤ 64 := by omega
  clear hb hr hd hbb hl hf hN hle
  obtain ⟨c, hc⟩ : ∃ c, l.length = c := ⟨_, rfl⟩
  have HC := Lib.hid hc
  rw [hc] at c2 hl64
  clear hc
  go_enter Try.func31, Try.ntmps31
  go_wp2_with (at_make; go_must (refine wp_make0 elemInt64 c (by omega) ?_ (hC := rfl)); intro w1 r1 k1; have c2' := k1.cell c2 (by simp))
  have HR1 := Lib.hid r1
  have HK1 := Lib.hid k1
  clear r1 k1 c2'
  go_loopw [3, 14] (fun v i wr => ∃ (k : Nat) (T : List Nat), k ≤ c ∧ i = .int .i64 k ∧ Keeps [] w wr ∧ IR wr v 2 (Rn.vals ps f k) T ∧ ∀ x ∈ T, w.heap.size ≤ x) (fun _ i _ => c - (intOf i).toNat)
  case atStart => exact ⟨0, [w.heap.size], Nat.zero_le _, rfl, HK1.out, HR1.out, by simp⟩
  case round =>
    obtain ⟨k, T, hk, rfl, hke, hrow, hT⟩ := hrel
    obtain ⟨ao3, cap3, hv⟩ := hrow.shape
    rw [Rn.vals_len] at hv
    subst hv
    have HK := Lib.hid hke
    have HRo := Lib.hid hrow
    have HT := Lib.hid hT
    clear hke hrow hT
    by_cases hlt : k < c
    · have hcN : c ≤ ps.length := by have := HC.out; have := HN.out; omega
      have hfN : f < ps.length := by have := HF.out; have := HN.out; omega
      have hps : ps.length ≤ 64 := by have := HN.out; omega
      obtain ⟨j, hj⟩ : ∃ j, j = (f + k) % ps.length := ⟨_, rfl⟩
      have hjN : j < ps.length := by rw [hj]; exact Nat.mod_lt _ (by omega)
      obtain ⟨g, off, rfl, rfl, hg, hcc, _⟩ := (HR.out.then HK.out).cells (by omega)
      have d0 : wr.cell? ⟨b, 0, none⟩ = some (.slice (some ⟨g, off, none⟩) ps.length cap) := HK.out.cell c0 (by simp)
      have d1 : wr.cell? ⟨b, 1, none⟩ = some (.int .i64 f) := HK.out.cell c1 (by simp)
      have cg : wr.cell? ⟨g, off + j, none⟩ = some (.int .i64 (ps.getD j 0)) := hcc j hjN
      have HJ := Lib.hid hj
      have HV : Hid (Rn.vals ps f (k + 1) = Rn.vals ps f k ++ [ps.getD j 0]) := Lib.hid (by rw [Rn.vals_succ, ← hj])
      have HLn : Hid ((Rn.vals ps f k).length = k) := Lib.hid (Rn.vals_len ps f k)
      have hbT : b ∉ T := fun h => by have := HT.out b h; have := HB.out.lt; omega
      have hgT : g ∉ T := fun h => by have := HT.out g h; have := HR.out.lt g (by simp); omega
      clear hcc hj
      obtain ⟨x, HX⟩ : ∃ x, Hid (ps.getD j 0 = x) := ⟨_, rfl⟩
      rw [HX.out] at cg
      go_wp2_with fail
      go_region_held3 (fun w' => w'.cell? ⟨b, 0, none⟩ = some (.slice (some ⟨g, off, none⟩) ps.length cap) ∧ w'.cell? ⟨g, off + j, none⟩ = some (.int .i64 x)) (first | exact ⟨d0, cg⟩ | exact ⟨e0, eg⟩ | (refine ⟨(World.cell?_alloc_past _ _ _ (block_lt_of_cell d0)).trans d0, (World.cell?_alloc_past _ _ _ (block_lt_of_cell cg)).trans cg⟩))
        (first
          | (go_at_call 42; refine (ring_at _ b _ _ cap f k (by exact d0) (by exact d1) hfN hps (by omega)).mono ?_; rintro e w2 ⟨rfl, m2, rfl⟩; rw [← HJ.out])
          | (refine step_appn elemInt64 (HRo.out.then ((Keeps.refl [] wr).drewN _)) (by rw [HLn.out]; omega) ?_; intro ao6 cap6 w6 S6 r6 k6 s6; have e0 : w6.cell? ⟨b, 0, none⟩ = some (.slice (some ⟨g, off, none⟩) ps.length cap) := k6.cell (by exact d0) hbT; have eg : w6.cell? ⟨g, off + j, none⟩ = some (.int .i64 x) := k6.cell (by exact cg) hgT; have R6 := Lib.hid r6; have K6 := Lib.hid k6; have S6' := Lib.hid s6; clear r6 k6 s6))
      go_wp2_with fail
      go_roundw
      case rel => exact ⟨k + 1, S6, by omega, by go_num, HK.out.trans (((Keeps.refl T wr).drewN _).trans K6.out (fun x hx => .inl hx)) (fun x hx => .inr (HT.out x hx)), by rw [HV.out, HX.out]; exact R6.out, fun x hx => by
        rcases S6'.out x hx with h | h
        · exact HT.out x h
        · have := HK.out.size; simp at h; omega⟩
      case measure => simp [intOf]; omega
    · obtain rfl : k = c := by omega
      go_wp2_with fail
      go_ret
      exact ⟨_, T, rfl, HK.out, by have := HRo.out.iv; rw [← HC.out] at this ⊢; rw [← HL.out] at this; exact this, HT.out⟩

/-- what Of and New leave: a ring, or the error -/
def ROfPost (room : Int) (l : List Int) (w : World) (e : Ending) (w' : World) : Prop :=
  if 0 ≤ room ∧ room ≤ 64 ∧ (l.length : Int) ≤ room then ∃ p S, e = .returned (.tuple #[p, .int .i64 0]) ∧ Keeps [] w w' ∧ Rg w' p room.toNat l S ∧ ∀ k ∈ S, w.heap.size ≤ k
  else e = .returned (.tuple #[.pointer none, .int .i64 1]) ∧ w' = w

theorem of_cells (l : List Int) (N : Nat) (h : l.length ≤ N) : List.take (min l.length N) (l.map (Value.int .i64)) ++ List.drop (min l.length N) (List.replicate N (Value.int .i64 0)) = (l ++ List.replicate (N - l.length) 0).map (Value.int .i64) := by
  rw [Nat.min_eq_left h, List.take_of_length_le (by simp), List.drop_replicate]; simp

end Go.Proofs.Ytofnbflkhgammaa
