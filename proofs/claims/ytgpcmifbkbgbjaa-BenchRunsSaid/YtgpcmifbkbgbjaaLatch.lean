/-
  Contracts of package latch: each method does to the list of owners what the plain functions here say.
  Conditions: a Latches is held by Lat; the list is no longer than 4096 where it grows.
-/
import Derived.Test.YtgpcmifbkbgbjaaRow
namespace Go.Proofs.Ytgpcmifbkbgbjaa
open Go.RowKit
set_option linter.unusedVariables false
set_option linter.unusedSimpArgs false
set_option linter.unnecessarySimpa false

theorem elemInt : Elem Try.prog 30 3 1 8 (.int .i64 0) := ⟨Try.underlying30, by kernel_rfl, rfl, by decide, by decide⟩

/-- p is a Latches whose owners are l; S: its blocks. -/
def Lat (w : World) (p : Value) (l : List Int) (S : List Nat) : Prop :=
  ∃ b v T, p = .pointer (some ⟨b, 0, none⟩) ∧ Blk w b [v] 82 ∧ Row w v 3 1 l.length (l.map (Value.int .i64)) T ∧ b ∉ T ∧ S = b :: T

theorem Lat.keep {w w' : World} {p : Value} {l : List Int} {S T : List Nat} (h : Lat w p l S) (k : Keeps T w w') (hn : ∀ x ∈ S, x ∉ T) : Lat w' p l S := by
  obtain ⟨b, v, U, rfl, hb, hr, hd, rfl⟩ := h
  exact ⟨b, v, U, rfl, hb.keep k (hn b (by simp)), hr.keep k (fun x hx => hn x (by simp [hx])), hd, rfl⟩
theorem Lat.lt {w : World} {p : Value} {l : List Int} {S : List Nat} (h : Lat w p l S) : ∀ k ∈ S, k < w.heap.size := by
  obtain ⟨b, v, U, rfl, hb, hr, hd, rfl⟩ := h
  intro k hk
  rcases List.mem_cons.1 hk with rfl | hk
  · exact hb.lt
  · exact hr.lt k hk
theorem Lat.alloc {w : World} {p : Value} {l : List Int} {S : List Nat} (h : Lat w p l S) (o : Obj) : Lat (w.alloc o) p l S := h.keep ((Keeps.refl [] w).alloc o) (by simp)
theorem Lat.drewN {w : World} {p : Value} {l : List Int} {S : List Nat} (h : Lat w p l S) (n : Nat) : Lat (w.drewN n) p l S := h.keep ((Keeps.refl [] w).drewN n) (by simp)
theorem Lat.shape {w : World} {p : Value} {l : List Int} {S : List Nat} (h : Lat w p l S) : ∃ b, p = .pointer (some ⟨b, 0, none⟩) := by
  obtain ⟨b, v, U, rfl, _⟩ := h; exact ⟨b, rfl⟩
theorem Lat.le {w : World} {p : Value} {l : List Int} {S : List Nat} (h : Lat w p l S) : l.length ≤ maxLen := by
  obtain ⟨b, v, U, rfl, hb, hr, hd, rfl⟩ := h; exact hr.le

namespace Lt
def has (l : List Int) (i : Int) : Bool := decide (0 ≤ i) && decide (i < l.length)
def owner (l : List Int) (i : Int) : Int := if has l i then l.getD i.toNat 0 else -1
def tryOk (l : List Int) (i who : Int) : Bool := has l i && decide (0 ≤ who) && (l.getD i.toNat 0 == -1)
def tryL (l : List Int) (i who : Int) : List Int := if tryOk l i who then l.set i.toNat who else l
def freeOk (l : List Int) (i who : Int) : Bool := has l i && decide (0 ≤ who) && (l.getD i.toNat 0 == who)
def freeL (l : List Int) (i who : Int) : List Int := if freeOk l i who then l.set i.toNat (-1) else l
def heldFrom (who : Int) : Nat → List Int → List Int
  | _, [] => []
  | k, o :: r => (if 0 ≤ who ∧ o = who then [(k : Int)] else []) ++ heldFrom who (k + 1) r
def held (l : List Int) (who : Int) : List Int := heldFrom who 0 l
end Lt

theorem latch_len (w : World) (p : Value) (l : List Int) (S : List Nat) (h : Lat w p l S) :
    Calls Try.prog 29 #[p] w fun e w' => e = .returned (.int .i64 l.length) ∧ w = w' := by
  obtain ⟨b, v, U, rfl, hb, hr, hd, rfl⟩ := h
  have hm := hr.le
  unfold maxLen at hm
  obtain ⟨ao, cap, rfl⟩ := hr.shape
  have c0 : w.cell? ⟨b, 0, none⟩ = some (.slice ao l.length cap) := hb.cell 0
  clear hb hr hd
  go_enter Try.func29, Try.ntmps29
  go_wp2
  go_ret
  exact ⟨rfl, rfl⟩

theorem latch_owner (w : World) (p : Value) (l : List Int) (S : List Nat) (i : Int) (h : Lat w p l S) :
    Calls Try.prog 12 #[p, .int .i64 i] w fun e w' => e = .returned (.int .i64 (Lt.owner l i)) ∧ w = w' := by
  obtain ⟨b, v, U, rfl, hb, hr, hd, rfl⟩ := h
  have hm := hr.le
  unfold maxLen at hm
  obtain ⟨ao, cap, rfl⟩ := hr.shape
  have c0 : w.cell? ⟨b, 0, none⟩ = some (.slice ao l.length cap) := hb.cell 0
  by_cases h1 : 0 ≤ i
  · by_cases h2 : i < l.length
    · obtain ⟨n, rfl⟩ := Int.eq_ofNat_of_zero_le h1
      obtain ⟨g, off, rfl, _, _, hc, _⟩ := hr.cells (by omega)
      have c1 : w.cell? ⟨g, off + n, none⟩ = some (.int .i64 (l.getD n 0)) := by
        rw [hc n (by simpa using by omega)]; simp [List.getD, show n < l.length by omega]
      have hfin : Lt.owner l n = l.getD n 0 := by simp [Lt.owner, Lt.has, show n < l.length by omega]
      rw [hfin]
      clear hb hr hd hc hfin
      go_enter Try.func12, Try.ntmps12
      go_wp2
      go_ret
      exact ⟨rfl, rfl⟩
    · have hfin : Lt.owner l i = -1 := by simp [Lt.owner, Lt.has, h2]
      rw [hfin]
      clear hb hr hd hfin
      go_enter Try.func12, Try.ntmps12
      go_wp2
      go_ret
      exact ⟨rfl, rfl⟩
  · have hfin : Lt.owner l i = -1 := by simp [Lt.owner, Lt.has, h1]
    rw [hfin]
    clear hb hr hd hfin
    go_enter Try.func12, Try.ntmps12
    go_wp2
    go_ret
    exact ⟨rfl, rfl⟩

theorem latch_try (w : World) (p : Value) (l : List Int) (S : List Nat) (i who : Int) (h : Lat w p l S) :
    Calls Try.prog 13 #[p, .int .i64 i, .int .i64 who] w fun e w' => e = .returned (.bool (Lt.tryOk l i who)) ∧ Lat w' p (Lt.tryL l i who) S ∧ Keeps S w w' := by
  have h0 := h
  obtain ⟨b, v, U, rfl, hb, hr, hd, rfl⟩ := h
  have hm := hr.le
  unfold maxLen at hm
  obtain ⟨ao, cap, rfl⟩ := hr.shape
  have c0 : w.cell? ⟨b, 0, none⟩ = some (.slice ao l.length cap) := hb.cell 0
  by_cases hi : 0 ≤ i ∧ i < l.length
  · obtain ⟨h1, h2⟩ := hi
    obtain ⟨n, rfl⟩ := Int.eq_ofNat_of_zero_le h1
    obtain ⟨g, off, rfl, rfl, _, hc, hf⟩ := hr.cells (by omega)
    have hst := hr.stored n (by simpa using by omega) (.int .i64 who)
    have c1 : w.cell? ⟨g, off + n, none⟩ = some (.int .i64 (l.getD n 0)) := by
      rw [hc n (by simpa using by omega)]; simp [List.getD, show n < l.length by omega]
    have f1 := hf n
    have hbg : b ≠ g := by simpa using hd
    have hb' := hb.other (a := ⟨g, off + n, none⟩) hbg (.int .i64 who)
    by_cases h3 : 0 ≤ who
    · cases h4 : (l.getD n 0 == (-1)) with
      | true =>
        have hfin : Lt.tryOk l n who = true := by simp only [Lt.tryOk, Lt.has]; simp only [Int.toNat_natCast, h4]; simp; omega
        have hfin2 : Lt.tryL l n who = l.set n who := by simp [Lt.tryL, hfin]
        rw [hfin, hfin2]
        have h5 : (l.getD n 0 != (-1)) = false := by simpa using h4
        have hres : Lat (w.setCell ⟨g, off + n, none⟩ (.int .i64 who)) (.pointer (some ⟨b, 0, none⟩)) (l.set n who) [b, g] :=
          ⟨b, _, _, rfl, hb', by simpa using hst.1, by simpa using hbg, rfl⟩
        have hk := hst.2.mono (T := [b, g]) (by simp)
        clear hb hr hd hc hf hst hfin hfin2 hb' h0
        generalize l.getD n 0 = x at *
        go_enter Try.func13, Try.ntmps13
        go_wp2
        go_ret
        exact ⟨rfl, hres, hk⟩
      | false =>
        have hfin : Lt.tryOk l n who = false := by simp only [Lt.tryOk]; simp only [Int.toNat_natCast, h4]; simp
        have hfin2 : Lt.tryL l n who = l := by simp [Lt.tryL, hfin]
        rw [hfin, hfin2]
        have h5 : (l.getD n 0 != (-1)) = true := by simpa using h4
        clear hb hr hd hc hf hst hfin hfin2 hb'
        generalize l.getD n 0 = x at *
        go_enter Try.func13, Try.ntmps13
        go_wp2
        go_ret
        exact ⟨rfl, h0, Keeps.refl _ _⟩
    · have hfin : Lt.tryOk l n who = false := by simp only [Lt.tryOk]; simp [h3]
      have hfin2 : Lt.tryL l n who = l := by simp [Lt.tryL, hfin]
      rw [hfin, hfin2]
      clear hb hr hd hc hf hst hfin hfin2 hb' c1 f1
      go_enter Try.func13, Try.ntmps13
      go_wp2
      go_ret
      exact ⟨rfl, h0, Keeps.refl _ _⟩
  · have hfin : Lt.tryOk l i who = false := by
      have hh : Lt.has l i = false := by simp only [Lt.has]; rw [← Bool.not_eq_true]; simp; omega
      simp [Lt.tryOk, hh]
    have hfin2 : Lt.tryL l i who = l := by simp [Lt.tryL, hfin]
    rw [hfin, hfin2]
    clear hb hr hd hfin hfin2
    by_cases h1 : 0 ≤ i
    all_goals by_cases h2 : i < l.length
    all_goals try omega
    all_goals clear hi
    all_goals go_enter Try.func13, Try.ntmps13
    all_goals go_wp2
    all_goals go_ret
    all_goals exact ⟨rfl, h0, Keeps.refl _ _⟩

theorem latch_free (w : World) (p : Value) (l : List Int) (S : List Nat) (i who : Int) (h : Lat w p l S) :
    Calls Try.prog 14 #[p, .int .i64 i, .int .i64 who] w fun e w' => e = .returned (.bool (Lt.freeOk l i who)) ∧ Lat w' p (Lt.freeL l i who) S ∧ Keeps S w w' := by
  have h0 := h
  obtain ⟨b, v, U, rfl, hb, hr, hd, rfl⟩ := h
  have hm := hr.le
  unfold maxLen at hm
  obtain ⟨ao, cap, rfl⟩ := hr.shape
  have c0 : w.cell? ⟨b, 0, none⟩ = some (.slice ao l.length cap) := hb.cell 0
  by_cases hi : 0 ≤ i ∧ i < l.length
  · obtain ⟨h1, h2⟩ := hi
    obtain ⟨n, rfl⟩ := Int.eq_ofNat_of_zero_le h1
    obtain ⟨g, off, rfl, rfl, _, hc, hf⟩ := hr.cells (by omega)
    have hst := hr.stored n (by simpa using by omega) (.int .i64 (-1))
    have c1 : w.cell? ⟨g, off + n, none⟩ = some (.int .i64 (l.getD n 0)) := by
      rw [hc n (by simpa using by omega)]; simp [List.getD, show n < l.length by omega]
    have f1 := hf n
    have hbg : b ≠ g := by simpa using hd
    have hb' := hb.other (a := ⟨g, off + n, none⟩) hbg (.int .i64 (-1))
    by_cases h3 : 0 ≤ who
    · cases h4 : (l.getD n 0 == who) with
      | true =>
        have hfin : Lt.freeOk l n who = true := by simp only [Lt.freeOk, Lt.has]; simp only [Int.toNat_natCast, h4]; simp; omega
        have hfin2 : Lt.freeL l n who = l.set n (-1) := by simp [Lt.freeL, hfin]
        rw [hfin, hfin2]
        have h5 : (l.getD n 0 != who) = false := by simpa using h4
        have hres : Lat (w.setCell ⟨g, off + n, none⟩ (.int .i64 (-1))) (.pointer (some ⟨b, 0, none⟩)) (l.set n (-1)) [b, g] :=
          ⟨b, _, _, rfl, hb', by simpa using hst.1, by simpa using hbg, rfl⟩
        have hk := hst.2.mono (T := [b, g]) (by simp)
        clear hb hr hd hc hf hst hfin hfin2 hb' h0
        generalize l.getD n 0 = x at *
        go_enter Try.func14, Try.ntmps14
        go_wp2
        go_ret
        exact ⟨rfl, hres, hk⟩
      | false =>
        have hfin : Lt.freeOk l n who = false := by simp only [Lt.freeOk]; simp only [Int.toNat_natCast, h4]; simp
        have hfin2 : Lt.freeL l n who = l := by simp [Lt.freeL, hfin]
        rw [hfin, hfin2]
        have h5 : (l.getD n 0 != who) = true := by simpa using h4
        clear hb hr hd hc hf hst hfin hfin2 hb'
        generalize l.getD n 0 = x at *
        go_enter Try.func14, Try.ntmps14
        go_wp2
        go_ret
        exact ⟨rfl, h0, Keeps.refl _ _⟩
    · have hfin : Lt.freeOk l n who = false := by simp only [Lt.freeOk]; simp [h3]
      have hfin2 : Lt.freeL l n who = l := by simp [Lt.freeL, hfin]
      rw [hfin, hfin2]
      clear hb hr hd hc hf hst hfin hfin2 hb' c1 f1
      go_enter Try.func14, Try.ntmps14
      go_wp2
      go_ret
      exact ⟨rfl, h0, Keeps.refl _ _⟩
  · have hfin : Lt.freeOk l i who = false := by
      have hh : Lt.has l i = false := by simp only [Lt.has]; rw [← Bool.not_eq_true]; simp; omega
      simp [Lt.freeOk, hh]
    have hfin2 : Lt.freeL l i who = l := by simp [Lt.freeL, hfin]
    rw [hfin, hfin2]
    clear hb hr hd hfin hfin2
    by_cases h1 : 0 ≤ i
    all_goals by_cases h2 : i < l.length
    all_goals try omega
    all_goals clear hi
    all_goals go_enter Try.func14, Try.ntmps14
    all_goals go_wp2
    all_goals go_ret
    all_goals exact ⟨rfl, h0, Keeps.refl _ _⟩


namespace Lt
def addN (l : List Int) : Int := if l.length < 4096 then l.length else -1
def addL (l : List Int) : List Int := if l.length < 4096 then l ++ [-1] else l
def newL (n : Int) : List Int := List.replicate (max 0 (min n 4096)).toNat (-1)
end Lt

/-- what Add leaves -/
def AddPost (p : Value) (l : List Int) (S : List Nat) (w : World) (e : Ending) (w' : World) : Prop :=
  e = .returned (.int .i64 (Lt.addN l)) ∧ Keeps S w w' ∧ ∃ S', Lat w' p (Lt.addL l) S' ∧ ∀ k ∈ S', k ∈ S ∨ w.heap.size ≤ k

set_option maxHeartbeats 400000 in
theorem latch_add (w : World) (p : Value) (l : List Int) (S : List Nat) (h : Lat w p l S) :
    Calls Try.prog 28 #[p] w (AddPost p l S w) := by
  have h0 := h
  obtain ⟨b, v, U, rfl, hb, hr, hd, rfl⟩ := h
  have hm := hr.le
  unfold maxLen at hm
  obtain ⟨ao, cap, rfl⟩ := hr.shape
  have c0 : w.cell? ⟨b, 0, none⟩ = some (.slice ao l.length cap) := hb.cell 0
  by_cases h1 : (l.length : Int) < 4096
  · have H0 := Lib.hid h0
    have Hb := Lib.hid hb
    have Hr := Lib.hid hr
    have Hd := Lib.hid hd
    have H1 := Lib.hid h1
    have hq : decide (4096 ≤ (l.length : Int)) = false := by simpa using h1
    have hm2 : l.length ≤ 9223372036854775806 := by omega
    clear hb hr h0 hd h1 hm
    go_enter Try.func28, Try.ntmps28
    go_wp2_with (at_builtin; go_must (refine wp_app1 elemInt Hr.out (m := 1) (ys := [.int .i64 (-1)]) rfl (by simp [maxLen]) ?c1 ?c2 ?_))
    case c1 => intro y hy; simp at hy; subst hy; rfl
    case c2 => have := H1.out; omega
    intro ao' cap' w1 S' r1 r2 r3
    have hb1 := Hb.out.keep r2 Hd.out
    have c2 : w1.cell? ⟨b, 0, none⟩ = some (.slice ao l.length cap) := hb1.cell 0
    have f2 : w1.frozen? ⟨b, 0, none⟩ = false := hb1.free 0
    have hdS : b ∉ S' := fun hm => by
      rcases r3 b hm with h | h
      · exact Hd.out h
      · have := Hb.out.lt; omega
    have hlat : Lat (w1.setCell ⟨b, 0, none⟩ (.slice ao' (l.length + 1) cap')) (.pointer (some ⟨b, 0, none⟩)) (l ++ [-1]) (b :: S') :=
      ⟨b, _, S', rfl, hb1.set 0 _, by
        have := r1.keep ((Keeps.refl [b] w1).setCell (p := ⟨b, 0, none⟩) (by simp) (.slice ao' (l.length + 1) cap')) (by intro x hx; simp; intro e; exact hdS (e ▸ hx))
        simpa using this, hdS, rfl⟩
    have hk : Keeps (b :: U) w (w1.setCell ⟨b, 0, none⟩ (.slice ao' (l.length + 1) cap')) := (r2.mono (T := b :: U) (fun x hx => .inl (by simp [hx]))).setCell (by simp) _
    have HL := Lib.hid hlat
    have HK := Lib.hid hk
    have HR := Lib.hid r3
    clear r1 r2 r3 hlat hk
    go_wp2
    go_ret
    have e1 : Lt.addN l = l.length := by simp only [Lt.addN]; rw [if_pos (by have := H1.out; omega)]
    have e2 : Lt.addL l = l ++ [-1] := by simp only [Lt.addL]; rw [if_pos (by have := H1.out; omega)]
    exact ⟨ret_int e1.symm, HK.out, b :: S', by rw [e2]; exact HL.out, fun k hk => by
      rcases List.mem_cons.1 hk with rfl | hk
      · exact .inl (by simp)
      · rcases HR.out k hk with h | h
        · exact .inl (by simp [h])
        · exact .inr h⟩
  · have e1 : Lt.addN l = -1 := by simp only [Lt.addN]; rw [if_neg (by omega)]
    have e2 : Lt.addL l = l := by simp only [Lt.addL]; rw [if_neg (by omega)]
    have H0 := Lib.hid h0
    have hq : decide (4096 ≤ (l.length : Int)) = true := by simpa using h1
    clear hb hr h0 h1 hd
    go_enter Try.func28, Try.ntmps28
    go_wp2
    go_ret
    exact ⟨ret_int e1.symm, Keeps.refl _ _, b :: U, by rw [e2]; exact H0.out, fun k hk => .inl hk⟩

end Go.Proofs.Ytgpcmifbkbgbjaa
