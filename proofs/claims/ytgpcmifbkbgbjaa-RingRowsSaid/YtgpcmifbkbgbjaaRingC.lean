/-
  Contracts of package ring.
  Conditions: a ring is held by Rg.
-/
import Derived.Test.YtgpcmifbkbgbjaaRing
namespace Go.Proofs.Ytgpcmifbkbgbjaa
open Go.RowKit
set_option linter.unusedVariables false
set_option linter.unusedSimpArgs false
set_option linter.unnecessarySimpa false

theorem elemInt64 : Elem Try.prog 33 2 1 8 (.int .i64 0) := ⟨Try.underlying33, by kernel_rfl, rfl, by decide, by decide⟩

/-- p is a ring of N places that holds l; S: its blocks. -/
def Rg (w : World) (p : Value) (N : Nat) (l : List Int) (S : List Nat) : Prop :=
  ∃ b v T ps f, p = .pointer (some ⟨b, 0, none⟩) ∧ Blk w b [v, .int .i64 ((f : Nat) : Int), .int .i64 l.length] 84 ∧ IR w v 2 ps T ∧ b ∉ T ∧ S = b :: T ∧
    ps.length = N ∧ N ≤ 64 ∧ l = Rn.vals ps f l.length ∧ l.length ≤ N ∧ (f < N ∨ (N = 0 ∧ f = 0))

section
variable {w w' : World} {p : Value} {N : Nat} {l : List Int} {S T : List Nat}
theorem Rg.keep (h : Rg w p N l S) (k : Keeps T w w') (hn : ∀ x ∈ S, x ∉ T) : Rg w' p N l S := by
  obtain ⟨b, v, U, ps, f, rfl, hb, hr, hd, rfl, h⟩ := h
  exact ⟨b, v, U, ps, f, rfl, hb.keep k (hn b (by simp)), hr.keep k (fun x hx => hn x (by simp [hx])), hd, rfl, h⟩
theorem Rg.then (h : Rg w p N l S) (k : Keeps [] w w') : Rg w' p N l S := h.keep k (by simp)
theorem Rg.drewN (h : Rg w p N l S) (n : Nat) : Rg (w.drewN n) p N l S := h.then ((Keeps.refl [] w).drewN n)
theorem Rg.drew (h : Rg w p N l S) : Rg w.drew p N l S := h.then ((Keeps.refl [] w).drew)
theorem Rg.alloc (h : Rg w p N l S) (o : Obj) : Rg (w.alloc o) p N l S := h.then ((Keeps.refl [] w).alloc o)
theorem Rg.lt (h : Rg w p N l S) : ∀ k ∈ S, k < w.heap.size := by
  obtain ⟨b, v, U, ps, f, rfl, hb, hr, hd, rfl, h⟩ := h
  intro k hk
  rcases List.mem_cons.1 hk with rfl | hk
  · exact hb.lt
  · exact hr.lt k hk
theorem Rg.shape (h : Rg w p N l S) : ∃ b, p = .pointer (some ⟨b, 0, none⟩) := by obtain ⟨b, _, _, _, _, rfl, _⟩ := h; exact ⟨b, rfl⟩
theorem Rg.le (h : Rg w p N l S) : l.length ≤ N ∧ N ≤ 64 := by obtain ⟨b, _, _, _, _, rfl, _, _, _, _, _, h1, _, h2, _⟩ := h; exact ⟨h2, h1⟩
end

theorem ring_room (w : World) (p : Value) (N : Nat) (l : List Int) (S : List Nat) (h : Rg w p N l S) :
    Calls Try.prog 20 #[p] w fun e w' => e = .returned (.int .i64 N) ∧ w = w' := by
  obtain ⟨b, v, U, ps, f, rfl, hb, hr, hd, rfl, rfl, h64, hl, hle, hf⟩ := h
  obtain ⟨ao, cap, rfl⟩ := hr.shape
  have c0 : w.cell? ⟨b, 0, none⟩ = some (.slice ao ps.length cap) := hb.cell 0
  have hm : ps.length ≤ 9223372036854775807 := by omega
  clear hb hr hd h64 hl hle hf
  go_enter Try.func20, Try.ntmps20
  go_wp2
  go_ret
  exact ⟨rfl, rfl⟩

theorem ring_len (w : World) (p : Value) (N : Nat) (l : List Int) (S : List Nat) (h : Rg w p N l S) :
    Calls Try.prog 21 #[p] w fun e w' => e = .returned (.int .i64 l.length) ∧ w = w' := by
  obtain ⟨b, v, U, ps, f, rfl, hb, hr, hd, rfl, rfl, h64, hl, hle, hf⟩ := h
  have c2 : w.cell? ⟨b, 2, none⟩ = some (.int .i64 l.length) := hb.cell 2
  clear hb hr hd h64 hl hle hf
  go_enter Try.func21, Try.ntmps21
  go_wp2
  go_ret
  exact ⟨rfl, rfl⟩

theorem ring_full (w : World) (p : Value) (N : Nat) (l : List Int) (S : List Nat) (h : Rg w p N l S) :
    Calls Try.prog 22 #[p] w fun e w' => e = .returned (.bool (decide (l.length = N))) ∧ ∃ m, w' = w.drewN m := by
  obtain ⟨b, v, U, ps, f, rfl, hb, hr, hd, rfl, rfl, h64, hl, hle, hf⟩ := h
  obtain ⟨ao, cap, rfl⟩ := hr.shape
  have c0 : w.cell? ⟨b, 0, none⟩ = some (.slice ao ps.length cap) := hb.cell 0
  have c2 : w.cell? ⟨b, 2, none⟩ = some (.int .i64 l.length) := hb.cell 2
  clear hb hr hd hl
  go_enter Try.func22, Try.ntmps22
  go_wp2_with fail
  go_quiet (fail)
  go_wp2
  go_ret
  exact ⟨ret_bool (by rw [Bool.eq_iff_iff]; simp; omega), _, rfl⟩

theorem ring_at (w : World) (b : Nat) (ao : Option Addr) (n cap f i : Nat) (c0 : w.cell? ⟨b, 0, none⟩ = some (.slice ao n cap)) (c1 : w.cell? ⟨b, 1, none⟩ = some (.int .i64 f)) (hf : f < n) (hn : n ≤ 64) (hi : i ≤ 64) :
    Calls Try.prog 54 #[.pointer (some ⟨b, 0, none⟩), .int .i64 (i : Int)] w fun e w' => e = .returned (.int .i64 (((f + i) % n : Nat) : Int)) ∧ ∃ m, w' = w.drewN m := by
  have hnz : ((n : Int) == 0) = false := by simp; omega
  have hn0 : (0 : Int) < n := by omega
  have hf0 : (f : Int) ≤ 64 := by omega
  go_enter Try.func54, Try.ntmps54
  go_wp2_with fail
  go_quiet (fail)
  go_wp2
  go_ret
  exact ⟨by simp, _, rfl⟩

/-- a ring's memory: the struct b, the places' block g -/
def Raw (w : World) (b g off cap : Nat) (ps : List Int) (f c : Int) : Prop :=
  Blk w b [.slice (some ⟨g, off, none⟩) ps.length cap, .int .i64 f, .int .i64 c] 84 ∧ IR w (.slice (some ⟨g, off, none⟩) ps.length cap) 2 ps [g] ∧ b ≠ g
theorem Raw.draw {w : World} {b g off cap : Nat} {ps : List Int} {f c : Int} (h : Raw w b g off cap ps f c) (n : Nat) : Raw (w.drewN n) b g off cap ps f c := h
theorem Raw.put {w : World} {b g off cap : Nat} {ps : List Int} {f c : Int} (h : Raw w b g off cap ps f c) (j : Nat) (hj : j < ps.length) (v : Int) :
    Raw (w.setCell ⟨g, off + j, none⟩ (.int .i64 v)) b g off cap (ps.set j v) f c := by
  obtain ⟨h1, h2, h3⟩ := h
  refine ⟨?_, ?_, h3⟩
  · rw [List.length_set]; exact h1.other h3 _
  · rw [List.length_set]; exact (h2.stored j hj v).1
theorem Raw.first {w : World} {b g off cap : Nat} {ps : List Int} {f c : Int} (h : Raw w b g off cap ps f c) (f' : Int) : Raw (w.setCell ⟨b, 1, none⟩ (.int .i64 f')) b g off cap ps f' c :=
  ⟨by simpa using h.1.set 1 (.int .i64 f'), h.2.1.keep ((Keeps.refl [b] w).setCell (p := ⟨b, 1, none⟩) (by simp) _) (by simp [h.2.2.symm]), h.2.2⟩
theorem Raw.count {w : World} {b g off cap : Nat} {ps : List Int} {f c : Int} (h : Raw w b g off cap ps f c) (c' : Int) : Raw (w.setCell ⟨b, 2, none⟩ (.int .i64 c')) b g off cap ps f c' :=
  ⟨by simpa using h.1.set 2 (.int .i64 c'), h.2.1.keep ((Keeps.refl [b] w).setCell (p := ⟨b, 2, none⟩) (by simp) _) (by simp [h.2.2.symm]), h.2.2⟩
theorem Raw.rg {w : World} {b g off cap : Nat} {ps : List Int} {f : Nat} {c : Int} (h : Raw w b g off cap ps f c) {N : Nat} (hN : N = ps.length) (l : List Int) (hc : c = (l.length : Int)) (h64 : N ≤ 64) (hl : l = Rn.vals ps f l.length) (hle : l.length ≤ N) (hf : f < N) :
    Rg w (.pointer (some ⟨b, 0, none⟩)) N l [b, g] := by
  subst hc
  subst hN
  exact ⟨b, _, [g], ps, f, rfl, h.1, h.2.1, by simpa using h.2.2, rfl, rfl, h64, hl, hle, .inl hf⟩
theorem Raw.cells {w : World} {b g off cap : Nat} {ps : List Int} {f c : Int} (h : Raw w b g off cap ps f c) :
    w.cell? ⟨b, 0, none⟩ = some (.slice (some ⟨g, off, none⟩) ps.length cap) ∧ w.cell? ⟨b, 1, none⟩ = some (.int .i64 f) ∧ w.cell? ⟨b, 2, none⟩ = some (.int .i64 c) ∧ w.frozen? ⟨b, 1, none⟩ = false ∧ w.frozen? ⟨b, 2, none⟩ = false :=
  ⟨h.1.cell 0, h.1.cell 1, h.1.cell 2, h.1.free 1, h.1.free 2⟩
theorem Raw.place {w : World} {b g off cap : Nat} {ps : List Int} {f c : Int} (h : Raw w b g off cap ps f c) (j : Nat) (hj : j < ps.length) :
    w.cell? ⟨g, off + j, none⟩ = some (.int .i64 (ps.getD j 0)) ∧ w.frozen? ⟨g, off + j, none⟩ = false := by
  obtain ⟨g', off', e, _, _, hc, hf⟩ := h.2.1.cells (by omega)
  obtain ⟨rfl, rfl⟩ := by simpa using e
  exact ⟨hc j hj, hf j⟩
/-- a ring with places, opened -/
theorem Rg.raw {w : World} {b N : Nat} {l : List Int} {S : List Nat} (h : Rg w (.pointer (some ⟨b, 0, none⟩)) N l S) (hN : 0 < N) :
    ∃ g off cap ps f, N = ps.length ∧ S = [b, g] ∧ Raw w b g off cap ps ((f : Nat) : Int) l.length ∧ ps.length ≤ 64 ∧ l = Rn.vals ps f l.length ∧ l.length ≤ ps.length ∧ f < ps.length := by
  obtain ⟨b', sv, U, ps, f, hbb, hb, hr, hd, rfl, rfl, h64, hl, hle, hf⟩ := h
  obtain rfl : b = b' := by simpa using hbb
  obtain ⟨ao, cap, rfl⟩ := hr.shape
  obtain ⟨g, off, rfl, rfl, hg, hc, hfz⟩ := hr.cells (by omega)
  exact ⟨g, off, cap, ps, f, rfl, rfl, ⟨hb, hr, by simpa using hd⟩, h64, hl, hle, by omega⟩
theorem keeps_set {S : List Nat} {w : World} {p : Addr} (hp : p.block ∈ S) (u : Value) : Keeps S w (w.setCell p u) := (Keeps.refl S w).setCell (.inl hp) u

/-- what Put leaves -/
def PutPost (p : Value) (N : Nat) (l : List Int) (v : Int) (S : List Nat) (w : World) (e : Ending) (w' : World) : Prop :=
  e = .returned (.bool (decide (l.length < N))) ∧ Keeps S w w' ∧ Rg w' p N (Rn.putL N l v) S

set_option maxHeartbeats 800000 in
theorem ring_put (w : World) (p : Value) (N : Nat) (l : List Int) (S : List Nat) (v : Int) (h : Rg w p N l S) :
    Calls Try.prog 34 #[p, .int .i64 v] w (PutPost p N l v S w) := by
  obtain ⟨b, rfl⟩ := h.shape
  have H0 := Lib.hid h
  have hle := h.le
  clear h
  by_cases hlt : l.length < N
  · have hq : decide (l.length = N) = false := by simp; omega
    go_enter Try.func34, Try.ntmps34
    go_wp2_with fail
    refine (ring_full _ _ _ _ _ H0.out).mono ?_
    rintro e w1 ⟨rfl, m1, rfl⟩
    rw [hq]
    have h := H0.out.drewN m1
    have HW := Lib.hid ((Keeps.refl S w).drewN m1)
    generalize w.drewN m1 = w1 at *
    obtain ⟨g, off, cap, ps, f, rfl, rfl, hraw, h64, hl, _, hfN⟩ := h.raw (by omega)
    obtain ⟨j, hj⟩ : ∃ j, j = (f + l.length) % ps.length := ⟨_, rfl⟩
    have hjN : j < ps.length := by rw [hj]; exact Nat.mod_lt _ (by omega)
    have HPUT : Hid (l ++ [v] = Rn.vals (ps.set j v) f (l ++ [v]).length) := Lib.hid (by
      have hh := Rn.put ps f l.length v hlt
      rw [← hl] at hh
      rw [hj, List.length_append, List.length_singleton, hh])
    have HJ := Lib.hid hj
    have HF := Lib.hid (show decide (l.length < ps.length) = true by simpa using hlt)
    have HF2 : Hid (Rn.putL ps.length l v = l ++ [v]) := Lib.hid (if_pos hlt)
    obtain ⟨c0, c1, c2, _, f2⟩ := hraw.cells
    obtain ⟨cg, fg⟩ := hraw.place j hjN
    have hgb := hraw.2.2
    have HR := Lib.hid hraw
    clear hraw hj hl hq H0 h
    generalize ps.getD j 0 = x at *
    go_wp2_with fail
    go_region_held3 (fun w' => w'.cell? ⟨b, 0, none⟩ = some (.slice (some ⟨g, off, none⟩) ps.length cap) ∧ w'.cell? ⟨b, 2, none⟩ = some (.int .i64 l.length)) (first | exact ⟨c0, c2⟩ | exact ⟨(World.cell?_setCell_other _ _ _ _ (by simp [hgb, hgb.symm])).trans c0, (World.cell?_setCell_other _ _ _ _ (by simp [hgb, hgb.symm])).trans c2⟩)
      (first
        | (go_at_call 54; refine (ring_at _ b _ _ cap f l.length (by exact c0) (by exact c1) hfN h64 (by omega)).mono ?_; rintro e w2 ⟨rfl, m2, rfl⟩; rw [← HJ.out]))
    go_wp2_with fail
    go_ret
    refine ⟨ret_bool HF.out.symm, ?_, ?_⟩
    · exact HW.out.trans ((((Keeps.refl [b, g] w1).drewN _).setCell (by simp) _).setCell (by simp) _) (fun x hx => .inl hx)
    · rw [HF2.out]
      exact (((HR.out.draw _).put j hjN v).count ((l.length : Int) + 1)).rg (by simp) (l ++ [v]) (by simp) h64 HPUT.out (by simp; omega) hfN
  · have hq : decide (l.length = N) = true := by simp; omega
    have HF := Lib.hid (show decide (l.length < N) = false by simpa using hlt)
    have HF2 : Hid (Rn.putL N l v = l) := Lib.hid (if_neg hlt)
    go_enter Try.func34, Try.ntmps34
    go_wp2_with fail
    refine (ring_full _ _ _ _ _ H0.out).mono ?_
    rintro e w1 ⟨rfl, m1, rfl⟩
    rw [hq]
    go_wp2_with fail
    go_ret
    exact ⟨ret_bool HF.out.symm, (Keeps.refl _ _).drewN _, by rw [HF2.out]; exact H0.out.drewN _⟩


/-- what Get and Pass leave: a value, ok, and the list -/
def OutPost (p : Value) (N : Nat) (x : Int) (ok : Bool) (l' : List Int) (S : List Nat) (w : World) (e : Ending) (w' : World) : Prop :=
  e = .returned (.tuple #[.int .i64 x, .bool ok]) ∧ Keeps S w w' ∧ Rg w' p N l' S

set_option maxHeartbeats 800000 in
theorem ring_get (w : World) (p : Value) (N : Nat) (l : List Int) (S : List Nat) (h : Rg w p N l S) :
    Calls Try.prog 36 #[p] w (OutPost p N (Rn.hd l) (!l.isEmpty) l.tail S w) := by
  obtain ⟨b, rfl⟩ := h.shape
  have H0 := Lib.hid h
  have hle := h.le
  by_cases hl0 : l = []
  · subst hl0
    obtain ⟨b', sv, U, ps, f, hbb, hb, hr, hd, rfl, rfl, hrest⟩ := h
    clear hrest
    obtain rfl : b = b' := by simpa using hbb
    have c2 : w.cell? ⟨b, 2, none⟩ = some (.int .i64 (0 : Int)) := hb.cell 2
    clear hb hr hd hbb hle
    go_enter Try.func36, Try.ntmps36
    go_wp2
    go_ret2
    exact ⟨rfl, Keeps.refl _ _, H0.out⟩
  · have hlp : 0 < l.length := List.length_pos_iff.2 hl0
    obtain ⟨g, off, cap, ps, f, rfl, rfl, hraw, h64, hl, _, hfN⟩ := h.raw (by omega)
    have HHd : Hid (Rn.hd l = ps.getD f 0) := Lib.hid (by unfold Rn.hd; rw [hl]; exact Rn.head ps f _ hlp hfN)
    have HTl : Hid (l.tail = Rn.vals ps ((f + 1) % ps.length) l.tail.length) := Lib.hid (by
      rw [List.length_tail]
      have := Rn.get ps f l.length hlp
      rw [this, ← hl])
    have HE : Hid ((!l.isEmpty) = true) := Lib.hid (by simp [hl0])
    obtain ⟨j, hj⟩ : ∃ j, j = (f + 1) % ps.length := ⟨_, rfl⟩
    have hjN : j < ps.length := by rw [hj]; exact Nat.mod_lt _ (by omega)
    have HJ := Lib.hid hj
    have hq : ((l.length : Int) == 0) = false := by simp [hl0]
    obtain ⟨c0, c1, c2, f1, f2⟩ := hraw.cells
    obtain ⟨cg, fg⟩ := hraw.place f hfN
    have HR := Lib.hid hraw
    have h1l : 1 ≤ (l.length : Int) := by omega
    have hfI : (f : Int) < ps.length := by omega
    clear hraw hj hl hl0 h H0
    obtain ⟨x, HX⟩ : ∃ x, Hid (ps.getD f 0 = x) := ⟨_, rfl⟩
    rw [HX.out] at cg
    go_enter Try.func36, Try.ntmps36
    go_wp2_with fail
    go_quiet (fail)
    go_wp2_with fail
    refine (ring_at _ b _ _ cap f 1 (by exact c0) (by exact c1) hfN h64 (by omega)).mono ?_
    rintro e w2 ⟨rfl, m2, rfl⟩
    rw [← HJ.out]
    go_wp2_with fail
    go_ret2
    refine ⟨?_, ?_, ?_⟩
    · rw [HE.out, HHd.out, HX.out]; rfl
    · exact (((Keeps.refl [b, g] w).drewN _).setCell (by simp) _).setCell (by simp) _
    · refine ((((HR.out.draw _).first j).count ((l.length : Int) - 1)).rg rfl l.tail (by simp; omega) h64 ?_ (by simp; omega) hjN)
      rw [HJ.out]; exact HTl.out

set_option maxHeartbeats 1600000 in
theorem ring_pass (w : World) (p : Value) (N : Nat) (l : List Int) (S : List Nat) (v : Int) (h : Rg w p N l S) :
    Calls Try.prog 38 #[p, .int .i64 v] w (OutPost p N (Rn.passX N l) (Rn.passOk N l) (Rn.passL N l v) S w) := by
  obtain ⟨b, rfl⟩ := h.shape
  have H0 := Lib.hid h
  have hle := h.le
  by_cases hok : l.length = N ∧ l ≠ []
  · obtain ⟨hN, hl0⟩ := hok
    have hlp : 0 < l.length := List.length_pos_iff.2 hl0
    obtain ⟨g, off, cap, ps, f, rfl, rfl, hraw, h64, hl, _, hfN⟩ := h.raw (by omega)
    have HOK : Hid (Rn.passOk ps.length l = true) := Lib.hid (by simp [Rn.passOk, hN, hl0])
    have HHd : Hid (Rn.hd l = ps.getD f 0) := Lib.hid (by unfold Rn.hd; rw [hl]; exact Rn.head ps f _ hlp hfN)
    have HTl : Hid (l.tail ++ [v] = Rn.vals (ps.set f v) ((f + 1) % ps.length) (l.tail ++ [v]).length) := Lib.hid (by
      have e1 : (l.tail ++ [v]).length = ps.length := by simp; omega
      rw [e1, Rn.pass ps f v (by omega) hfN, ← hN, ← hl])
    obtain ⟨j, hj⟩ : ∃ j, j = (f + 1) % ps.length := ⟨_, rfl⟩
    have hjN : j < ps.length := by rw [hj]; exact Nat.mod_lt _ (by omega)
    have HJ := Lib.hid hj
    have hq : ((l.length : Int) == 0) = false := by simp [hl0]
    have hq2 : decide (l.length = ps.length) = true := by simp [hN]
    obtain ⟨c0, c1, c2, f1, f2⟩ := hraw.cells
    obtain ⟨cg, fg⟩ := hraw.place f hfN
    have HR := Lib.hid hraw
    have HN := Lib.hid hN
    have hfI : (f : Int) < ps.length := by omega
    have hgb := hraw.2.2
    clear hraw hj hl hl0 hN h
    obtain ⟨x, HX⟩ : ∃ x, Hid (ps.getD f 0 = x) := ⟨_, rfl⟩
    rw [HX.out] at cg
    go_enter Try.func38, Try.ntmps38
    go_wp2_with fail
    refine (ring_full _ _ _ _ _ H0.out).mono ?_
    rintro e w1 ⟨rfl, m1, rfl⟩
    rw [hq2]
    have HR1 := Lib.hid (HR.out.draw m1)
    have HW := Lib.hid ((Keeps.refl [b, g] w).drewN m1)
    clear HR H0 c0 c1 c2 f1 f2 cg fg hq2
    generalize w.drewN m1 = w1 at *
    obtain ⟨c0, c1, c2, f1, f2⟩ := HR1.out.cells
    obtain ⟨cg, fg⟩ := HR1.out.place f hfN
    rw [HX.out] at cg
    go_wp2_with fail
    go_quiet (fail)
    go_wp2_with fail
    go_region
    go_wp2_with fail
    have HR2 := Lib.hid ((HR1.out.draw (nq + 1)).put f hfN v)
    obtain ⟨e0, e1, e2, e3, e4⟩ := HR2.out.cells
    rw [List.length_set] at e0
    refine (ring_at _ b _ _ cap f 1 (by exact e0) (by exact e1) hfN h64 (by omega)).mono ?_
    rintro e w2 ⟨rfl, m2, rfl⟩
    rw [← HJ.out]
    go_wp2_with fail
    go_ret2
    refine ⟨?_, ?_, ?_⟩
    · rw [HOK.out]
      have : Rn.passX ps.length l = x := by simp only [Rn.passX, HOK.out, if_true]; rw [HHd.out, HX.out]
      rw [this]; rfl
    · exact HW.out.trans (((((Keeps.refl [b, g] w1).drewN _).setCell (by simp) _).drewN _).setCell (by simp) _) (fun x hx => .inl hx)
    · have : Rn.passL ps.length l v = l.tail ++ [v] := by simp only [Rn.passL, HOK.out, if_true]
      rw [this]
      refine ((HR2.out.draw _).first j).rg (by simp) (l.tail ++ [v]) (by simp; omega) h64 ?_ (by simp; omega) hjN
      rw [HJ.out]; exact HTl.out
  · have HF : Hid (Rn.passOk N l = false) := Lib.hid (by simp only [Rn.passOk]; rw [← Bool.not_eq_true]; simpa using hok)
    have HF2 : Hid (Rn.passX N l = 0) := Lib.hid (by simp [Rn.passX, HF.out])
    have HF3 : Hid (Rn.passL N l v = l) := Lib.hid (by simp [Rn.passL, HF.out])
    obtain ⟨b', sv, U, ps, f, hbb, hb, hr, hd, rfl, hrest⟩ := h
    clear hrest
    obtain rfl : b = b' := by simpa using hbb
    have c2 : w.cell? ⟨b, 2, none⟩ = some (.int .i64 l.length) := hb.cell 2
    cases hq : ((l.length : Int) == 0) with
    | true =>
      clear hb hr hd hbb hle hok
      go_enter Try.func38, Try.ntmps38
      go_wp2_with fail
      go_ret2
      exact ⟨by rw [HF.out, HF2.out]; rfl, Keeps.refl _ _, by rw [HF3.out]; exact H0.out⟩
    | false =>
      have hq2 : decide (l.length = N) = false := by
        simp at hq
        simp; intro e; exact hok ⟨e, hq⟩
      clear hb hr hd hbb hle hok
      go_enter Try.func38, Try.ntmps38
      go_wp2_with fail
      refine (ring_full _ _ _ _ _ H0.out).mono ?_
      rintro e w1 ⟨rfl, m1, rfl⟩
      rw [hq2]
      go_wp2_with fail
      go_ret2
      exact ⟨by rw [HF.out, HF2.out]; rfl, (Keeps.refl _ _).drewN _, by rw [HF3.out]; exact H0.out.drewN _⟩

end Go.Proofs.Ytgpcmifbkbgbjaa
