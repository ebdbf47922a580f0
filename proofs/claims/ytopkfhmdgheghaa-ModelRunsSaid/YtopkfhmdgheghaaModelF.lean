/-
  Small functions of package model: contracts.
  Conditions: none.
-/
import Derived.Test.YtopkfhmdgheghaaModelE
import Derived.Deep.DrawnRows
namespace Go.Proofs.Ytopkfhmdgheghaa
open Go.RowKit
set_option linter.unusedVariables false
set_option linter.unusedSimpArgs false
set_option linter.unnecessarySimpa false

def SidePost (s : Option Md.Sd) (w : World) (e : Ending) (w' : World) : Prop := e = .returned (.tuple #[.agg (sdV (s.getD Md.noSide)), .bool s.isSome]) ∧ Keeps [] w w'

theorem side_ret {s : Option Md.Sd} {w w' : World} {t : Md.Sd} (h : s = some t) (k : Keeps [] w w') : SidePost s w (.returned (.tuple #[.agg #[.int .i64 t.ch, .bool t.send, .int .i64 t.v], .bool true])) w' := by
  subst h; exact ⟨rfl, k⟩
theorem side_no {s : Option Md.Sd} {w w' : World} (h : s = none) (k : Keeps [] w w') : SidePost s w (.returned (.tuple #[.agg #[.int .i64 0, .bool false, .int .i64 0], .bool false])) w' := by
  subst h; exact ⟨rfl, k⟩

set_option maxHeartbeats 1600000 in
theorem model_sideOf (w : World) (o : Pn.Op) (vc : Value) (U : List Nat) (i : Int) (h : GV caseE 3 w vc o.cases U) :
    Calls Try.prog 63 #[.agg (opV o vc), .int .i64 i] w (SidePost (Md.side o i) w) := by
  have hle := h.le
  unfold maxLen at hle
  obtain ⟨ao, cap, rfl⟩ := h.shape
  obtain ⟨s, hs⟩ : ∃ s, Md.side o i = s := ⟨_, rfl⟩
  rw [hs]
  have HS := Lib.hid hs
  have HO := Lib.hid h
  obtain ⟨kind, ch, n, v, cases, els⟩ := o
  simp only [opV] at *
  clear h hs
  by_cases h2 : kind = 2
  · subst h2
    by_cases hi : i = -1
    · subst hi
      go_enter Try.func63, Try.ntmps63
      go_wp2_with fail
      refine bodyPost_ret (v := .tuple #[.agg #[.int .i64 ch, .bool true, .int .i64 v], .bool true]) (by simp [results, Try.results63, go_sem]) rfl ?_
      exact side_ret (t := ⟨ch, true, v⟩) (by rw [← HS.out]; rfl) (((Keeps.refl [] w).alloc _).alloc _)
    · have hb : (i == -1) = false := by simp [hi]
      go_enter Try.func63, Try.ntmps63
      go_wp2_with fail
      refine bodyPost_ret (v := .tuple #[.agg #[.int .i64 0, .bool false, .int .i64 0], .bool false]) (by simp [results, Try.results63, go_sem]) rfl ?_
      exact side_no (by rw [← HS.out]; simp [Md.side, *]) (((Keeps.refl [] w).alloc _).alloc _)
  by_cases h4 : kind = 4
  · subst h4
    by_cases hi : i = -1
    · subst hi
      go_enter Try.func63, Try.ntmps63
      go_wp2_with fail
      refine bodyPost_ret (v := .tuple #[.agg #[.int .i64 ch, .bool true, .int .i64 v], .bool true]) (by simp [results, Try.results63, go_sem]) rfl ?_
      exact side_ret (t := ⟨ch, true, v⟩) (by rw [← HS.out]; rfl) (((Keeps.refl [] w).alloc _).alloc _)
    · have hb : (i == -1) = false := by simp [hi]
      go_enter Try.func63, Try.ntmps63
      go_wp2_with fail
      refine bodyPost_ret (v := .tuple #[.agg #[.int .i64 0, .bool false, .int .i64 0], .bool false]) (by simp [results, Try.results63, go_sem]) rfl ?_
      exact side_no (by rw [← HS.out]; simp [Md.side, *]) (((Keeps.refl [] w).alloc _).alloc _)
  by_cases h3 : kind = 3
  · subst h3
    by_cases hi : i = -1
    · subst hi
      go_enter Try.func63, Try.ntmps63
      go_wp2_with fail
      refine bodyPost_ret (v := .tuple #[.agg #[.int .i64 ch, .bool false, .int .i64 0], .bool true]) (by simp [results, Try.results63, go_sem]) rfl ?_
      exact side_ret (t := ⟨ch, false, 0⟩) (by rw [← HS.out]; rfl) (((Keeps.refl [] w).alloc _).alloc _)
    · have hb : (i == -1) = false := by simp [hi]
      go_enter Try.func63, Try.ntmps63
      go_wp2_with fail
      refine bodyPost_ret (v := .tuple #[.agg #[.int .i64 0, .bool false, .int .i64 0], .bool false]) (by simp [results, Try.results63, go_sem]) rfl ?_
      exact side_no (by rw [← HS.out]; simp [Md.side, *]) (((Keeps.refl [] w).alloc _).alloc _)
  by_cases h5 : kind = 5
  · subst h5
    by_cases hi : i = -1
    · subst hi
      go_enter Try.func63, Try.ntmps63
      go_wp2_with fail
      refine bodyPost_ret (v := .tuple #[.agg #[.int .i64 ch, .bool false, .int .i64 0], .bool true]) (by simp [results, Try.results63, go_sem]) rfl ?_
      exact side_ret (t := ⟨ch, false, 0⟩) (by rw [← HS.out]; rfl) (((Keeps.refl [] w).alloc _).alloc _)
    · have hb : (i == -1) = false := by simp [hi]
      go_enter Try.func63, Try.ntmps63
      go_wp2_with fail
      refine bodyPost_ret (v := .tuple #[.agg #[.int .i64 0, .bool false, .int .i64 0], .bool false]) (by simp [results, Try.results63, go_sem]) rfl ?_
      exact side_no (by rw [← HS.out]; simp [Md.side, *]) (((Keeps.refl [] w).alloc _).alloc _)
  have b2 : (kind == 2) = false := by simp [h2]
  have b4 : (kind == 4) = false := by simp [h4]
  have b3 : (kind == 3) = false := by simp [h3]
  have b5 : (kind == 5) = false := by simp [h5]
  by_cases h9 : kind = 9
  · subst h9
    by_cases hi : 0 ≤ i
    · obtain ⟨k, rfl⟩ : ∃ k : Nat, i = (k : Int) := ⟨i.toNat, by omega⟩
      by_cases hk : k < cases.length
      · obtain ⟨c, hc⟩ : ∃ c, cases[k]? = some c := ⟨_, List.getElem?_eq_getElem hk⟩
        obtain ⟨g, off, rfl, _, hg, a0, a1, a2⟩ := HO.out.case hc
        have HE : Hid (s = some ⟨c.ch, c.send, c.v⟩) := Lib.hid (by rw [← HS.out, Md.side_case rfl (by omega)]; simp [hc])
        have i0 : (0 : Int) ≤ (k : Int) := by omega
        have i1 : (k : Int) < (cases.length : Int) := by omega
        clear hc
        go_enter Try.func63, Try.ntmps63
        go_wp2_with fail
        refine bodyPost_ret (v := .tuple #[.agg #[.int .i64 c.ch, .bool c.send, .int .i64 c.v], .bool true]) (by simp [results, Try.results63, go_sem]) rfl ?_
        exact side_ret HE.out ((((Keeps.refl [] w).alloc _).alloc _).alloc _)
      · have HE : Hid (s = none) := Lib.hid (by rw [← HS.out, Md.side_case rfl (by omega)]; simp; omega)
        go_enter Try.func63, Try.ntmps63
        go_wp2_with fail
        refine bodyPost_ret (v := .tuple #[.agg #[.int .i64 0, .bool false, .int .i64 0], .bool false]) (by simp [results, Try.results63, go_sem]) rfl ?_
        exact side_no HE.out (((Keeps.refl [] w).alloc _).alloc _)
    · have HE : Hid (s = none) := Lib.hid (by rw [← HS.out]; simp [Md.side]; omega)
      go_enter Try.func63, Try.ntmps63
      go_wp2_with fail
      refine bodyPost_ret (v := .tuple #[.agg #[.int .i64 0, .bool false, .int .i64 0], .bool false]) (by simp [results, Try.results63, go_sem]) rfl ?_
      exact side_no HE.out (((Keeps.refl [] w).alloc _).alloc _)
  · have b9 : (kind == 9) = false := by simp [h9]
    have HE : Hid (s = none) := Lib.hid (by rw [← HS.out]; simp [Md.side, *])
    go_enter Try.func63, Try.ntmps63
    go_wp2_with fail
    refine bodyPost_ret (v := .tuple #[.agg #[.int .i64 0, .bool false, .int .i64 0], .bool false]) (by simp [results, Try.results63, go_sem]) rfl ?_
    exact side_no HE.out (((Keeps.refl [] w).alloc _).alloc _)
end Go.Proofs.Ytopkfhmdgheghaa
