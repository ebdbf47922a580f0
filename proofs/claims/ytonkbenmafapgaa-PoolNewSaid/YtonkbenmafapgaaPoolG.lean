/-
  The contract of handofflaw05.open.
  Conditions: none.
-/
import Derived.Test.YtonkbenmafapgaaPoolF
namespace Go.Proofs.Ytonkbenmafapgaa
open Go.RowKit
set_option linter.unusedVariables false
set_option linter.unusedSimpArgs false
set_option linter.unnecessarySimpa false

/-- the document's pool w (size, most, caches of which none has anything) and the program's -/
def OpenPost (N T mo : Nat) (w : World) (e : Ending) (w' : World) : Prop :=
  ∃ p S g, e = .returned (.tuple #[p, .agg #[.int .i64 N, .int .i64 mo, .slice (some ⟨g, 0, none⟩) T T, .slice none 0 0, .int .i64 0], .bool true]) ∧ Fresh w w' S ∧ PS w' p N mo (Po.new N T) S ∧
    Row w' (.slice (some ⟨g, 0, none⟩) T T) 27 1 T (List.replicate T (.slice none 0 0)) [g] ∧ g ∉ S ∧ w.heap.size ≤ g

theorem Blk.cells5 {w : World} {g : Nat} {a b c d e : Value} {t : TypeId} (h : Blk w g [a, b, c, d, e] t) : (w.cell? ⟨g, 0, none⟩ = some a ∧ w.cell? ⟨g, 1, none⟩ = some b ∧ w.cell? ⟨g, 2, none⟩ = some c ∧ w.cell? ⟨g, 3, none⟩ = some d ∧ w.cell? ⟨g, 4, none⟩ = some e) ∧
    (w.frozen? ⟨g, 0, none⟩ = false ∧ w.frozen? ⟨g, 1, none⟩ = false ∧ w.frozen? ⟨g, 2, none⟩ = false ∧ w.frozen? ⟨g, 3, none⟩ = false ∧ w.frozen? ⟨g, 4, none⟩ = false) :=
  ⟨⟨h.cell 0, h.cell 1, h.cell 2, h.cell 3, h.cell 4⟩, ⟨h.free 0, h.free 1, h.free 2, h.free 3, h.free 4⟩⟩

theorem open_fin {w w2 W : World} {N T mo b g : Nat} {S2 : List Nat} {v0 v1 v2 v3 v4 : Value} (hW : W = (((((w2.setCell ⟨w.heap.size + 1, 0, none⟩ v0).setCell ⟨w.heap.size + 1, 1, none⟩ v1).setCell ⟨w.heap.size + 1, 2, none⟩ v2).setCell ⟨w.heap.size + 1, 3, none⟩ v3).setCell ⟨w.heap.size + 1, 4, none⟩ v4).drew)
    (kw : Keeps [] w w2) (h2 : PS w2 (.pointer (some ⟨b, 0, none⟩)) N mo (Po.new N T) S2) (sw : ∀ k ∈ S2, w.heap.size + 4 ≤ k) (hg : Row w2 (.slice (some ⟨g, 0, none⟩) T T) 27 1 T (List.replicate T (.slice none 0 0)) [g]) (g1 : w.heap.size + 2 ≤ g) (g2 : g < w.heap.size + 4) :
    OpenPost N T mo w (.returned (.tuple #[.pointer (some ⟨b, 0, none⟩), .agg #[.int .i64 N, .int .i64 mo, .slice (some ⟨g, 0, none⟩) T T, .slice none 0 0, .int .i64 0], .bool true])) W := by
  subst hW
  have kc : Keeps [w.heap.size + 1] w2 ((((((w2.setCell ⟨w.heap.size + 1, 0, none⟩ v0).setCell ⟨w.heap.size + 1, 1, none⟩ v1).setCell ⟨w.heap.size + 1, 2, none⟩ v2).setCell ⟨w.heap.size + 1, 3, none⟩ v3).setCell ⟨w.heap.size + 1, 4, none⟩ v4).drew) :=
    ((((((Keeps.refl _ w2).setCell (by simp) _).setCell (by simp) _).setCell (by simp) _).setCell (by simp) _).setCell (by simp) _).drew
  refine ⟨_, S2, g, rfl, ⟨kw.trans kc (by simp), fun k hk => by have := sw k hk; omega⟩, h2.keep kc (fun x hx => by have := sw x hx; simp; omega), hg.keep kc (by simp; omega), fun h => by have := sw g h; omega, by omega⟩

set_option maxRecDepth 100000 in
set_option maxHeartbeats 1600000 in
theorem pool_open (w : World) (a0 a1 a2 : Int) (N T mo : Nat) (b0 : 0 ≤ a0 ∧ a0 ≤ 255) (b1 : 0 ≤ a1 ∧ a1 ≤ 255) (b2 : 0 ≤ a2 ∧ a2 ≤ 255) (hN : a0 % 30 = (N : Int)) (hT : a1 % 9 = (T : Int)) (hm : 1 + a2 % 16 = (mo : Int)) :
    Calls Try.prog 19 #[.agg #[.int .u8 a0, .int .u8 a1, .int .u8 a2]] w (OpenPost N T mo w) := by
  obtain ⟨p0, q0⟩ := b0
  obtain ⟨p1, q1⟩ := b1
  obtain ⟨p2, q2⟩ := b2
  have hN30 : N ≤ 30 := by omega
  have hT8 : T ≤ 8 := by omega
  have hm1 : 1 ≤ mo := by omega
  have hm2 : mo ≤ 16 := by omega
  have mk1 : ∀ w : World, (Instr.makeSlice 36 (.int .i64 (T : Int)) (.int .i64 (T : Int))).run Try.prog w = .ok (.slice (some ⟨w.heap.size, 0, none⟩) T T) (w.alloc (.cells (List.replicate T (.slice none 0 0)).toArray 27)) := fun w => by
    rw [← made_rep]
    exact run_make_row' 36 27 (.slice none 0 0) 24 Try.underlying36 (by kernel_rfl) rfl .i64 .i64 T (by omega) (by omega) w
  go_enter Try.func19, Try.ntmps19
  go_wp2_with fail
  go_region
  · go_wp2_with fail
    refine (pool_new _ N T mo (by omega) hT8 hm1 hm2).mono ?_
    rintro e w2 ⟨p, S2, rfl, k2, h2, s2⟩
    obtain ⟨b, rfl⟩ := h2.shape
    have K2 := Lib.hid k2
    have H2 := Lib.hid h2
    have S2' := Lib.hid s2
    clear k2 h2 s2
    go_wp2_with fail
    have hb3 : Blk w2 (w.heap.size + 1) [.int .i64 0, .int .i64 0, .slice none 0 0, .slice none 0 0, .int .i64 0] 38 :=
      Blk.keep (Blk.drew (Blk.alloc (Blk.alloc (blk_new _ _ _ _ (by simp)) _) _)) K2.out (by simp)
    have hd : Blk w2 (w.heap.size + 1 + 1 + 1) [.int .i64 N, .int .i64 mo, .slice (some ⟨w.heap.size + 1 + 1, 0, none⟩) T T, .slice none 0 0, .int .i64 0] 38 := Blk.keep (Blk.drew (blk_new _ _ _ _ (by simp))) K2.out (by simp)
    have HG := Lib.hid (Row.keep (Row.then (Row.alloc (row_rep _ (.slice none 0 0) T 27 (w.heap.size + 1 + 1) (by omega) (by simp)) _) (Keeps.refl [] _).drew) K2.out (by simp))
    obtain ⟨⟨c0, c1, c2, c3, c4⟩, f0, f1, f2, f3, f4⟩ := hb3.cells5
    obtain ⟨⟨d0, d1, d2, d3, d4⟩, _⟩ := hd.cells5
    have KW : Hid (Keeps [] w w2) := Lib.hid ((((((Keeps.refl [] w).alloc _).alloc _).alloc _).alloc _).drew.then K2.out)
    have SW : Hid (∀ k ∈ S2, w.heap.size + 4 ≤ k) := Lib.hid (fun k hk => by have := S2'.out k hk; simp at this; omega)
    clear hb3 hd K2 S2'
    go_region
    go_wp2_with fail
    refine bodyPost_ret (v := .tuple #[.pointer (some ⟨b, 0, none⟩), .agg #[.int .i64 N, .int .i64 mo, .slice (some ⟨w.heap.size + 1 + 1, 0, none⟩) T T, .slice none 0 0, .int .i64 0], .bool true]) (by simp [results, Try.results19, go_sem, c0, c1, c2, c3, c4]) rfl ?_
    exact open_fin rfl KW.out H2.out SW.out HG.out (by omega) (by omega)
  · go_wp2_with fail
    refine (pool_new _ N T mo (by omega) hT8 hm1 hm2).mono ?_
    rintro e w2 ⟨p, S2, rfl, k2, h2, s2⟩
    obtain ⟨b, rfl⟩ := h2.shape
    have K2 := Lib.hid k2
    have H2 := Lib.hid h2
    have S2' := Lib.hid s2
    clear k2 h2 s2
    go_wp2_with fail
    have hb3 : Blk w2 (w.heap.size + 1) [.int .i64 0, .int .i64 0, .slice none 0 0, .slice none 0 0, .int .i64 0] 38 :=
      Blk.keep (Blk.drew (Blk.alloc (Blk.alloc (blk_new _ _ _ _ (by simp)) _) _)) K2.out (by simp)
    have hd : Blk w2 (w.heap.size + 1 + 1) [.int .i64 N, .int .i64 mo, .slice (some ⟨w.heap.size + 1 + 1 + 1, 0, none⟩) T T, .slice none 0 0, .int .i64 0] 38 := Blk.keep (Blk.drew (Blk.alloc (blk_new _ _ _ _ (by simp)) _)) K2.out (by simp)
    have HG := Lib.hid (Row.keep (Row.then (row_rep _ (.slice none 0 0) T 27 (w.heap.size + 1 + 1 + 1) (by omega) (by simp)) (Keeps.refl [] _).drew) K2.out (by simp))
    obtain ⟨⟨c0, c1, c2, c3, c4⟩, f0, f1, f2, f3, f4⟩ := hb3.cells5
    obtain ⟨⟨d0, d1, d2, d3, d4⟩, _⟩ := hd.cells5
    have KW : Hid (Keeps [] w w2) := Lib.hid ((((((Keeps.refl [] w).alloc _).alloc _).alloc _).alloc _).drew.then K2.out)
    have SW : Hid (∀ k ∈ S2, w.heap.size + 4 ≤ k) := Lib.hid (fun k hk => by have := S2'.out k hk; simp at this; omega)
    clear hb3 hd K2 S2'
    go_region
    go_wp2_with fail
    refine bodyPost_ret (v := .tuple #[.pointer (some ⟨b, 0, none⟩), .agg #[.int .i64 N, .int .i64 mo, .slice (some ⟨w.heap.size + 1 + 1 + 1, 0, none⟩) T T, .slice none 0 0, .int .i64 0], .bool true]) (by simp [results, Try.results19, go_sem, c0, c1, c2, c3, c4]) rfl ?_
    exact open_fin rfl KW.out H2.out SW.out HG.out (by omega) (by omega)
end Go.Proofs.Ytonkbenmafapgaa
