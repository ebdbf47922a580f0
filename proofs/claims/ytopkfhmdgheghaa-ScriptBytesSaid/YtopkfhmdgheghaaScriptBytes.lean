/-
  The law ScriptBytes: its walk.
  Conditions: none.
-/
import Derived.Test.YtopkfhmdgheghaaScriptO
import Derived.Test.YtopkfhmdgheghaaScriptH
import Derived.Test.YtopkfhmdgheghaaScriptS
import Derived.Test.YtopkfhmdgheghaaScriptX
import Derived.Laws.BytesArg
namespace Go.Proofs.Ytopkfhmdgheghaa
open Go.RowKit
set_option linter.unusedVariables false
set_option linter.unusedSimpArgs false
set_option linter.unnecessarySimpa false

/-- string(b) -/
theorem conv_bytes {P : Program} {src e dst : TypeId} (hs : P.underlying src = some (.slice e)) (he : P.underlying e = some (.int .u8)) (hd : P.underlying dst = some .string) {w : World} {v : Value} {l : List Int} {S : List Nat} (h : View w v 1 l.length (l.map (Value.int .u8)) S) :
    (convert src dst v).run P w = .ok (.string (strOfNums l)) w := by
  by_cases h0 : l.length = 0
  · obtain rfl := List.eq_nil_of_length_eq_zero h0
    obtain ⟨ao, cap, rfl⟩ := h.shape
    cases ao with
    | none => exact run_convert_bytes_nil w src e hs he _ _ dst hd
    | some a =>
      rw [run_convert_bytes_string w src dst e _ _ cap hs he hd, run_bytesToString w _ _ cap [] (by simp [loadCells, loadCellsFrom])]
      rfl
  · obtain ⟨ao, cap, rfl⟩ := h.shape
    obtain ⟨g, off, rfl, _, _, hc⟩ := h.cell (by omega)
    refine run_convert_bytes_arg w src e hs he g off _ cap l rfl (fun i hi => ?_) dst hd
    have := hc i (by simpa using hi)
    rw [this]; simp [List.getD, hi]

set_option maxRecDepth 100000 in
set_option maxHeartbeats 3200000 in
theorem scriptBytes_walk (w : World) (vb : Value) (lb : List Int) (SB : List Nat) (hb : GV (numE .u8) 1 w vb lb SB) (cs : Array Value) (s : Sn.Sc) (U : List Nat) (sz : cs.size = 5) (he : scE w cs.toList s U) (oc : ∀ y ∈ cs.toList, y.oneCell' = true) :
    Calls Try.prog 4 #[vb, .agg cs] w fun e w' => e = .returned (.bool true) ∧ Keeps [] w w' := by
  have hlb := hb.le
  unfold maxLen at hlb
  obtain ⟨ao2, cap2, rfl⟩ := hb.shape
  have HE0 : Hid (∀ w', Keeps [] w w' → scE w' cs.toList s U) := Lib.hid (fun w' k => scE_kept.1 he k (by simp))
  obtain ⟨vp, vd, vk, hcs, _⟩ := he
  obtain rfl : cs = #[vp, .int .i64 s.sudogs, .int .i64 s.cache, vd, vk] := by apply Array.toList_inj.1; exact hcs
  obtain ⟨hz1, hz2⟩ : vp.oneCell' = true ∧ vd.oneCell' = true := ⟨oc _ (by simp), oc _ (by simp)⟩
  have hz3 : vk.oneCell' = true := oc _ (by simp)
  have HB := Lib.hid hb
  obtain ⟨w0, hw0⟩ : ∃ w0, w.alloc (.cells #[vp, .int .i64 s.sudogs, .int .i64 s.cache, vd, vk] 42) = w0 := ⟨_, rfl⟩
  have H0 : Hid (Keeps [] w w0) := Lib.hid (hw0 ▸ (Keeps.refl [] w).alloc _)
  have HBX : Hid (Blk w0 w.heap.size [vp, .int .i64 s.sudogs, .int .i64 s.cache, vd, vk] 42) := Lib.hid (hw0 ▸ Blk.fresh w _ _ _ rfl)
  clear hb hcs oc
  go_enter Try.func4, Try.ntmps4
  go_wp2_with fail
  refine (script_alive _).mono ?_
  rintro e w1 ⟨rfl, k1⟩
  have K1 := Lib.hid k1
  clear hw0 k1
  obtain ⟨⟨c0, c1, c2, c3, c4⟩, _⟩ := Blk.five (HBX.out.keep K1.out (by simp))
  cases hq1 : decide (2000 < (lb.length : Int)) with
  | true =>
    go_wp2_with fail
    go_ret
    exact ⟨rfl, H0.out.then K1.out⟩
  | false =>
    have HL : Hid (lb.length ≤ 100000) := Lib.hid (by simp at hq1; omega)
    go_wp2_with fail
    refine (script_great _ _ s U (HE0.out _ (H0.out.then K1.out))).mono ?_
    rintro e w2 ⟨gr, rfl, hgr, k2⟩
    have K2 := Lib.hid (K1.out.then k2)
    clear k2 c0 c1 c2 c3 c4
    obtain ⟨⟨c0, c1, c2, c3, c4⟩, _⟩ := Blk.five (HBX.out.keep K2.out (by simp))
    cases gr with
    | true =>
      go_wp2_with fail
      go_ret
      exact ⟨rfl, H0.out.then K2.out⟩
    | false =>
      have HPB : Hid (s.picks.length ≤ 100000) := Lib.hid (by have := hgr rfl; omega)
      clear hgr
      go_wp2_with fail
      refine (script_write _ _ s U (HE0.out _ (H0.out.then K2.out)) HPB.out).mono ?_
      rintro e w3 ⟨v3, rfl, T3, r3, k3, _⟩
      have K3 := Lib.hid (K2.out.then k3)
      have R3 := Lib.hid r3
      obtain ⟨x, hx⟩ : ∃ x, Sn.write s = x := ⟨_, rfl⟩
      obtain ⟨er, her⟩ : ∃ er, Sn.err s = er := ⟨_, rfl⟩
      rw [hx] at R3 r3
      rw [her]
      have HX := Lib.hid hx
      have HER := Lib.hid her
      obtain ⟨a3, c3', rfl⟩ := r3.shape
      clear k3 r3 hx her c0 c1 c2 c3 c4
      obtain ⟨⟨c0, c1, c2, c3, c4⟩, _⟩ := Blk.five (HBX.out.keep K3.out (by simp))
      go_wp2_with fail
      refine (ref24_write _ _ s U (HE0.out _ (H0.out.then K3.out)) HPB.out).mono ?_
      unfold WrPost
      rw [HER.out, HX.out]
      rintro e w4 ⟨v4, rfl, T4, r4, k4, _⟩
      have K4 := Lib.hid (K3.out.then k4)
      have R34 := Lib.hid (R3.out.then k4)
      have R4 := Lib.hid r4
      obtain ⟨a4, c4', rfl⟩ := r4.shape
      clear k4 r4 c0 c1 c2 c3 c4
      go_wp2_with fail
      refine (script_read _ _ lb SB (HB.out.then (numE_kept _) (H0.out.then K4.out)) HL.out).mono ?_
      rintro e w5 ⟨cs5, U5, rfl, g5, k5⟩
      have K5 := Lib.hid (K4.out.then k5)
      have R35 := Lib.hid (R34.out.then k5)
      have R45 := Lib.hid (R4.out.then k5)
      have G5 := Lib.hid g5
      clear k5 g5
      go_wp2_with fail
      refine (ref24_read _ _ lb SB (HB.out.then (numE_kept _) (H0.out.then K5.out)) HL.out).mono ?_
      rintro e w6 ⟨cs6, U6, rfl, g6, k6⟩
      have K6 := Lib.hid (K5.out.then k6)
      have R36 := Lib.hid (R35.out.then k6)
      have R46 := Lib.hid (R45.out.then k6)
      have G56 : Hid (scE w6 cs5.toList (Sn.read lb) U5) := Lib.hid (scE_kept.1 G5.out k6 (by simp))
      have G6 := Lib.hid g6
      clear k6 g6
      go_wp2_with fail
      refine (ref24_same _ cs5.toList cs6.toList _ _ U5 U6 G56.out G6.out).mono ?_
      rintro e w7 ⟨rfl, k7⟩
      rw [decide_eq_true rfl]
      have K7 := Lib.hid (K6.out.then k7)
      have hv1 := conv_bytes (P := Try.prog) (dst := 9) Try.underlying35 Try.underlying5 Try.underlying9 (Row.view (R36.out.then k7))
      have hv2 := conv_bytes (P := Try.prog) (dst := 9) Try.underlying35 Try.underlying5 Try.underlying9 (Row.view (R46.out.then k7))
      clear k7
      go_wp2_with fail
      go_ret
      exact ⟨rfl, H0.out.then K7.out⟩
end Go.Proofs.Ytopkfhmdgheghaa
