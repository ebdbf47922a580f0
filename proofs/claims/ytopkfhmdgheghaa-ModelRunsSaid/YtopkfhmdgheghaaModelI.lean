/-
  makes and closes of package model: contracts.
  Conditions: none.
-/
import Derived.Test.YtopkfhmdgheghaaModelH
namespace Go.Proofs.Ytopkfhmdgheghaa
open Go.RowKit
set_option linter.unusedVariables false
set_option linter.unusedSimpArgs false
set_option linter.unnecessarySimpa false

theorem elemChan : Elem Try.prog 101 136 3 40 (.agg #[.int .i64 0, .slice none 0 0, .bool false]) := ⟨Try.underlying101, by kernel_rfl, rfl, by decide, by decide⟩
theorem elemI64 : Elem Try.prog 22 2 1 8 (.int .i64 0) := ⟨Try.underlying22, by kernel_rfl, rfl, by decide, by decide⟩
def ZR : List Value := [.int .i64 0, .int .i64 0, .int .i64 0, .bool false, .int .i64 0]

/-- a block of five cells -/
theorem Blk.res5 {w : World} {g : Nat} {a b c d e : Value} {t : TypeId} (h : Blk w g [a, b, c, d, e] t) : (w.cell? ⟨g, 0, none⟩ = some a ∧ w.cell? ⟨g, 1, none⟩ = some b ∧ w.cell? ⟨g, 2, none⟩ = some c ∧ w.cell? ⟨g, 3, none⟩ = some d ∧ w.cell? ⟨g, 4, none⟩ = some e) ∧
    (w.frozen? ⟨g, 0, none⟩ = false ∧ w.frozen? ⟨g, 1, none⟩ = false ∧ w.frozen? ⟨g, 2, none⟩ = false ∧ w.frozen? ⟨g, 3, none⟩ = false ∧ w.frozen? ⟨g, 4, none⟩ = false) :=
  ⟨⟨h.cell 0, h.cell 1, h.cell 2, h.cell 3, h.cell 4⟩, ⟨h.free 0, h.free 1, h.free 2, h.free 3, h.free 4⟩⟩
theorem res_fin {S : List Nat} {w w1 w8 W : World} {p : Value} {st : Md.St} {N : Nat} (K1 : Keeps [] w w1) (hn : w.heap.size < w1.heap.size) (h : MoTo S w1 w8 p st N) (hS : ∀ x ∈ S, x < w.heap.size) (kW : Keeps [w.heap.size] w8 W) : MoTo S w W p st N := by
  obtain ⟨S2, h1, h2, h3⟩ := h
  refine ⟨S2, h1.keep kW (fun x hx => ?_), ((K1.mono (by simp)).trans h2 (fun x hx => .inl hx)).trans kW (by simp), fun x hx => ?_⟩
  · rcases h3 x hx with h | h
    · have := hS x h; simp; omega
    · simp; omega
  · rcases h3 x hx with h | h
    · exact .inl h
    · exact .inr (by omega)

set_option maxHeartbeats 1600000 in
theorem model_makes (w : World) (p : Value) (st : Md.St) (N : Nat) (S : List Nat) (room : Int) (h : Mo w p st N S) :
    Calls Try.prog 44 #[p, .int .i64 room] w (ResPost S w p ⟨(Md.makes st.chans room).1, st.waits⟩ N (Md.makes st.chans room).2) := by
  obtain ⟨b, bm, vh, T, Us, SW, f, col, rfl, hm⟩ := h
  obtain ⟨ao, cap, rfl⟩ := hm.chans.shape
  have hle := hm.chans.le
  unfold maxLen at hle
  obtain ⟨c0, c1, f0, f1⟩ := hm.cells
  have HM := Lib.hid hm
  have hbl := hm.lt b hm.sb
  clear hm
  by_cases h8 : 8 ≤ st.chans.length
  · have HE : Hid (Md.makes st.chans room = (st.chans, ⟨7, -1, 0, false, 0⟩)) := Lib.hid (by unfold Md.makes; rw [if_pos h8])
    rw [HE.out]
    have h8' : (8 : Int) ≤ (st.chans.length : Int) := by omega
    clear h8
    have A0 : ∀ x : Obj, (w.alloc x).cell? ⟨b, 0, none⟩ = some (.slice ao st.chans.length cap) := fun x => ((Keeps.refl [] w).alloc x).cell c0 (by simp)
    go_enter Try.func44, Try.ntmps44
    go_wp2_with fail
    refine bodyPost_ret (v := .agg #[.int .i64 7, .int .i64 (-1), .int .i64 0, .bool false, .int .i64 0]) (by simp [results, Try.results44, go_sem]) rfl ?_
    exact res_ret (r' := ⟨7, -1, 0, false, 0⟩) rfl rfl (MoTo.refl ⟨b, bm, _, T, Us, SW, f, col, rfl, HM.out.then ((Keeps.refl [] w).alloc _)⟩ ((Keeps.refl [] w).alloc _))
  · have HE : Hid (Md.makes st.chans room = (st.chans ++ [⟨room, [], false⟩], ⟨1, -1, 0, true, (st.chans.length : Int) + 1⟩)) := Lib.hid (by unfold Md.makes; rw [if_neg h8])
    rw [HE.out]
    have h8' : ¬ ((8 : Int) ≤ (st.chans.length : Int)) := by omega
    obtain ⟨w1, hw1⟩ : ∃ w1, w.alloc (.cells ZR.toArray 28) = w1 := ⟨_, rfl⟩
    have K1 : Hid (Keeps [] w w1) := Lib.hid (hw1 ▸ (Keeps.refl [] w).alloc _)
    have HZ : Hid (Blk w1 w.heap.size ZR 28) := Lib.hid (hw1 ▸ Blk.fresh w _ _ _ rfl)
    have HM1 := Lib.hid (HM.out.then K1.out)
    obtain ⟨⟨xs, hr, hp⟩, _⟩ := HM1.out.chans
    have HR := Lib.hid hr
    have HP := Lib.hid hp
    have A0 : w1.cell? ⟨b, 0, none⟩ = some (.slice ao st.chans.length cap) := HM1.out.cells.1
    clear hr hp c0 c1 f0 f1
    unfold ZR at hw1
    go_enter Try.func44, Try.ntmps44
    go_wp2_with (at_builtin; go_must (refine wp_app1 elemChan (m := 1) (ys := [.int .i64 room, .slice none 0 0, .bool false]) HR.out rfl one_le_max (by intro y hy; simp at hy; rcases hy with rfl | rfl | rfl <;> rfl) (by omega) ?_))
    intro ao7 cap7 w7 T7 r7 k7 s7
    obtain ⟨n1, n2, n3, n4, n5⟩ := HM1.out.nT
    obtain ⟨S2, col2, hM2, kS, sS⟩ := HM1.out.more (room := room) (by have := HR.out.len; omega) HP.out r7 k7 s7
    have hnT : w.heap.size ∉ T := fun hm => by have := HM.out.lt _ (HM.out.st _ hm); omega
    have hz7 := HZ.out.keep k7 hnT
    have hb7 := HM1.out.blk.keep k7 n1
    have f0 : w7.frozen? ⟨b, 0, none⟩ = false := hb7.free 0
    have c0 : w7.cell? ⟨b, 0, none⟩ = some (.slice ao st.chans.length cap) := hb7.cell 0
    have HZ8 := Lib.hid (hz7.other (a := ⟨b, 0, none⟩) (by simp; omega) (.slice ao7 (st.chans.length + 1) cap7))
    have HM2 := Lib.hid hM2
    have HK := Lib.hid kS
    have HS := Lib.hid sS
    clear r7 k7 s7 hM2 kS sS hz7 hb7 n1 n2 n3 n4 n5 hw1
    have hz := HZ8.out
    try unfold ZR at hz
    obtain ⟨⟨d0, d1, d2, d3, d4⟩, e0, e1, e2, e3, e4⟩ := Blk.res5 hz
    have hzz := ((((hz.set 0 (.int .i64 1)).set 1 (.int .i64 (-1))).set 2 (.int .i64 0)).set 3 (.bool true)).set 4 (.int .i64 ((st.chans.length : Int) + 1))
    simp only [List.set_cons_succ, List.set_cons_zero] at hzz
    have HZZ := Lib.hid hzz
    have KW := Lib.hid ((((((Keeps.refl [w.heap.size] (w7.setCell ⟨b, 0, none⟩ (.slice ao7 (st.chans.length + 1) cap7))).setCell (p := ⟨w.heap.size, 0, none⟩) (by simp) (.int .i64 1)).setCell (p := ⟨w.heap.size, 1, none⟩) (by simp) (.int .i64 (-1))).setCell (p := ⟨w.heap.size, 2, none⟩) (by simp) (.int .i64 0)).setCell (p := ⟨w.heap.size, 3, none⟩) (by simp) (.bool true)).setCell (p := ⟨w.heap.size, 4, none⟩) (by simp) (.int .i64 ((st.chans.length : Int) + 1)))
    clear hz hzz
    go_wp2_with fail
    obtain ⟨⟨z0, z1, z2, z3, z4⟩, _⟩ := Blk.res5 HZZ.out
    refine bodyPost_ret (v := .agg #[.int .i64 1, .int .i64 (-1), .int .i64 0, .bool true, .int .i64 ((st.chans.length : Int) + 1)]) (by simp [results, Try.results44, go_sem, z0, z1, z2, z3, z4]) rfl ?_
    exact res_ret (r' := ⟨1, -1, 0, true, (st.chans.length : Int) + 1⟩) rfl rfl (res_fin K1.out (by have := HZ.out.lt; exact this) ⟨S2, ⟨b, bm, _, _, _, _, _, _, rfl, HM2.out⟩, HK.out, HS.out⟩ HM.out.lt KW.out)
set_option maxHeartbeats 1600000 in
theorem model_closes (w : World) (p : Value) (st : Md.St) (N : Nat) (S : List Nat) (ch : Int) (h : Mo w p st N S) :
    Calls Try.prog 46 #[p, .int .i64 ch] w (ResPost S w p ⟨(Md.closes st.chans ch).1, st.waits⟩ N (Md.closes st.chans ch).2) := by
  obtain ⟨b, bm, vh, T, Us, SW, f, col, rfl, hm⟩ := h
  obtain ⟨ao, cap, rfl⟩ := hm.chans.shape
  have hle := hm.chans.le
  have HM := Lib.hid hm
  clear hm
  by_cases hin : 1 ≤ ch ∧ ch ≤ (st.chans.length : Int)
  · obtain ⟨k, rfl⟩ : ∃ k : Nat, ch = (k : Int) + 1 := ⟨(ch - 1).toNat, by omega⟩
    have hk : k < st.chans.length := by omega
    obtain ⟨c, hc, hc2⟩ := Md.chan_some hin.1 hin.2
    have HPC : Hid (∀ d, Md.putChan st.chans ((k : Int) + 1) d = st.chans.set k d) := Lib.hid (fun d => by unfold Md.putChan; rw [show ((k : Int) + 1 - 1).toNat = k by omega])
    rw [show ((k : Int) + 1 - 1).toNat = k by omega] at hc2
    obtain ⟨g, off, bv, U, rfl, htg, hg, a0, a1, a2, _, hb, _, _⟩ := HM.out.chans.get hc2
    have HC := Lib.hid hc
    have HC2 := Lib.hid hc2
    clear hc hc2 hb
    cases hcl : c.closed with
    | true =>
      have HE : Hid (Md.closes st.chans ((k : Int) + 1) = (st.chans, ⟨4, -1, 0, false, 0⟩)) := Lib.hid (by unfold Md.closes; rw [HC.out]; simp [hcl])
      rw [HE.out]
      rw [hcl] at a2
      have A2 : ∀ x : Obj, (w.alloc x).cell? ⟨g, off + k * 3 + 2, none⟩ = some (.bool true) := fun x => ((Keeps.refl [] w).alloc x).cell a2 (by simp)
      clear hcl
      go_enter Try.func46, Try.ntmps46
      go_wp2_with fail
      refine (model_channel _ b _ _ g off k _ (HM.out.blk.alloc _) hle hk).mono ?_
      rintro e w1 ⟨rfl, rfl⟩
      go_wp2_with fail
      refine bodyPost_ret (v := .agg #[.int .i64 4, .int .i64 (-1), .int .i64 0, .bool false, .int .i64 0]) (by simp [results, Try.results46, go_sem]) rfl ?_
      exact res_ret (r' := ⟨4, -1, 0, false, 0⟩) rfl rfl (MoTo.refl ⟨b, bm, _, T, Us, SW, f, col, rfl, HM.out.then ((Keeps.refl [] w).alloc _)⟩ ((Keeps.refl [] w).alloc _))
    | false =>
      have HE : Hid (Md.closes st.chans ((k : Int) + 1) = (st.chans.set k ⟨c.cap, c.buf, true⟩, ⟨1, -1, 0, true, 0⟩)) := Lib.hid (by unfold Md.closes; rw [HC.out]; simp [hcl, HPC.out])
      rw [HE.out]
      obtain ⟨w1, hw1⟩ : ∃ w1, w.alloc (.cells #[.int .i64 0, .int .i64 0, .int .i64 0, .bool false, .int .i64 0] 28) = w1 := ⟨_, rfl⟩
      have K1 : Hid (Keeps [] w w1) := Lib.hid (hw1 ▸ (Keeps.refl [] w).alloc _)
      have HZ : Hid (Blk w1 w.heap.size ZR 28) := Lib.hid (hw1 ▸ Blk.fresh w ZR _ _ rfl)
      have HM1 := Lib.hid (HM.out.then K1.out)
      obtain ⟨g', off', _, _, hgo, _, _, A0, A1, A2, AF, _, _, _⟩ := HM1.out.chans.get HC2.out
      obtain ⟨rfl, rfl⟩ : g = g' ∧ off = off' := by simpa using hgo
      rw [hcl] at A2
      have AF2 := AF (k * 3 + 2)
      rw [← Nat.add_assoc] at AF2
      clear hcl A0 A1 AF hgo a0 a1 a2
      go_enter Try.func46, Try.ntmps46
      go_wp2_with fail
      refine (model_channel _ b _ _ g off k _ HM1.out.blk hle hk).mono ?_
      rintro e w1' ⟨rfl, rfl⟩
      obtain ⟨hM2, kS⟩ := HM1.out.shut HC2.out
      have HZ8 := Lib.hid (HZ.out.other (a := ⟨g, off + k * 3 + 2, none⟩) (by simp; omega) (.bool true))
      have HM2 := Lib.hid hM2
      have HK := Lib.hid kS
      clear hM2 kS hw1
      have hz := HZ8.out
      try unfold ZR at hz
      obtain ⟨⟨d0, d1, d2, d3, d4⟩, e0, e1, e2, e3, e4⟩ := Blk.res5 hz
      have hzz := ((((hz.set 0 (.int .i64 1)).set 1 (.int .i64 (-1))).set 2 (.int .i64 0)).set 3 (.bool true)).set 4 (.int .i64 0)
      simp only [List.set_cons_succ, List.set_cons_zero] at hzz
      have HZZ := Lib.hid hzz
      have KW := Lib.hid ((((((Keeps.refl [w.heap.size] (w1.setCell ⟨g, off + k * 3 + 2, none⟩ (.bool true))).setCell (p := ⟨w.heap.size, 0, none⟩) (by simp) (.int .i64 1)).setCell (p := ⟨w.heap.size, 1, none⟩) (by simp) (.int .i64 (-1))).setCell (p := ⟨w.heap.size, 2, none⟩) (by simp) (.int .i64 0)).setCell (p := ⟨w.heap.size, 3, none⟩) (by simp) (.bool true)).setCell (p := ⟨w.heap.size, 4, none⟩) (by simp) (.int .i64 0))
      clear hz hzz
      go_wp2_with fail
      obtain ⟨⟨z0, z1, z2, z3, z4⟩, _⟩ := Blk.res5 HZZ.out
      refine bodyPost_ret (v := .agg #[.int .i64 1, .int .i64 (-1), .int .i64 0, .bool true, .int .i64 0]) (by simp [results, Try.results46, go_sem, z0, z1, z2, z3, z4]) rfl ?_
      exact res_ret (r' := ⟨1, -1, 0, true, 0⟩) rfl rfl (res_fin K1.out (by have := HZ.out.lt; exact this) ⟨S, ⟨b, bm, _, _, _, _, _, _, rfl, HM2.out⟩, HK.out, fun x hx => .inl hx⟩ HM.out.lt KW.out)
  · have hout : ch < 1 ∨ (st.chans.length : Int) < ch := by omega
    have HE : Hid (Md.closes st.chans ch = (st.chans, ⟨5, -1, 0, false, 0⟩)) := Lib.hid (by unfold Md.closes; rw [Md.chan_none hout])
    rw [HE.out]
    go_enter Try.func46, Try.ntmps46
    go_wp2_with fail
    refine (model_channel_no _ b _ _ _ _ _ (HM.out.blk.alloc _) hle hout).mono ?_
    rintro e w1 ⟨rfl, rfl⟩
    go_wp2_with fail
    refine bodyPost_ret (v := .agg #[.int .i64 5, .int .i64 (-1), .int .i64 0, .bool false, .int .i64 0]) (by simp [results, Try.results46, go_sem]) rfl ?_
    exact res_ret (r' := ⟨5, -1, 0, false, 0⟩) rfl rfl (MoTo.refl ⟨b, bm, _, T, Us, SW, f, col, rfl, HM.out.then ((Keeps.refl [] w).alloc _)⟩ ((Keeps.refl [] w).alloc _))
end Go.Proofs.Ytopkfhmdgheghaa
