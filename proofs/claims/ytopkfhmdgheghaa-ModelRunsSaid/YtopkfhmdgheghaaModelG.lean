/-
  channel, makes, looks, closes of package model: contracts.
  Conditions: none.
-/
import Derived.Test.YtopkfhmdgheghaaModelF
namespace Go.Proofs.Ytopkfhmdgheghaa
open Go.RowKit
set_option linter.unusedVariables false
set_option linter.unusedSimpArgs false
set_option linter.unnecessarySimpa false

theorem model_channel_no (w : World) (b n cap : Nat) (ao : Option Addr) (mv : Value) (ch : Int) (hb : Blk w b [.slice ao n cap, mv] 103) (hn : n ≤ maxLen) (h : ch < 1 ∨ (n : Int) < ch) :
    Calls Try.prog 58 #[.pointer (some ⟨b, 0, none⟩), .int .i64 ch] w fun e w' => e = .returned (.pointer none) ∧ w = w' := by
  unfold maxLen at hn
  have c0 : w.cell? ⟨b, 0, none⟩ = some (.slice ao n cap) := hb.cell 0
  by_cases h1 : ch < 1
  · go_enter Try.func58, Try.ntmps58
    go_wp2_with fail
    go_ret
    exact ⟨rfl, rfl⟩
  · have h2 : (n : Int) < ch := by omega
    go_enter Try.func58, Try.ntmps58
    go_wp2_with fail
    go_ret
    exact ⟨rfl, rfl⟩
theorem model_channel (w : World) (b n cap g off k : Nat) (mv : Value) (hb : Blk w b [.slice (some ⟨g, off, none⟩) n cap, mv] 103) (hn : n ≤ maxLen) (h : k < n) :
    Calls Try.prog 58 #[.pointer (some ⟨b, 0, none⟩), .int .i64 ((k : Int) + 1)] w fun e w' => e = .returned (.pointer (some ⟨g, off + k * 3, none⟩)) ∧ w = w' := by
  unfold maxLen at hn
  have c0 : w.cell? ⟨b, 0, none⟩ = some (.slice (some ⟨g, off, none⟩) n cap) := hb.cell 0
  have h1 : ¬ ((k : Int) + 1 < 1) := by omega
  have h2 : ¬ ((n : Int) < (k : Int) + 1) := by omega
  have i0 : (0 : Int) ≤ (k : Int) := by omega
  have i1 : (k : Int) < (n : Int) := by omega
  have e1 : (k : Int) + 1 - 1 = (k : Int) := by omega
  go_enter Try.func58, Try.ntmps58
  go_wp2_with fail
  go_ret
  exact ⟨rfl, rfl⟩

def ResPost (S : List Nat) (w : World) (p : Value) (st : Md.St) (N : Nat) (r : Md.Res) (e : Ending) (w' : World) : Prop := e = .returned (.agg (resV r)) ∧ MoTo S w w' p st N
theorem res_ret {S : List Nat} {w w' : World} {p : Value} {st st' : Md.St} {N : Nat} {r r' : Md.Res} (hr : r = r') (hs : st = st') (h : MoTo S w w' p st' N) : ResPost S w p st N r (.returned (.agg #[.int .i64 r'.code, .int .i64 r'.cs, .int .i64 r'.v, .bool r'.ok, .int .i64 r'.n])) w' := by
  subst hr hs; exact ⟨rfl, h⟩

set_option maxHeartbeats 1600000 in
theorem model_looks (w : World) (p : Value) (st : Md.St) (N : Nat) (S : List Nat) (o : Pn.Op) (vc : Value) (h : Mo w p st N S) :
    Calls Try.prog 45 #[p, .agg (opV o vc)] w (ResPost S w p st N (Md.looks st.chans o)) := by
  obtain ⟨b, bm, vh, T, Us, SW, f, col, rfl, hm⟩ := h
  obtain ⟨ao, cap, rfl⟩ := hm.chans.shape
  have hle := hm.chans.le
  obtain ⟨r, hr⟩ : ∃ r, Md.looks st.chans o = r := ⟨_, rfl⟩
  rw [hr]
  have HR := Lib.hid hr
  have HM := Lib.hid hm
  clear hr hm
  obtain ⟨kind, ch, n, v, cases, els⟩ := o
  simp only [opV] at *
  have HK : Hid (∀ w', Keeps [] w w' → Mo w' (.pointer (some ⟨b, 0, none⟩)) st N S) := Lib.hid (fun w' k => ⟨b, bm, _, T, Us, SW, f, col, rfl, HM.out.then k⟩)
  by_cases hin : 1 ≤ ch ∧ ch ≤ (st.chans.length : Int)
  · obtain ⟨k, rfl⟩ : ∃ k : Nat, ch = (k : Int) + 1 := ⟨(ch - 1).toNat, by omega⟩
    have hk : k < st.chans.length := by omega
    obtain ⟨c, hc, hc2⟩ := Md.chan_some hin.1 hin.2
    rw [show ((k : Int) + 1 - 1).toNat = k by omega] at hc2
    obtain ⟨g, off, bv, U, rfl, _, hg, a0, a1, a2, _, hb, _, _⟩ := HM.out.chans.get hc2
    have hlb := hb.le
    obtain ⟨ab, cb, rfl⟩ := hb.shape
    have HC := Lib.hid hc
    clear hc hc2 hb
    have hbk := ((HM.out.blk.alloc (.cells #[.int .i64 kind, .int .i64 ((k : Int) + 1), .int .i64 n, .int .i64 v, vc, .bool els] 33)).alloc (.cells #[.int .i64 0, .int .i64 0, .int .i64 0, .bool false, .int .i64 0] 28)).alloc (.cells #[.int .i64 1, .int .i64 (-1), .int .i64 0, .bool true, .int .i64 0] 28)
    have HBK := Lib.hid hbk
    clear hbk
    unfold maxLen at hlb
    have A0 : ∀ x y z : Obj, (((w.alloc x).alloc y).alloc z).cell? ⟨g, off + k * 3, none⟩ = some (.int .i64 c.cap) := fun x y z => ((((Keeps.refl [] w).alloc x).alloc y).alloc z).cell a0 (by simp)
    have A1 : ∀ x y z : Obj, (((w.alloc x).alloc y).alloc z).cell? ⟨g, off + k * 3 + 1, none⟩ = some (.slice ab c.buf.length cb) := fun x y z => ((((Keeps.refl [] w).alloc x).alloc y).alloc z).cell a1 (by simp)
    cases h7 : (kind == 7) with
    | true =>
      have e7 : kind = 7 := by simpa using h7
      have HE : Hid (r = ⟨1, -1, 0, true, (c.buf.length : Int)⟩) := Lib.hid (by rw [← HR.out]; simp [Md.looks, HC.out, e7])
      clear e7
      go_enter Try.func45, Try.ntmps45
      go_wp2_with fail
      refine (model_channel _ b _ _ g off k _ HBK.out hle hk).mono ?_
      rintro e w1 ⟨rfl, rfl⟩
      go_wp2_with fail
      refine bodyPost_ret (v := .agg #[.int .i64 1, .int .i64 (-1), .int .i64 0, .bool true, .int .i64 (c.buf.length : Int)]) (by simp [results, Try.results45, go_sem]) rfl ?_
      exact res_ret HE.out rfl (MoTo.refl (HK.out _ (((Keeps.refl [] w).alloc _).alloc _ |>.alloc _)) (((Keeps.refl [] w).alloc _).alloc _ |>.alloc _))
    | false =>
      have e7 : kind ≠ 7 := by simpa using h7
      have HE : Hid (r = ⟨1, -1, 0, true, c.cap⟩) := Lib.hid (by rw [← HR.out]; simp [Md.looks, HC.out, e7])
      clear e7
      go_enter Try.func45, Try.ntmps45
      go_wp2_with fail
      refine (model_channel _ b _ _ g off k _ HBK.out hle hk).mono ?_
      rintro e w1 ⟨rfl, rfl⟩
      go_wp2_with fail
      refine bodyPost_ret (v := .agg #[.int .i64 1, .int .i64 (-1), .int .i64 0, .bool true, .int .i64 c.cap]) (by simp [results, Try.results45, go_sem]) rfl ?_
      exact res_ret HE.out rfl (MoTo.refl (HK.out _ (((Keeps.refl [] w).alloc _).alloc _ |>.alloc _)) (((Keeps.refl [] w).alloc _).alloc _ |>.alloc _))
  · have hout : ch < 1 ∨ (st.chans.length : Int) < ch := by omega
    have HE : Hid (r = ⟨1, -1, 0, true, 0⟩) := Lib.hid (by rw [← HR.out]; simp [Md.looks, Md.chan_none hout])
    have hbk := ((HM.out.blk.alloc (.cells #[.int .i64 kind, .int .i64 ch, .int .i64 n, .int .i64 v, vc, .bool els] 33)).alloc (.cells #[.int .i64 0, .int .i64 0, .int .i64 0, .bool false, .int .i64 0] 28)).alloc (.cells #[.int .i64 1, .int .i64 (-1), .int .i64 0, .bool true, .int .i64 0] 28)
    have HBK := Lib.hid hbk
    clear hbk
    go_enter Try.func45, Try.ntmps45
    go_wp2_with fail
    refine (model_channel_no _ b _ _ _ _ _ HBK.out hle hout).mono ?_
    rintro e w1 ⟨rfl, rfl⟩
    go_wp2_with fail
    refine bodyPost_ret (v := .agg #[.int .i64 1, .int .i64 (-1), .int .i64 0, .bool true, .int .i64 0]) (by simp [results, Try.results45, go_sem]) rfl ?_
    exact res_ret HE.out rfl (MoTo.refl (HK.out _ (((Keeps.refl [] w).alloc _).alloc _ |>.alloc _)) (((Keeps.refl [] w).alloc _).alloc _ |>.alloc _))
end Go.Proofs.Ytopkfhmdgheghaa
