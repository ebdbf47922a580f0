/-
  Contracts of package pool, for PoolNew: settle.
  Conditions: none.
-/
import Derived.Test.YtonkbenmafapgaaPoolSame
namespace Go.Proofs.Ytonkbenmafapgaa
open Go.RowKit
set_option linter.unusedVariables false
set_option linter.unusedSimpArgs false
set_option linter.unnecessarySimpa false

namespace Po
/-- the things of a row are at home; false, if one can't be, or is already -/
def settle (f : Int) : List Bool → List Int → List Bool × Bool
  | H, [] => (H, true)
  | H, x :: r => if live f H x then settle f (H.set x.toNat true) r else (H, false)
theorem settle_cons (f : Int) (H : List Bool) (x : Int) (r : List Int) : settle f H (x :: r) = if live f H x then settle f (H.set x.toNat true) r else (H, false) := rfl
theorem settle_len (f : Int) : ∀ (H : List Bool) (l : List Int), (settle f H l).1.length = H.length
  | H, [] => rfl
  | H, x :: r => by
    unfold settle
    split
    · rw [settle_len f _ r]; simp
    · rfl
theorem drop_next (l : List Int) (k : Nat) (h : k < l.length) : l.drop k = l.getD k 0 :: l.drop (k + 1) := by
  rw [List.drop_eq_getElem_cons h, List.getD_eq_getElem?_getD, List.getElem?_eq_getElem h]; rfl
end Po

/-- the home of one thing is stored -/
theorem Pl.mark {w : World} {b : Nat} {size most f : Int} {C : List (List Int)} {M : List Int} {H : List Bool} {S : List Nat} (h : Pl w (.pointer (some ⟨b, 0, none⟩)) size most C M f H S) {j : Nat} (hj : j < H.length) :
    ∃ g off cap t, w.cell? ⟨b, 5, none⟩ = some (.slice (some ⟨g, off, none⟩) H.length cap) ∧ w.cell? ⟨g, off + j, none⟩ = some (.bool t) ∧ w.frozen? ⟨g, off + j, none⟩ = false ∧
      Pl (w.setCell ⟨g, off + j, none⟩ (.bool true)) (.pointer (some ⟨b, 0, none⟩)) size most C M f (H.set j true) S ∧ Keeps S w (w.setCell ⟨g, off + j, none⟩ (.bool true)) := by
  obtain ⟨b', vc, vm, vh, T1, Us, Tm, Th, hbb, hb, hc, hm, hh, ha, rfl⟩ := h
  cases hbb
  obtain ⟨ao, cap, rfl⟩ := hh.shape
  obtain ⟨g, off, rfl, rfl, hg, c6, f6⟩ := hh.cells (List.getElem?_eq_getElem hj)
  obtain ⟨hs, hk⟩ := hh.stored j hj true
  obtain ⟨p1, p2⟩ := List.pairwise_cons.1 ha
  obtain ⟨p2, p3⟩ := List.pairwise_cons.1 p2
  obtain ⟨p3, p4⟩ := List.pairwise_cons.1 p3
  obtain ⟨p4, _⟩ := List.pairwise_cons.1 p4
  exact ⟨g, off, cap, H[j], hb.cell 5, c6, f6, ⟨b, vc, vm, _, T1, Us, Tm, [g], rfl, hb.keep hk (p1 [g] (by simp) b (by simp)), hc.keep hk (p2 [g] (by simp)) (fun U hU x hx => p3 [g] (by simp) x (List.mem_flatten.2 ⟨U, hU, hx⟩)), hm.keep hk (p4 [g] (by simp)), by simpa using hs, ha, rfl⟩, hk.mono (fun x hx => .inl (by simp at hx; simp [hx]))⟩

def SettlePost (r : List Bool × Bool) (b : Nat) (size most f : Int) (C : List (List Int)) (M : List Int) (S : List Nat) (w : World) (e : Ending) (w' : World) : Prop :=
  e = .returned (.bool r.2) ∧ Keeps S w w' ∧ Pl w' (.pointer (some ⟨b, 0, none⟩)) size most C M f r.1 S
theorem Po.live_nat {f : Int} {H : List Bool} {x : Int} (h : Po.live f H x = true) (hf : f ≤ H.length) : ∃ j : Nat, x = j ∧ j < H.length := by
  simp [Po.live] at h
  exact ⟨x.toNat, by omega, by omega⟩

set_option maxHeartbeats 800000 in
theorem pool_settle (w : World) (b : Nat) (size most f : Int) (C : List (List Int)) (M : List Int) (H : List Bool) (S : List Nat) (v : Value) (l : List Int) (U : List Nat) (h : Pl w (.pointer (some ⟨b, 0, none⟩)) size most C M f H S) (hf : f ≤ H.length) (hl64 : H.length ≤ 1000)
    (hv : IV w v l U) (hd : ∀ x ∈ U, x ∉ S) :
    Calls Try.prog 75 #[.pointer (some ⟨b, 0, none⟩), v] w (SettlePost (Po.settle f H l) b size most f C M S w) := by
  have hm := hv.le
  unfold maxLen at hm
  obtain ⟨ao, cap, rfl⟩ := hv.shape
  have HV := Lib.hid hv
  have HP := Lib.hid h
  have HD := Lib.hid hd
  have HF := Lib.hid hf
  clear hv h hd hf
  go_enter Try.func75, Try.ntmps75
  go_wp2_with fail
  go_loopw [6, 9] (fun _ i wr => ∃ (k : Nat) (H' : List Bool), k ≤ l.length ∧ i = .int .i64 k ∧ Keeps S w wr ∧ Pl wr (.pointer (some ⟨b, 0, none⟩)) size most C M f H' S ∧ H'.length = H.length ∧ Po.settle f H l = Po.settle f H' (l.drop k)) (fun _ i _ => l.length - (intOf i).toNat)
  case atStart => exact ⟨0, H, Nat.zero_le _, rfl, Keeps.refl _ _, HP.out, rfl, rfl⟩
  case round =>
    obtain ⟨k, H', hk, rfl, hke, hp, hle, hs⟩ := hrel
    have HKe := Lib.hid hke
    have HP' := Lib.hid hp
    have HL := Lib.hid hle
    have HS := Lib.hid hs
    clear hke hp hle hs
    by_cases hlt : k < l.length
    · obtain ⟨g, off, rfl, rfl, hg, hc⟩ := (HV.out.keep HKe.out HD.out).cells (by omega)
      have c0 := hc k hlt
      have HN := Lib.hid (Po.drop_next l k hlt)
      clear hc
      generalize l.getD k 0 = x at *
      go_wp2_with fail
      refine (pool_live _ _ _ _ _ _ _ _ _ x HP'.out (by rw [HL.out]; exact HF.out)).mono ?_
      rintro e w1 ⟨rfl, rfl⟩
      cases hq : Po.live f H' x with
      | true =>
        have HQ := Lib.hid hq
        obtain ⟨j, rfl, hj⟩ := Po.live_nat hq (by rw [HL.out]; exact HF.out)
        obtain ⟨g2, off2, cap2, t, d5, d6, f6, hp2, k2⟩ := HP'.out.mark hj
        have HP2 := Lib.hid hp2
        have HK2 := Lib.hid k2
        have hh : H'.length ≤ 1000 := by rw [HL.out]; exact hl64
        have HS2 : Hid (Po.settle f H l = Po.settle f (H'.set j true) (l.drop (k + 1))) := Lib.hid (by
          rw [HS.out, HN.out]; rw [Po.settle_cons, if_pos HQ.out]; rfl)
        clear hp2 k2 c0 hq
        go_wp2_with fail
        go_roundw
        case rel => exact ⟨k + 1, _, by omega, by go_num, HKe.out.trans HK2.out (fun y hy => .inl hy), HP2.out, by rw [List.length_set]; exact HL.out, HS2.out⟩
        case measure => simp [intOf]; omega
      | false =>
        have HS2 : Hid (Po.settle f H l = (H', false)) := Lib.hid (by
          rw [HS.out, HN.out]; rw [Po.settle_cons, if_neg (by simp [hq])])
        clear c0
        go_wp2_with fail
        go_ret
        unfold SettlePost
        rw [HS2.out]
        exact ⟨rfl, HKe.out, HP'.out⟩
    · obtain rfl : k = l.length := by omega
      have HS2 : Hid (Po.settle f H l = (H', true)) := Lib.hid (by rw [HS.out, List.drop_length]; rfl)
      go_wp2_with fail
      go_ret
      unfold SettlePost
      rw [HS2.out]
      exact ⟨rfl, HKe.out, HP'.out⟩
end Go.Proofs.Ytonkbenmafapgaa
