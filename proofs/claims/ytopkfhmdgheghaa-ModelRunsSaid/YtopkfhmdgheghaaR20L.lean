/-
  handoffref20.SameChans of a list and itself: its contract.
  Conditions: none.
-/
import Derived.Test.YtopkfhmdgheghaaR20J
import Derived.Deep.DrawnRows
namespace Go.Proofs.Ytopkfhmdgheghaa
open Go.RowKit
set_option linter.unusedVariables false
set_option linter.unusedSimpArgs false
set_option linter.unnecessarySimpa false
attribute [local go_sem ↓] Go.wp_at_zero Go.wp_at_succ

theorem chE_get {w : World} {ao : Option Addr} {m cap k : Nat} {S : List Nat} {l : List Md.Ch} {c : Md.Ch} (h : GV chE 3 w (.slice ao m cap) l S) (hk : l[k]? = some c) :
    ∃ g off ab cb U, ao = some ⟨g, off, none⟩ ∧ g < w.heap.size ∧ (w.cell? ⟨g, off + k * 3, none⟩ = some (.int .i64 c.cap) ∧ w.cell? ⟨g, off + k * 3 + 1, none⟩ = some (.slice ab c.buf.length cb) ∧ w.cell? ⟨g, off + k * 3 + 2, none⟩ = some (.bool c.closed)) ∧
      GV rawE 1 w (.slice ab c.buf.length cb) c.buf U ∧ ∀ x ∈ U, x ∈ S := by
  obtain ⟨g, off, cs, U, h1, h2, h3, h4, h5, ⟨vb, rfl, h6⟩, h7⟩ := h.get hk
  obtain ⟨ab, cb, rfl⟩ := h6.shape
  exact ⟨g, off, ab, cb, U, h1, h3, ⟨h5 0 (by omega), h5 1 (by omega), h5 2 (by omega)⟩, h6, h7⟩
theorem rawE_get {w : World} {ao : Option Addr} {m cap k : Nat} {S : List Nat} {l : List Int} {n : Int} (h : GV rawE 1 w (.slice ao m cap) l S) (hk : l[k]? = some n) : ∃ g off, ao = some ⟨g, off, none⟩ ∧ g < w.heap.size ∧ w.cell? ⟨g, off + k, none⟩ = some (.int .i64 n) := by
  obtain ⟨g, off, cs, U, h1, h2, h3, h4, h5, ⟨rfl, _⟩, _⟩ := h.get hk
  exact ⟨g, off, h1, h3, by have := h5 0 (by omega); simpa using this⟩

set_option maxRecDepth 100000 in
set_option maxHeartbeats 3200000 in
theorem ref20_sameChans (w : World) (va vb : Value) (l : List Md.Ch) (SA SB : List Nat) (ha : GV chE 3 w va l SA) (hb : GV chE 3 w vb l SB) :
    Calls Try.prog 29 #[va, vb] w fun e w' => e = .returned (.bool true) ∧ Keeps [] w w' := by
  have HA := Lib.hid ha
  have HB := Lib.hid hb
  have hle := ha.le
  unfold maxLen at hle
  obtain ⟨a1, c1, rfl⟩ := ha.shape
  obtain ⟨a2, c2, rfl⟩ := hb.shape
  clear ha hb
  go_enter Try.func29, Try.ntmps29
  go_wp2_with fail
  go_loopw [14] (fun u wr => ∃ k : Nat, k ≤ l.length ∧ u = .int .i64 k ∧ Hid (Keeps [] w wr)) (fun u _ => l.length - (intOf u).toNat)
  case atStart => exact ⟨0, Nat.zero_le _, rfl, Lib.hid (Keeps.refl _ _)⟩
  case round =>
    obtain ⟨k, hk, rfl, HI⟩ := hrel
    obtain ⟨wo, rfl⟩ : ∃ wo : World, wo = wr := ⟨_, rfl⟩
    by_cases hlt : k < l.length
    · obtain ⟨c, hx⟩ : ∃ c, l[k]? = some c := ⟨_, List.getElem?_eq_getElem hlt⟩
      obtain ⟨g1, o1, b1, cb1, U1, rfl, hg1, ⟨p0, p1, p2⟩, hv1, _⟩ := chE_get (HA.out.then chE_kept HI.out) hx
      obtain ⟨g2, o2, b2, cb2, U2, rfl, hg2, ⟨q0, q1, q2⟩, hv2, _⟩ := chE_get (HB.out.then chE_kept HI.out) hx
      have HV1 := Lib.hid hv1
      have HV2 := Lib.hid hv2
      have hbl := hv1.le
      unfold maxLen at hbl
      have HLT := Lib.hid hlt
      have i0 : (0 : Int) ≤ (k : Int) := by omega
      have i1 : (k : Int) < (l.length : Int) := by omega
      have r0 : ((c.cap != c.cap) : Bool) = false := by simp
      have r1 : ((c.closed != c.closed) : Bool) = false := by simp
      clear hv1 hv2 hx
      go_upto_region 6 with fail
      go_region_held3 (fun w' => w'.cell? ⟨g1, o1 + k * 3, none⟩ = some (.int .i64 c.cap) ∧ w'.cell? ⟨g1, o1 + k * 3 + 1, none⟩ = some (.slice b1 c.buf.length cb1) ∧ w'.cell? ⟨g1, o1 + k * 3 + 2, none⟩ = some (.bool c.closed) ∧ w'.cell? ⟨g2, o2 + k * 3, none⟩ = some (.int .i64 c.cap) ∧ w'.cell? ⟨g2, o2 + k * 3 + 1, none⟩ = some (.slice b2 c.buf.length cb2) ∧ w'.cell? ⟨g2, o2 + k * 3 + 2, none⟩ = some (.bool c.closed))
        (first | (with_reducible exact ⟨p0, p1, p2, q0, q1, q2⟩) | go_keep)
        (first | fail)
      have K1 : Hid (Keeps [] w wo.drew) := Lib.hid (HI.out.drew)
      have p1d : wo.drew.cell? ⟨g1, o1 + k * 3 + 1, none⟩ = some (.slice b1 c.buf.length cb1) := p1
      have q1d : wo.drew.cell? ⟨g2, o2 + k * 3 + 1, none⟩ = some (.slice b2 c.buf.length cb2) := q1
      have P1 := Lib.hid p1d
      have Q1 := Lib.hid q1d
      have G1 := Lib.hid hg1
      have G2 := Lib.hid hg2
      clear p0 p2 q0 q2 p1 q1 p1d q1d
      have p1 := P1.out
      go_wp2_with fail
      clear p1
      go_loopw [62] (fun u wr => ∃ j : Nat, j ≤ c.buf.length ∧ u = .int .i64 j ∧ Hid (Keeps [] wo.drew wr)) (fun u _ => c.buf.length - (intOf u).toNat)
      case atStart => exact ⟨0, Nat.zero_le _, rfl, Lib.hid (Keeps.refl _ _)⟩
      case round =>
        obtain ⟨j, hj, rfl, HJ⟩ := hrel
        obtain ⟨wi, rfl⟩ : ∃ wi : World, wi = wr := ⟨_, rfl⟩
        by_cases hjl : j < c.buf.length
        · obtain ⟨n, hn⟩ : ∃ n, c.buf[j]? = some n := ⟨_, List.getElem?_eq_getElem hjl⟩
          obtain ⟨ga, oa, rfl, hga, ea⟩ := rawE_get ((HV1.out.then rawE_kept (Keeps.refl [] wo).drew).then rawE_kept HJ.out) hn
          obtain ⟨gb, ob, rfl, hgb, eb⟩ := rawE_get ((HV2.out.then rawE_kept (Keeps.refl [] wo).drew).then rawE_kept HJ.out) hn
          have p1 := HJ.out.cell P1.out (by simp)
          have q1 := HJ.out.cell Q1.out (by simp)
          have j0 : (0 : Int) ≤ (j : Int) := by omega
          have j1 : (j : Int) < (c.buf.length : Int) := by omega
          have HJL := Lib.hid hjl
          clear hn
          go_upto_region 11 with fail
          go_region_held3 (fun w' => w'.cell? ⟨g1, o1 + k * 3 + 1, none⟩ = some (.slice (some ⟨ga, oa, none⟩) c.buf.length cb1) ∧ w'.cell? ⟨g2, o2 + k * 3 + 1, none⟩ = some (.slice (some ⟨gb, ob, none⟩) c.buf.length cb2) ∧ w'.cell? ⟨ga, oa + j, none⟩ = some (.int .i64 n) ∧ w'.cell? ⟨gb, ob + j, none⟩ = some (.int .i64 n))
            (first | (with_reducible exact ⟨p1, q1, ea, eb⟩) | go_keep)
            (first | fail)
          have KJ : Hid (Keeps [] wo.drew wi.drew) := Lib.hid (HJ.out.drew)
          go_wp2_with fail
          go_roundw
          case rel => exact ⟨j + 1, by have := HJL.out; omega, by go_num, KJ⟩
          case measure => have := HJL.out; simp [intOf]; omega
        · obtain rfl : j = c.buf.length := by omega
          go_wp2_with fail
          go_roundw
          case rel => exact ⟨k + 1, by have := HLT.out; omega, by go_num, Lib.hid (K1.out.then HJ.out)⟩
          case measure => have := HLT.out; simp [intOf]; omega
    · obtain rfl : k = l.length := by omega
      go_wp2_with fail
      go_ret
      exact ⟨rfl, HI.out⟩
end Go.Proofs.Ytopkfhmdgheghaa
