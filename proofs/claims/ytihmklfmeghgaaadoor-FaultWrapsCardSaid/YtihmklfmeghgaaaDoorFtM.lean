/-
  The walk of FaultWraps.
  Conditions: the variables hold what the rows list.
-/
import Derived.Test.YtihmklfmeghgaaaDoorFtK
set_option linter.unusedVariables false
set_option linter.unusedSimpArgs false
set_option linter.unnecessarySimpa false
namespace Go.Proofs.YtihmklfmeghgaaaDoor
open Go.RowKit Go.Extern.Stop Go.Stop Go.Extern

theorem wr1 (k : Nat) (h : k < 100) : wrap64 ((k : Int) + 1) = ((k + 1 : Nat) : Int) := by
  unfold wrap64; omega

set_option maxHeartbeats 4000000 in
set_option maxRecDepth 100000 in
/-- no error: nothing is looked at -/
theorem wraps_n {a0 a1 a2 : Addr} {code : Int} (he : errOf a0 a1 a2 code = .nilIface) {w : World} (h : Std a0 a1 a2 w) (g op : Int) (ao : Option Addr) (n cap : Nat) :
    Calls Tryd.prog 5 #[.agg #[.int .i64 code, .int .i64 g, .int .i64 op], .slice ao n cap] w fun e w' => e = .returned (.bool true) ∧ Below w.heap.size w w' := by
  have AL : ∀ w1, Below w.heap.size w w1 → Calls Tryd.prog 6 #[] w1 fun e w' => e = .returned (.bool true) ∧ Below w1.heap.size w1 w' := fun w1 k => c_alive (h.kp k)
  have k0 : Below w.heap.size w (w.alloc (.cells #[.int .i64 code, .int .i64 g, .int .i64 op] 43)).drew := (allocs (Below.refl _ _) _).drew
  have OF : ∀ w1, Below w.heap.size w w1 → Calls Tryd.prog 9 #[.int .i64 code, .int .i64 g, .int .i64 op] w1 fun e w' => e = .returned .nilIface ∧ Below w1.heap.size w1 w' := fun w1 k => c_of_nil (h.kp k) code g op he
  obtain ⟨bb, hbb⟩ : ∃ bb, decide ((n : Int) > 60) = bb := ⟨_, rfl⟩
  clear h he
  go_enter Tryd.func5, Tryd.ntmps5
  go_wp2
  go_region
  cases bb
  all_goals (try go_wp2_with (first
    | (go_at_call 6; with_reducible refine (AL _ ?_).mono ?_; exact k0; rintro e w1 ⟨rfl, k1'⟩; have k1 : Below w.heap.size w w1 := Kp.trans k0 k1')
    | (go_at_call 9; with_reducible refine (OF _ ?_).mono ?_; assumption; rintro e w2 ⟨rfl, k2'⟩; have k2 : Below w.heap.size w w2 := Kp.trans k1 k2')
    | (fail)))
  all_goals (go_ret; exact ⟨rfl, by assumption⟩)

set_option maxHeartbeats 4000000 in
set_option maxRecDepth 100000 in
/-- too many: nothing is looked at -/
theorem wraps_b {a0 a1 a2 a : Addr} {code : Int} (s : Sn a0 a1 a2 a code) {w : World} (h : Std a0 a1 a2 w) (g op : Int) (ao : Option Addr) (n cap : Nat) (hn : 60 < n) :
    Calls Tryd.prog 5 #[.agg #[.int .i64 code, .int .i64 g, .int .i64 op], .slice ao n cap] w fun e w' => e = .returned (.bool true) ∧ Below w.heap.size w w' := by
  have AL : ∀ w1, Below w.heap.size w w1 → Calls Tryd.prog 6 #[] w1 fun e w' => e = .returned (.bool true) ∧ Below w1.heap.size w1 w' := fun w1 k => c_alive (h.kp k)
  have k0 : Below w.heap.size w (w.alloc (.cells #[.int .i64 code, .int .i64 g, .int .i64 op] 43)).drew := (allocs (Below.refl _ _) _).drew
  have OF : ∀ w1, Below w.heap.size w w1 → Calls Tryd.prog 9 #[.int .i64 code, .int .i64 g, .int .i64 op] w1 fun e w' => ∃ pb, e = .returned (.iface 33 (.pointer (some ⟨pb, 0, none⟩))) ∧ Below w1.heap.size w1 w' := fun w1 k =>
    (c_of (h.kp k) code g op 96 _ s.err).mono fun e w' ⟨pb, e1, _, z0, z1, z2, kb⟩ => ⟨pb, e1, kb⟩
  have HN : decide ((n : Int) > 60) = true := by simp; omega
  clear h s hn
  go_enter Tryd.func5, Tryd.ntmps5
  go_wp2
  go_region
  all_goals (try go_wp2_with (first
    | (go_at_call 6; with_reducible refine (AL _ ?_).mono ?_; exact k0; rintro e w1 ⟨rfl, k1'⟩; have k1 : Below w.heap.size w w1 := Kp.trans k0 k1')
    | (go_at_call 9; with_reducible refine (OF _ ?_).mono ?_; assumption; rintro e w2 ⟨pb, rfl, k2'⟩; have k2 : Below w.heap.size w w2 := Kp.trans k1 k2')
    | (fail)))
  all_goals (go_ret; exact ⟨rfl, by assumption⟩)

set_option maxHeartbeats 4000000 in
set_option maxRecDepth 100000 in
theorem wraps_s {a0 a1 a2 a : Addr} {code : Int} (s : Sn a0 a1 a2 a code) {w : World} (h : Std a0 a1 a2 w) (g op : Int)
    (ao : Option Addr) (n cap : Nat) (zs : Nat → Int × Int) (hn : ¬ 60 < n)
    (hc : ∀ k, k < n → ∃ b o, ao = some ⟨b, o, none⟩ ∧ b < w.heap.size ∧ w.cell? ⟨b, o + k * 2, none⟩ = some (.int .i64 (zs k).1) ∧ w.cell? ⟨b, o + k * 2 + 1, none⟩ = some (.int .i64 (zs k).2)) :
    Calls Tryd.prog 5 #[.agg #[.int .i64 code, .int .i64 g, .int .i64 op], .slice ao n cap] w fun e w' => e = .returned (.bool true) ∧ Below w.heap.size w w' := by
  have AL : ∀ w1, Below w.heap.size w w1 → Calls Tryd.prog 6 #[] w1 fun e w' => e = .returned (.bool true) ∧ Below w1.heap.size w1 w' := fun w1 k => c_alive (h.kp k)
  have k0 : Below w.heap.size w (w.alloc (.cells #[.int .i64 code, .int .i64 g, .int .i64 op] 43)).drew := (allocs (Below.refl _ _) _).drew
  have OF : ∀ w1, Below w.heap.size w w1 → Calls Tryd.prog 9 #[.int .i64 code, .int .i64 g, .int .i64 op] w1 fun e w' => ∃ pb, e = .returned (.iface 33 (.pointer (some ⟨pb, 0, none⟩))) ∧ Below w1.heap.size w1 w' ∧ w'.cell? ⟨pb, 0, none⟩ = some (.int .i64 g) ∧ w'.cell? ⟨pb, 1, none⟩ = some (.int .i64 op) ∧ Chain w' a (.iface 33 (.pointer (some ⟨pb, 0, none⟩))) 1 := fun w1 k =>
    (c_of (h.kp k) code g op 96 _ s.err).mono fun e w' ⟨pb, e1, _, z0, z1, z2, kb⟩ => ⟨pb, e1, kb, z0, z1, .wrap pb _ 0 z2 (s.leaf ((h.kp k).kp kb))⟩
  have CC : ∀ w1 E n, Below w.heap.size w w1 → Chain w1 a E n → Calls Tryd.prog 8 #[E] w1 fun e w' => e = .returned (.int .i64 code) ∧ Below w1.heap.size w1 w' := fun w1 E n k hc => s.code (h.kp k) hc
  have HS : ∀ w1, Below w.heap.size w w1 → Std a0 a1 a2 w1 := fun w1 k => h.kp k
  have HN : decide ((n : Int) > 60) = false := by simp; omega
  clear h s
  have hn' : Hid (¬ 60 < n) := hn
  clear hn
  go_enter Tryd.func5, Tryd.ntmps5
  go_wp2
  go_region
  all_goals (try go_wp2_with (first
    | (go_at_call 6; with_reducible refine (AL _ ?_).mono ?_; exact k0; rintro e w1 ⟨rfl, k1'⟩; have k1 : Below w.heap.size w w1 := Kp.trans k0 k1')
    | (go_at_call 9; with_reducible refine (OF _ ?_).mono ?_; assumption; rintro e w2 ⟨pb, rfl, k2', z0, z1, zc⟩; have k2 : Below w.heap.size w w2 := Kp.trans k1 k2')
    | (fail)))
  have K2 : Hid (Below w.heap.size w w2) := k2
  go_loopw [8, 9, 10, 39] (fun e x y i wl => ∃ (k pb' : Nat) (g' op' : Int) (m : Nat), i = .int .i64 (k : Int) ∧ k ≤ n ∧ e = .iface 33 (.pointer (some ⟨pb', 0, none⟩)) ∧ x = .int .i64 g' ∧ y = .int .i64 op' ∧ Below w.heap.size w wl ∧ wl.cell? ⟨pb', 0, none⟩ = some (.int .i64 g') ∧ wl.cell? ⟨pb', 1, none⟩ = some (.int .i64 op') ∧ Chain wl a (.iface 33 (.pointer (some ⟨pb', 0, none⟩))) m) (fun _ _ _ i _ => n - (intOf i).toNat)
  case atStart => exact ⟨0, pb, g, op, 1, rfl, Nat.zero_le _, rfl, rfl, rfl, k2, z0, z1, zc⟩
  case round =>
    obtain ⟨k, pb', g', op', m, rfl, hk, rfl, rfl, rfl, kb, y0, y1, yc⟩ := hrel
    by_cases hkn : k < n
    · have t0 : decide ((k : Int) < (n : Int)) = true := by simp; omega
      obtain ⟨b, o, rfl, hb, e1, e2⟩ := hc k hkn
      have e1 := Kp.cell kb e1
      have e2 := Kp.cell kb e2
      have HK : Hid (k < n) := hkn
      have i0 : 0 ≤ (k : Int) := by omega
      have i1 : (k : Int) < n := by omega
      clear hkn hk
      go_wp2
      go_region
      all_goals (try go_wp2)
      go_roundw
      case rel =>
        have hn2 := hn'.out
        have hk2 := HK.out
        have kk := (allocs (allocs kb (.cells #[.int .i64 (zs k).1, .int .i64 (zs k).2] 45)) (.cells #[.int .i64 (zs k).1, .int .i64 (zs k).2, .iface 33 (.pointer (some ⟨pb', 0, none⟩))] 37)).drew
        have kr : Below wr.heap.size wr ((wr.alloc (.cells #[.int .i64 (zs k).1, .int .i64 (zs k).2] 45)).alloc (.cells #[.int .i64 (zs k).1, .int .i64 (zs k).2, .iface 33 (.pointer (some ⟨pb', 0, none⟩))] 37)).drew := (allocs (allocs (Below.refl _ _) _) _).drew
        have q : ∀ i, ((wr.alloc (.cells #[.int .i64 (zs k).1, .int .i64 (zs k).2] 45)).alloc (.cells #[.int .i64 (zs k).1, .int .i64 (zs k).2, .iface 33 (.pointer (some ⟨pb', 0, none⟩))] 37)).drew.cell? ⟨wr.heap.size + 1, i, none⟩ = (#[.int .i64 (zs k).1, .int .i64 (zs k).2, .iface 33 (.pointer (some ⟨pb', 0, none⟩))] : Array Value)[i]? := fun i =>
          World.cell?_alloc_at (w := wr.alloc (.cells #[.int .i64 (zs k).1, .int .i64 (zs k).2] 45)) _ _ _ _ (by simp)
        exact ⟨k + 1, wr.heap.size + 1, (zs k).1, (zs k).2, m + 1, by rw [wr1 k (by omega)], by omega, rfl, rfl, rfl, kk, q 0, q 1, .wrap _ _ m (q 2) (yc.kp kr)⟩
      case measure =>
        have hn2 := hn'.out
        have hk2 := HK.out
        rw [wr1 k (by omega)]
        simp [intOf]; omega
    · have t0 : decide ((k : Int) < (n : Int)) = false := by simp; omega
      go_wp2_with (first
        | (go_at_call 11; with_reducible refine (c_where (HS _ kb) pb' g' op' y0 y1).mono ?_; rintro e w3 ⟨rfl, k3'⟩; have k3 : Below w.heap.size w w3 := Kp.trans kb k3')
        | (go_at_call 8; with_reducible refine (CC _ _ m k3 (yc.kp k3')).mono ?_; rintro e w4 ⟨rfl, k4'⟩; have k4 : Below w.heap.size w w4 := Kp.trans k3 k4')
        | (fail))
      go_ret
      exact ⟨rfl, by assumption⟩

theorem wraps_walk {a0 a1 a2 : Addr} (code g op : Int) {w : World} (h : Std a0 a1 a2 w) (ao : Option Addr) (n cap : Nat) (zs : Nat → Int × Int)
    (hc : ∀ k, k < n → ∃ b o, ao = some ⟨b, o, none⟩ ∧ b < w.heap.size ∧ w.cell? ⟨b, o + k * 2, none⟩ = some (.int .i64 (zs k).1) ∧ w.cell? ⟨b, o + k * 2 + 1, none⟩ = some (.int .i64 (zs k).2)) :
    Calls Tryd.prog 5 #[.agg #[.int .i64 code, .int .i64 g, .int .i64 op], .slice ao n cap] w fun e w' => e = .returned (.bool true) ∧ Below w.heap.size w w' := by
  rcases errOf_cases a0 a1 a2 code with ⟨a, s⟩ | ⟨he, ht⟩
  · by_cases hn : 60 < n
    · exact wraps_b s h g op ao n cap hn
    · exact wraps_s s h g op ao n cap zs hn hc
  · exact wraps_n he h g op ao n cap
end Go.Proofs.YtihmklfmeghgaaaDoor
