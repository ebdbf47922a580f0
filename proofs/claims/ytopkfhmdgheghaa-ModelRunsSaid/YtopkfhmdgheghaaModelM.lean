/-
  anySide of package model: its contracts, by the contract of the closure that it is given.
  Conditions: none.
-/
import Derived.Test.YtopkfhmdgheghaaModelF
namespace Go.Proofs.Ytopkfhmdgheghaa
open Go.RowKit
set_option linter.unusedVariables false
set_option linter.unusedSimpArgs false
set_option linter.unnecessarySimpa false

theorem Md.any_more {o : Pn.Op} {p : Int → Md.Sd → Bool} {k m : Nat} (h : Md.anyUpto o p k = true) (hm : k ≤ m) : Md.anyUpto o p m = true := by
  induction m with
  | zero =>
    obtain rfl : k = 0 := by omega
    exact h
  | succ m ih =>
    by_cases e : k = m + 1
    · subst e; exact h
    · show (Md.anyUpto o p m || _) = true
      rw [ih (by omega)]; rfl
theorem Md.any_step {o : Pn.Op} {p : Int → Md.Sd → Bool} {k : Nat} (h : Md.anyUpto o p k = false) : Md.anyUpto o p (k + 1) = (match Md.side o ((k : Int) - 1) with | some s => p ((k : Int) - 1) s | none => false) := by
  show (Md.anyUpto o p k || _) = _
  rw [h]; rfl

set_option maxRecDepth 100000 in
set_option maxHeartbeats 1600000 in
theorem model_anyW (c1 : Value) (w : World) (o : Pn.Op) (vc : Value) (U : List Nat) (p : Int → Md.Sd → Bool) (h : GV caseE 3 w vc o.cases U)
    (hp : ∀ (i : Int) (s : Md.Sd) (w' : World), Md.side o i = some s → Keeps [] w w' → Calls Try.prog 57 #[.int .i64 i, .agg (sdV s), c1] w' fun e w'' => e = .returned (.bool (p i s)) ∧ Keeps [] w' w'') :
    Calls Try.prog 59 #[.agg (opV o vc), .func (.func 57) #[] #[c1]] w fun e w' => e = .returned (.bool (Md.any o p)) ∧ Keeps [] w w' := by
  have hle := h.le
  unfold maxLen at hle
  have HP := Lib.hid hp
  have HV := Lib.hid h
  obtain ⟨av, cv, rfl⟩ := h.shape
  obtain ⟨q, hq⟩ : ∃ q, Md.any o p = q := ⟨_, rfl⟩
  rw [hq]
  have HQ := Lib.hid hq
  obtain ⟨w0, hw0⟩ : ∃ w0, w.alloc (.cells (opV o (.slice av o.cases.length cv)) 33) = w0 := ⟨_, rfl⟩
  have K0 : Hid (Keeps [] w w0) := Lib.hid (hw0 ▸ (Keeps.refl [] w).alloc _)
  have HOB : Hid (Blk w0 w.heap.size [.int .i64 o.kind, .int .i64 o.ch, .int .i64 o.n, .int .i64 o.v, .slice av o.cases.length cv, .bool o.els] 33) := Lib.hid (hw0 ▸ Blk.fresh w [.int .i64 o.kind, .int .i64 o.ch, .int .i64 o.n, .int .i64 o.v, .slice av o.cases.length cv, .bool o.els] _ _ rfl)
  obtain ⟨⟨b0, b1, b2, b3, b4, b5⟩, _⟩ := Blk.six HOB.out
  clear h hp hq
  unfold opV at hw0
  unfold opV
  go_enter Try.func59, Try.ntmps59
  go_wp2_with fail
  clear hw0 b0 b1 b2 b3 b4 b5
  go_loopw [5] (fun u wr => ∃ k : Nat, k ≤ o.cases.length + 1 ∧ u = .int .i64 ((k : Int) - 1) ∧ Hid (Keeps [] w0 wr ∧ Md.anyUpto o p k = false)) (fun u _ => o.cases.length + 1 - (intOf u + 1).toNat)
  case atStart => exact ⟨0, Nat.zero_le _, rfl, Lib.hid ⟨Keeps.refl _ _, rfl⟩⟩
  case round =>
    obtain ⟨k, hk, rfl, HI⟩ := hrel
    obtain ⟨wo, rfl⟩ : ∃ wo : World, wo = wr := ⟨_, rfl⟩
    have HB := Lib.hid (HOB.out.keep HI.out.1 (by simp))
    obtain ⟨⟨b0, b1, b2, b3, b4, b5⟩, _⟩ := Blk.six HB.out
    by_cases hlt : k ≤ o.cases.length
    · have hl1 : (k : Int) - 1 < (o.cases.length : Int) := by omega
      have HLT := Lib.hid hlt
      clear hlt
      go_wp2_with fail
      refine (model_sideOf _ o _ U ((k : Int) - 1) (HV.out.then caseE_kept (K0.out.then HI.out.1))).mono ?_
      rintro e w1 ⟨rfl, k1⟩
      have K1 := Lib.hid (HI.out.1.then k1)
      clear k1 b0 b1 b2 b3 b4 b5
      cases hs : Md.side o ((k : Int) - 1) with
      | none =>
        have HN : Hid (Md.anyUpto o p (k + 1) = false) := Lib.hid (by rw [Md.any_step HI.out.2, hs])
        unfold sdV Md.noSide
        simp only [Option.getD_none, Option.isSome_none]
        go_wp2_with fail
        go_roundw
        case rel => exact ⟨k + 1, by have := HLT.out; omega, by go_num, Lib.hid ⟨K1.out.alloc _, HN.out⟩⟩
        case measure =>
          have := HLT.out
          simp [intOf]; omega
      | some s =>
        have HS := Lib.hid hs
        unfold sdV
        simp only [Option.getD_some, Option.isSome_some]
        clear hs
        go_wp2_with fail
        refine (HP.out ((k : Int) - 1) s _ HS.out (K0.out.then (K1.out.alloc _))).mono ?_
        rintro e w2 ⟨rfl, k2⟩
        have K2 := Lib.hid ((K1.out.alloc _).then k2)
        clear k2
        cases hps : p ((k : Int) - 1) s with
        | true =>
          have HN : Hid (true = q) := Lib.hid (by
            rw [← HQ.out]
            exact (Md.any_more (k := k + 1) (by rw [Md.any_step HI.out.2, HS.out]; exact hps) (by have := HLT.out; omega)).symm)
          go_wp2_with fail
          go_ret
          exact ⟨ret_bool HN.out, K0.out.then K2.out⟩
        | false =>
          have HN : Hid (Md.anyUpto o p (k + 1) = false) := Lib.hid (by rw [Md.any_step HI.out.2, HS.out]; exact hps)
          go_wp2_with fail
          go_roundw
          case rel => exact ⟨k + 1, by have := HLT.out; omega, by go_num, Lib.hid ⟨K2.out, HN.out⟩⟩
          case measure =>
            have := HLT.out
            simp [intOf]; omega
    · obtain rfl : k = o.cases.length + 1 := by omega
      have HN : Hid (false = q) := Lib.hid (by rw [← HQ.out]; exact HI.out.2.symm)
      have hl1 : ¬ ((((o.cases.length + 1 : Nat) : Int) - 1) < (o.cases.length : Int)) := by omega
      have hl2 : ((((o.cases.length + 1 : Nat) : Int) - 1) == -1) = false := by simp
      go_wp2_with fail
      go_ret
      exact ⟨ret_bool HN.out, K0.out.then HI.out.1⟩

set_option maxRecDepth 100000 in
set_option maxHeartbeats 1600000 in
theorem model_anyM (c1 c2 : Value) (w : World) (o : Pn.Op) (vc : Value) (U : List Nat) (p : Int → Md.Sd → Bool) (h : GV caseE 3 w vc o.cases U)
    (hp : ∀ (i : Int) (s : Md.Sd) (w' : World), Md.side o i = some s → Keeps [] w w' → Calls Try.prog 61 #[.int .i64 i, .agg (sdV s), c1, c2] w' fun e w'' => e = .returned (.bool (p i s)) ∧ Keeps [] w' w'') :
    Calls Try.prog 59 #[.agg (opV o vc), .func (.func 61) #[] #[c1, c2]] w fun e w' => e = .returned (.bool (Md.any o p)) ∧ Keeps [] w w' := by
  have hle := h.le
  unfold maxLen at hle
  have HP := Lib.hid hp
  have HV := Lib.hid h
  obtain ⟨av, cv, rfl⟩ := h.shape
  obtain ⟨q, hq⟩ : ∃ q, Md.any o p = q := ⟨_, rfl⟩
  rw [hq]
  have HQ := Lib.hid hq
  obtain ⟨w0, hw0⟩ : ∃ w0, w.alloc (.cells (opV o (.slice av o.cases.length cv)) 33) = w0 := ⟨_, rfl⟩
  have K0 : Hid (Keeps [] w w0) := Lib.hid (hw0 ▸ (Keeps.refl [] w).alloc _)
  have HOB : Hid (Blk w0 w.heap.size [.int .i64 o.kind, .int .i64 o.ch, .int .i64 o.n, .int .i64 o.v, .slice av o.cases.length cv, .bool o.els] 33) := Lib.hid (hw0 ▸ Blk.fresh w [.int .i64 o.kind, .int .i64 o.ch, .int .i64 o.n, .int .i64 o.v, .slice av o.cases.length cv, .bool o.els] _ _ rfl)
  obtain ⟨⟨b0, b1, b2, b3, b4, b5⟩, _⟩ := Blk.six HOB.out
  clear h hp hq
  unfold opV at hw0
  unfold opV
  go_enter Try.func59, Try.ntmps59
  go_wp2_with fail
  clear hw0 b0 b1 b2 b3 b4 b5
  go_loopw [5] (fun u wr => ∃ k : Nat, k ≤ o.cases.length + 1 ∧ u = .int .i64 ((k : Int) - 1) ∧ Hid (Keeps [] w0 wr ∧ Md.anyUpto o p k = false)) (fun u _ => o.cases.length + 1 - (intOf u + 1).toNat)
  case atStart => exact ⟨0, Nat.zero_le _, rfl, Lib.hid ⟨Keeps.refl _ _, rfl⟩⟩
  case round =>
    obtain ⟨k, hk, rfl, HI⟩ := hrel
    obtain ⟨wo, rfl⟩ : ∃ wo : World, wo = wr := ⟨_, rfl⟩
    have HB := Lib.hid (HOB.out.keep HI.out.1 (by simp))
    obtain ⟨⟨b0, b1, b2, b3, b4, b5⟩, _⟩ := Blk.six HB.out
    by_cases hlt : k ≤ o.cases.length
    · have hl1 : (k : Int) - 1 < (o.cases.length : Int) := by omega
      have HLT := Lib.hid hlt
      clear hlt
      go_wp2_with fail
      refine (model_sideOf _ o _ U ((k : Int) - 1) (HV.out.then caseE_kept (K0.out.then HI.out.1))).mono ?_
      rintro e w1 ⟨rfl, k1⟩
      have K1 := Lib.hid (HI.out.1.then k1)
      clear k1 b0 b1 b2 b3 b4 b5
      cases hs : Md.side o ((k : Int) - 1) with
      | none =>
        have HN : Hid (Md.anyUpto o p (k + 1) = false) := Lib.hid (by rw [Md.any_step HI.out.2, hs])
        unfold sdV Md.noSide
        simp only [Option.getD_none, Option.isSome_none]
        go_wp2_with fail
        go_roundw
        case rel => exact ⟨k + 1, by have := HLT.out; omega, by go_num, Lib.hid ⟨K1.out.alloc _, HN.out⟩⟩
        case measure =>
          have := HLT.out
          simp [intOf]; omega
      | some s =>
        have HS := Lib.hid hs
        unfold sdV
        simp only [Option.getD_some, Option.isSome_some]
        clear hs
        go_wp2_with fail
        refine (HP.out ((k : Int) - 1) s _ HS.out (K0.out.then (K1.out.alloc _))).mono ?_
        rintro e w2 ⟨rfl, k2⟩
        have K2 := Lib.hid ((K1.out.alloc _).then k2)
        clear k2
        cases hps : p ((k : Int) - 1) s with
        | true =>
          have HN : Hid (true = q) := Lib.hid (by
            rw [← HQ.out]
            exact (Md.any_more (k := k + 1) (by rw [Md.any_step HI.out.2, HS.out]; exact hps) (by have := HLT.out; omega)).symm)
          go_wp2_with fail
          go_ret
          exact ⟨ret_bool HN.out, K0.out.then K2.out⟩
        | false =>
          have HN : Hid (Md.anyUpto o p (k + 1) = false) := Lib.hid (by rw [Md.any_step HI.out.2, HS.out]; exact hps)
          go_wp2_with fail
          go_roundw
          case rel => exact ⟨k + 1, by have := HLT.out; omega, by go_num, Lib.hid ⟨K2.out, HN.out⟩⟩
          case measure =>
            have := HLT.out
            simp [intOf]; omega
    · obtain rfl : k = o.cases.length + 1 := by omega
      have HN : Hid (false = q) := Lib.hid (by rw [← HQ.out]; exact HI.out.2.symm)
      have hl1 : ¬ ((((o.cases.length + 1 : Nat) : Int) - 1) < (o.cases.length : Int)) := by omega
      have hl2 : ((((o.cases.length + 1 : Nat) : Int) - 1) == -1) = false := by simp
      go_wp2_with fail
      go_ret
      exact ⟨ret_bool HN.out, K0.out.then HI.out.1⟩

set_option maxRecDepth 100000 in
set_option maxHeartbeats 1600000 in
theorem model_anyA (c1 c2 : Value) (w : World) (o : Pn.Op) (vc : Value) (U : List Nat) (p : Int → Md.Sd → Bool) (h : GV caseE 3 w vc o.cases U)
    (hp : ∀ (i : Int) (s : Md.Sd) (w' : World), Md.side o i = some s → Keeps [] w w' → Calls Try.prog 104 #[.int .i64 i, .agg (sdV s), c1, c2] w' fun e w'' => e = .returned (.bool (p i s)) ∧ Keeps [] w' w'') :
    Calls Try.prog 59 #[.agg (opV o vc), .func (.func 104) #[] #[c1, c2]] w fun e w' => e = .returned (.bool (Md.any o p)) ∧ Keeps [] w w' := by
  have hle := h.le
  unfold maxLen at hle
  have HP := Lib.hid hp
  have HV := Lib.hid h
  obtain ⟨av, cv, rfl⟩ := h.shape
  obtain ⟨q, hq⟩ : ∃ q, Md.any o p = q := ⟨_, rfl⟩
  rw [hq]
  have HQ := Lib.hid hq
  obtain ⟨w0, hw0⟩ : ∃ w0, w.alloc (.cells (opV o (.slice av o.cases.length cv)) 33) = w0 := ⟨_, rfl⟩
  have K0 : Hid (Keeps [] w w0) := Lib.hid (hw0 ▸ (Keeps.refl [] w).alloc _)
  have HOB : Hid (Blk w0 w.heap.size [.int .i64 o.kind, .int .i64 o.ch, .int .i64 o.n, .int .i64 o.v, .slice av o.cases.length cv, .bool o.els] 33) := Lib.hid (hw0 ▸ Blk.fresh w [.int .i64 o.kind, .int .i64 o.ch, .int .i64 o.n, .int .i64 o.v, .slice av o.cases.length cv, .bool o.els] _ _ rfl)
  obtain ⟨⟨b0, b1, b2, b3, b4, b5⟩, _⟩ := Blk.six HOB.out
  clear h hp hq
  unfold opV at hw0
  unfold opV
  go_enter Try.func59, Try.ntmps59
  go_wp2_with fail
  clear hw0 b0 b1 b2 b3 b4 b5
  go_loopw [5] (fun u wr => ∃ k : Nat, k ≤ o.cases.length + 1 ∧ u = .int .i64 ((k : Int) - 1) ∧ Hid (Keeps [] w0 wr ∧ Md.anyUpto o p k = false)) (fun u _ => o.cases.length + 1 - (intOf u + 1).toNat)
  case atStart => exact ⟨0, Nat.zero_le _, rfl, Lib.hid ⟨Keeps.refl _ _, rfl⟩⟩
  case round =>
    obtain ⟨k, hk, rfl, HI⟩ := hrel
    obtain ⟨wo, rfl⟩ : ∃ wo : World, wo = wr := ⟨_, rfl⟩
    have HB := Lib.hid (HOB.out.keep HI.out.1 (by simp))
    obtain ⟨⟨b0, b1, b2, b3, b4, b5⟩, _⟩ := Blk.six HB.out
    by_cases hlt : k ≤ o.cases.length
    · have hl1 : (k : Int) - 1 < (o.cases.length : Int) := by omega
      have HLT := Lib.hid hlt
      clear hlt
      go_wp2_with fail
      refine (model_sideOf _ o _ U ((k : Int) - 1) (HV.out.then caseE_kept (K0.out.then HI.out.1))).mono ?_
      rintro e w1 ⟨rfl, k1⟩
      have K1 := Lib.hid (HI.out.1.then k1)
      clear k1 b0 b1 b2 b3 b4 b5
      cases hs : Md.side o ((k : Int) - 1) with
      | none =>
        have HN : Hid (Md.anyUpto o p (k + 1) = false) := Lib.hid (by rw [Md.any_step HI.out.2, hs])
        unfold sdV Md.noSide
        simp only [Option.getD_none, Option.isSome_none]
        go_wp2_with fail
        go_roundw
        case rel => exact ⟨k + 1, by have := HLT.out; omega, by go_num, Lib.hid ⟨K1.out.alloc _, HN.out⟩⟩
        case measure =>
          have := HLT.out
          simp [intOf]; omega
      | some s =>
        have HS := Lib.hid hs
        unfold sdV
        simp only [Option.getD_some, Option.isSome_some]
        clear hs
        go_wp2_with fail
        refine (HP.out ((k : Int) - 1) s _ HS.out (K0.out.then (K1.out.alloc _))).mono ?_
        rintro e w2 ⟨rfl, k2⟩
        have K2 := Lib.hid ((K1.out.alloc _).then k2)
        clear k2
        cases hps : p ((k : Int) - 1) s with
        | true =>
          have HN : Hid (true = q) := Lib.hid (by
            rw [← HQ.out]
            exact (Md.any_more (k := k + 1) (by rw [Md.any_step HI.out.2, HS.out]; exact hps) (by have := HLT.out; omega)).symm)
          go_wp2_with fail
          go_ret
          exact ⟨ret_bool HN.out, K0.out.then K2.out⟩
        | false =>
          have HN : Hid (Md.anyUpto o p (k + 1) = false) := Lib.hid (by rw [Md.any_step HI.out.2, HS.out]; exact hps)
          go_wp2_with fail
          go_roundw
          case rel => exact ⟨k + 1, by have := HLT.out; omega, by go_num, Lib.hid ⟨K2.out, HN.out⟩⟩
          case measure =>
            have := HLT.out
            simp [intOf]; omega
    · obtain rfl : k = o.cases.length + 1 := by omega
      have HN : Hid (false = q) := Lib.hid (by rw [← HQ.out]; exact HI.out.2.symm)
      have hl1 : ¬ ((((o.cases.length + 1 : Nat) : Int) - 1) < (o.cases.length : Int)) := by omega
      have hl2 : ((((o.cases.length + 1 : Nat) : Int) - 1) == -1) = false := by simp
      go_wp2_with fail
      go_ret
      exact ⟨ret_bool HN.out, K0.out.then HI.out.1⟩
end Go.Proofs.Ytopkfhmdgheghaa
