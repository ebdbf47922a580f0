/-
  No of package model: its contract.
  Conditions: none.
-/
import Derived.Test.YtopkfhmdgheghaaModelP
namespace Go.Proofs.Ytopkfhmdgheghaa
open Go.RowKit
set_option linter.unusedVariables false
set_option linter.unusedSimpArgs false
set_option linter.unnecessarySimpa false

set_option maxRecDepth 100000 in
set_option maxHeartbeats 1600000 in
theorem model_no4 (w : World) (p : Value) (st : Md.St) (N : Nat) (S : List Nat) (g : Int) (o : Pn.Op) (vc : Value) (U : List Nat) (h : Mo w p st N S) (hv : GV caseE 3 w vc o.cases U) (e4 : o.kind = 4) :
    Calls Try.prog 24 #[p, .int .i64 g, .agg (opV o vc)] w (RBool (Md.no st g o) w) := by
  have HM := Lib.hid h
  have HV := Lib.hid hv
  obtain ⟨b, _, _, _, _, _, _, _, rfl, _⟩ := h
  obtain ⟨av, cv, rfl⟩ := hv.shape
  obtain ⟨q, hq⟩ : ∃ q, Md.no st g o = q := ⟨_, rfl⟩
  rw [hq]
  have HQ := Lib.hid hq
  obtain ⟨w0, hw0⟩ : ∃ w0, w.alloc (.cells (opV o (.slice av o.cases.length cv)) 33) = w0 := ⟨_, rfl⟩
  have K0 : Hid (Keeps [] w w0) := Lib.hid (hw0 ▸ (Keeps.refl [] w).alloc _)
  have HOB : Hid (Blk w0 w.heap.size [.int .i64 o.kind, .int .i64 o.ch, .int .i64 o.n, .int .i64 o.v, .slice av o.cases.length cv, .bool o.els] 33) := Lib.hid (hw0 ▸ Blk.fresh w [.int .i64 o.kind, .int .i64 o.ch, .int .i64 o.n, .int .i64 o.v, .slice av o.cases.length cv, .bool o.els] _ _ rfl)
  obtain ⟨⟨b0, b1, b2, b3, b4, b5⟩, _⟩ := Blk.six HOB.out
  clear hv hq
  have hk4 : (o.kind == 4) = true := by simp [e4]
  have hk5 : (o.kind == 5) = false := by simp [e4]
  have hk9 : (o.kind == 9) = false := by simp [e4]
  have HT : Hid (Md.tries o = true) := Lib.hid (by unfold Md.tries; exact decide_eq_true (.inl e4))
  clear e4
  unfold opV at hw0
  unfold opV
  go_enter Try.func24, Try.ntmps24
  go_wp2_with fail
  refine (model_Any _ _ st N S g o _ U (HM.out.then K0.out) (HV.out.then caseE_kept K0.out)).mono ?_
  rintro e w1 ⟨rfl, k1⟩
  have K1 := Lib.hid k1
  clear k1 hw0
  obtain ⟨z, hz⟩ : ∃ z, Md.anyMay st g o = z := ⟨_, rfl⟩
  have HN : Hid ((!z) = q) := Lib.hid (by rw [← HQ.out]; unfold Md.no; rw [HT.out, hz]; rfl)
  rw [hz]
  clear hz
  go_wp2_with fail
  go_ret
  exact rb HN.out (K0.out.then K1.out)

set_option maxRecDepth 100000 in
set_option maxHeartbeats 1600000 in
theorem model_no5 (w : World) (p : Value) (st : Md.St) (N : Nat) (S : List Nat) (g : Int) (o : Pn.Op) (vc : Value) (U : List Nat) (h : Mo w p st N S) (hv : GV caseE 3 w vc o.cases U) (e5 : o.kind = 5) :
    Calls Try.prog 24 #[p, .int .i64 g, .agg (opV o vc)] w (RBool (Md.no st g o) w) := by
  have HM := Lib.hid h
  have HV := Lib.hid hv
  obtain ⟨b, _, _, _, _, _, _, _, rfl, _⟩ := h
  obtain ⟨av, cv, rfl⟩ := hv.shape
  obtain ⟨q, hq⟩ : ∃ q, Md.no st g o = q := ⟨_, rfl⟩
  rw [hq]
  have HQ := Lib.hid hq
  obtain ⟨w0, hw0⟩ : ∃ w0, w.alloc (.cells (opV o (.slice av o.cases.length cv)) 33) = w0 := ⟨_, rfl⟩
  have K0 : Hid (Keeps [] w w0) := Lib.hid (hw0 ▸ (Keeps.refl [] w).alloc _)
  have HOB : Hid (Blk w0 w.heap.size [.int .i64 o.kind, .int .i64 o.ch, .int .i64 o.n, .int .i64 o.v, .slice av o.cases.length cv, .bool o.els] 33) := Lib.hid (hw0 ▸ Blk.fresh w [.int .i64 o.kind, .int .i64 o.ch, .int .i64 o.n, .int .i64 o.v, .slice av o.cases.length cv, .bool o.els] _ _ rfl)
  obtain ⟨⟨b0, b1, b2, b3, b4, b5⟩, _⟩ := Blk.six HOB.out
  clear hv hq
  have hk4 : (o.kind == 4) = false := by simp [e5]
  have hk5 : (o.kind == 5) = true := by simp [e5]
  have hk9 : (o.kind == 9) = false := by simp [e5]
  have HT : Hid (Md.tries o = true) := Lib.hid (by unfold Md.tries; exact decide_eq_true (.inr (.inl e5)))
  clear e5
  unfold opV at hw0
  unfold opV
  go_enter Try.func24, Try.ntmps24
  go_wp2_with fail
  refine (model_Any _ _ st N S g o _ U (HM.out.then K0.out) (HV.out.then caseE_kept K0.out)).mono ?_
  rintro e w1 ⟨rfl, k1⟩
  have K1 := Lib.hid k1
  clear k1 hw0
  obtain ⟨z, hz⟩ : ∃ z, Md.anyMay st g o = z := ⟨_, rfl⟩
  have HN : Hid ((!z) = q) := Lib.hid (by rw [← HQ.out]; unfold Md.no; rw [HT.out, hz]; rfl)
  rw [hz]
  clear hz
  go_wp2_with fail
  go_ret
  exact rb HN.out (K0.out.then K1.out)

set_option maxRecDepth 100000 in
set_option maxHeartbeats 1600000 in
theorem model_no0 (w : World) (p : Value) (st : Md.St) (N : Nat) (S : List Nat) (g : Int) (o : Pn.Op) (vc : Value) (U : List Nat) (h : Mo w p st N S) (hv : GV caseE 3 w vc o.cases U) (e4 : o.kind ≠ 4) (e5 : o.kind ≠ 5) (e9 : o.kind ≠ 9) :
    Calls Try.prog 24 #[p, .int .i64 g, .agg (opV o vc)] w (RBool (Md.no st g o) w) := by
  have HM := Lib.hid h
  have HV := Lib.hid hv
  obtain ⟨b, _, _, _, _, _, _, _, rfl, _⟩ := h
  obtain ⟨av, cv, rfl⟩ := hv.shape
  obtain ⟨q, hq⟩ : ∃ q, Md.no st g o = q := ⟨_, rfl⟩
  rw [hq]
  have HQ := Lib.hid hq
  obtain ⟨w0, hw0⟩ : ∃ w0, w.alloc (.cells (opV o (.slice av o.cases.length cv)) 33) = w0 := ⟨_, rfl⟩
  have K0 : Hid (Keeps [] w w0) := Lib.hid (hw0 ▸ (Keeps.refl [] w).alloc _)
  have HOB : Hid (Blk w0 w.heap.size [.int .i64 o.kind, .int .i64 o.ch, .int .i64 o.n, .int .i64 o.v, .slice av o.cases.length cv, .bool o.els] 33) := Lib.hid (hw0 ▸ Blk.fresh w [.int .i64 o.kind, .int .i64 o.ch, .int .i64 o.n, .int .i64 o.v, .slice av o.cases.length cv, .bool o.els] _ _ rfl)
  obtain ⟨⟨b0, b1, b2, b3, b4, b5⟩, _⟩ := Blk.six HOB.out
  clear hv hq
  have hk4 : (o.kind == 4) = false := by simp [e4, e5, e9]
  have hk5 : (o.kind == 5) = false := by simp [e4, e5, e9]
  have hk9 : (o.kind == 9) = false := by simp [e4, e5, e9]
  have HT : Hid (Md.tries o = false) := Lib.hid (by unfold Md.tries; exact decide_eq_false (by rintro (h | h | ⟨h, _⟩); exact e4 h; exact e5 h; exact e9 h))
  clear e4 e5 e9
  unfold opV at hw0
  unfold opV
  go_enter Try.func24, Try.ntmps24
  have HN : Hid (false = q) := Lib.hid (by rw [← HQ.out]; unfold Md.no; rw [HT.out]; rfl)
  go_wp2_with fail
  go_ret
  exact rb HN.out K0.out

set_option maxRecDepth 100000 in
set_option maxHeartbeats 1600000 in
theorem model_no9t (w : World) (p : Value) (st : Md.St) (N : Nat) (S : List Nat) (g : Int) (oc on ov : Int) (ocs : List Pn.Cs) (vc : Value) (U : List Nat) (h : Mo w p st N S) (hv : GV caseE 3 w vc ocs U) :
    Calls Try.prog 24 #[p, .int .i64 g, .agg (opV ⟨9, oc, on, ov, ocs, true⟩ vc)] w (RBool (Md.no st g ⟨9, oc, on, ov, ocs, true⟩) w) := by
  have HM := Lib.hid h
  have HV := Lib.hid hv
  obtain ⟨b, _, _, _, _, _, _, _, rfl, _⟩ := h
  obtain ⟨av, cv, rfl⟩ := hv.shape
  obtain ⟨q, hq⟩ : ∃ q, Md.no st g ⟨9, oc, on, ov, ocs, true⟩ = q := ⟨_, rfl⟩
  rw [hq]
  have HQ := Lib.hid hq
  obtain ⟨w0, hw0⟩ : ∃ w0, w.alloc (.cells (opV ⟨9, oc, on, ov, ocs, true⟩ (.slice av ocs.length cv)) 33) = w0 := ⟨_, rfl⟩
  have K0 : Hid (Keeps [] w w0) := Lib.hid (hw0 ▸ (Keeps.refl [] w).alloc _)
  have HOB : Hid (Blk w0 w.heap.size [.int .i64 9, .int .i64 oc, .int .i64 on, .int .i64 ov, .slice av ocs.length cv, .bool true] 33) := Lib.hid (hw0 ▸ Blk.fresh w [.int .i64 9, .int .i64 oc, .int .i64 on, .int .i64 ov, .slice av ocs.length cv, .bool true] _ _ rfl)
  obtain ⟨⟨b0, b1, b2, b3, b4, b5⟩, _⟩ := Blk.six HOB.out
  clear hv hq
  have HT : Hid (Md.tries ⟨9, oc, on, ov, ocs, true⟩ = true) := Lib.hid (by unfold Md.tries; rfl)
  unfold opV at hw0
  unfold opV
  simp only at hw0 ⊢
  go_enter Try.func24, Try.ntmps24
  go_wp2_with fail
  refine (model_Any _ _ st N S g ⟨9, oc, on, ov, ocs, true⟩ _ U (HM.out.then K0.out) (HV.out.then caseE_kept K0.out)).mono ?_
  rintro e w1 ⟨rfl, k1⟩
  have K1 := Lib.hid k1
  clear k1 hw0
  obtain ⟨z, hz⟩ : ∃ z, Md.anyMay st g ⟨9, oc, on, ov, ocs, true⟩ = z := ⟨_, rfl⟩
  have HN : Hid ((!z) = q) := Lib.hid (by rw [← HQ.out]; unfold Md.no; rw [HT.out, hz]; rfl)
  rw [hz]
  clear hz
  go_wp2_with fail
  go_ret
  exact rb HN.out (K0.out.then K1.out)

set_option maxRecDepth 100000 in
set_option maxHeartbeats 1600000 in
theorem model_no9f (w : World) (p : Value) (st : Md.St) (N : Nat) (S : List Nat) (g : Int) (oc on ov : Int) (ocs : List Pn.Cs) (vc : Value) (U : List Nat) (h : Mo w p st N S) (hv : GV caseE 3 w vc ocs U) :
    Calls Try.prog 24 #[p, .int .i64 g, .agg (opV ⟨9, oc, on, ov, ocs, false⟩ vc)] w (RBool (Md.no st g ⟨9, oc, on, ov, ocs, false⟩) w) := by
  have HM := Lib.hid h
  have HV := Lib.hid hv
  obtain ⟨b, _, _, _, _, _, _, _, rfl, _⟩ := h
  obtain ⟨av, cv, rfl⟩ := hv.shape
  obtain ⟨q, hq⟩ : ∃ q, Md.no st g ⟨9, oc, on, ov, ocs, false⟩ = q := ⟨_, rfl⟩
  rw [hq]
  have HQ := Lib.hid hq
  obtain ⟨w0, hw0⟩ : ∃ w0, w.alloc (.cells (opV ⟨9, oc, on, ov, ocs, false⟩ (.slice av ocs.length cv)) 33) = w0 := ⟨_, rfl⟩
  have K0 : Hid (Keeps [] w w0) := Lib.hid (hw0 ▸ (Keeps.refl [] w).alloc _)
  have HOB : Hid (Blk w0 w.heap.size [.int .i64 9, .int .i64 oc, .int .i64 on, .int .i64 ov, .slice av ocs.length cv, .bool false] 33) := Lib.hid (hw0 ▸ Blk.fresh w [.int .i64 9, .int .i64 oc, .int .i64 on, .int .i64 ov, .slice av ocs.length cv, .bool false] _ _ rfl)
  obtain ⟨⟨b0, b1, b2, b3, b4, b5⟩, _⟩ := Blk.six HOB.out
  clear hv hq
  have HT : Hid (Md.tries ⟨9, oc, on, ov, ocs, false⟩ = false) := Lib.hid (by unfold Md.tries; rfl)
  unfold opV at hw0
  unfold opV
  simp only at hw0 ⊢
  go_enter Try.func24, Try.ntmps24
  have HN : Hid (false = q) := Lib.hid (by rw [← HQ.out]; unfold Md.no; rw [HT.out]; rfl)
  go_wp2_with fail
  go_ret
  exact rb HN.out K0.out

theorem model_no (w : World) (p : Value) (st : Md.St) (N : Nat) (S : List Nat) (g : Int) (o : Pn.Op) (vc : Value) (U : List Nat) (h : Mo w p st N S) (hv : GV caseE 3 w vc o.cases U) :
    Calls Try.prog 24 #[p, .int .i64 g, .agg (opV o vc)] w (RBool (Md.no st g o) w) := by
  by_cases e4 : o.kind = 4
  · exact model_no4 w p st N S g o vc U h hv e4
  by_cases e5 : o.kind = 5
  · exact model_no5 w p st N S g o vc U h hv e5
  by_cases e9 : o.kind = 9
  · obtain ⟨k, c, n, v, cs, e⟩ := o
    simp only at e9
    subst e9
    cases e with
    | true => exact model_no9t w p st N S g c n v cs vc U h hv
    | false => exact model_no9f w p st N S g c n v cs vc U h hv
  exact model_no0 w p st N S g o vc U h hv e4 e5 e9
end Go.Proofs.Ytopkfhmdgheghaa
