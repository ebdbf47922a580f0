/-
  New, May, Any, Waits of package model: contracts.
  Conditions: none.
-/
import Derived.Test.YtopkfhmdgheghaaModelO
namespace Go.Proofs.Ytopkfhmdgheghaa
open Go.RowKit
set_option linter.unusedVariables false
set_option linter.unusedSimpArgs false
set_option linter.unnecessarySimpa false

def Md.new : Md.St := ⟨[], fun _ => none⟩
def NewPost (w : World) (e : Ending) (w' : World) : Prop := ∃ b S, e = .returned (.pointer (some ⟨b, 0, none⟩)) ∧ Mo w' (.pointer (some ⟨b, 0, none⟩)) Md.new 0 S ∧ Keeps [] w w' ∧ ∀ x ∈ S, w.heap.size ≤ x
theorem model_new (w : World) : Calls Try.prog 10 #[] w (NewPost w) := by
  have hmm := @run_makeMap Try.prog
  go_enter Try.func10, Try.ntmps10
  go_wp2_with fail
  go_ret
  have k1 : Keeps [] w (w.alloc (.map #[] 0)) := (Keeps.refl [] w).alloc _
  refine ⟨w.heap.size + 1, [w.heap.size + 1, w.heap.size], rfl, ⟨w.heap.size + 1, w.heap.size, .slice none 0 0, [], [], [], fun _ => none, fun x => if x = w.heap.size + 1 then 0 else 1, rfl, ⟨?_, ?_, ?_, fun g => rfl, by simp, by simp, by simp, by simp, by simp, by simp, by simp, by simp, ?_⟩⟩, k1.alloc _, ?_⟩
  · exact Blk.fresh _ [.slice none 0 0, .map (some w.heap.size)] _ _ (by simp)
  · exact ⟨⟨[], Row.nil _ _ _, fun k c U h => by simp [Md.new] at h⟩, rfl, by simp, fun k U h => by simp at h⟩
  · exact (MapV.made Try.prog 3 w).then ((Keeps.refl [] _).alloc _)
  · intro x hx; simp at hx; rcases hx with rfl | rfl <;> simp <;> omega
  · intro x hx; simp at hx; rcases hx with rfl | rfl <;> omega

set_option maxHeartbeats 1600000 in
theorem model_May (w : World) (p : Value) (st : Md.St) (N : Nat) (S : List Nat) (g : Int) (o : Pn.Op) (vc : Value) (U : List Nat) (i : Int) (h : Mo w p st N S) (hv : GV caseE 3 w vc o.cases U) :
    Calls Try.prog 25 #[p, .int .i64 g, .agg (opV o vc), .int .i64 i] w (RBool (Md.mayAt st g o i) w) := by
  have HM := Lib.hid h
  have HV := Lib.hid hv
  obtain ⟨b, _, _, _, _, _, _, _, rfl, _⟩ := h
  obtain ⟨av, cv, rfl⟩ := hv.shape
  obtain ⟨q, hq⟩ : ∃ q, Md.mayAt st g o i = q := ⟨_, rfl⟩
  rw [hq]
  have HQ := Lib.hid hq
  clear hv hq
  unfold opV
  go_enter Try.func25, Try.ntmps25
  go_wp2_with fail
  refine (model_sideOf _ o _ U i (HV.out.then caseE_kept ((Keeps.refl [] w).alloc _))).mono ?_
  rintro e w1 ⟨rfl, k1⟩
  have K1 := Lib.hid (((Keeps.refl [] w).alloc _).then k1)
  clear k1
  cases hs : Md.side o i with
  | none =>
    have HN : Hid (false = q) := Lib.hid (by rw [← HQ.out]; unfold Md.mayAt; rw [hs])
    unfold sdV Md.noSide
    simp only [Option.getD_none, Option.isSome_none]
    go_wp2_with fail
    go_ret
    exact rb HN.out (K1.out.alloc _)
  | some s =>
    have HN : Hid (Md.may st g s = q) := Lib.hid (by rw [← HQ.out]; unfold Md.mayAt; rw [hs])
    unfold sdV
    simp only [Option.getD_some, Option.isSome_some]
    go_wp2_with fail
    refine (model_may _ _ st N S g s (HM.out.then (K1.out.alloc _))).mono ?_
    rintro e w2 ⟨rfl, k2⟩
    rw [HN.out]
    have K2 := Lib.hid ((K1.out.alloc _).then k2)
    clear k2
    go_wp2_with fail
    go_ret
    exact rb (by simp) K2.out

theorem model_mays (w : World) (p : Value) (st : Md.St) (N : Nat) (S : List Nat) (g i : Int) (s : Md.Sd) (c d : Nat) (h : Mo w p st N S) (hc : w.cell? ⟨c, 0, none⟩ = some p) (hd : w.cell? ⟨d, 0, none⟩ = some (.int .i64 g)) :
    Calls Try.prog 61 #[.int .i64 i, .agg (sdV s), .pointer (some ⟨c, 0, none⟩), .pointer (some ⟨d, 0, none⟩)] w fun e w' => e = .returned (.bool (Md.may st g s)) ∧ Keeps [] w w' := by
  have HM := Lib.hid h
  obtain ⟨b, _, _, _, _, _, _, _, rfl, _⟩ := h
  have A1 : ∀ x : Obj, (w.alloc x).cell? ⟨c, 0, none⟩ = some (.pointer (some ⟨b, 0, none⟩)) := fun x => ((Keeps.refl [] w).alloc x).cell hc (by simp)
  have A2 : ∀ x : Obj, (w.alloc x).cell? ⟨d, 0, none⟩ = some (.int .i64 g) := fun x => ((Keeps.refl [] w).alloc x).cell hd (by simp)
  clear hc hd
  obtain ⟨q, hq⟩ : ∃ q, Md.may st g s = q := ⟨_, rfl⟩
  rw [hq]
  unfold sdV
  go_enter Try.func61, Try.ntmps61
  go_wp2_with fail
  refine (model_may _ _ st N S g s (HM.out.then ((Keeps.refl [] w).alloc _))).mono ?_
  rintro e w2 ⟨rfl, k2⟩
  rw [hq]
  have K2 := Lib.hid (((Keeps.refl [] w).alloc _).then k2)
  clear k2
  go_wp2_with fail
  go_ret
  exact ⟨rfl, K2.out⟩

set_option maxHeartbeats 1600000 in
theorem model_Any (w : World) (p : Value) (st : Md.St) (N : Nat) (S : List Nat) (g : Int) (o : Pn.Op) (vc : Value) (U : List Nat) (h : Mo w p st N S) (hv : GV caseE 3 w vc o.cases U) :
    Calls Try.prog 22 #[p, .int .i64 g, .agg (opV o vc)] w (RBool (Md.anyMay st g o) w) := by
  have hmf : ∀ (fn : Fn) (first cap : Array Value) (w : World), (Instr.makeFunc fn first cap).run Try.prog w = .ok (.func fn first cap) w := fun _ _ _ _ => rfl
  have HM := Lib.hid h
  have HV := Lib.hid hv
  obtain ⟨b, _, _, _, _, _, _, _, rfl, _⟩ := h
  obtain ⟨av, cv, rfl⟩ := hv.shape
  obtain ⟨w0, hw0⟩ : ∃ w0, ((w.alloc (.cells #[.pointer (some ⟨b, 0, none⟩)] 25)).alloc (.cells #[.int .i64 g] 3)).alloc (.cells (opV o (.slice av o.cases.length cv)) 33) = w0 := ⟨_, rfl⟩
  have K0 : Hid (Keeps [] w w0) := Lib.hid (hw0 ▸ (((Keeps.refl [] w).alloc _).alloc _).alloc _)
  have HC : Hid (w0.cell? ⟨w.heap.size, 0, none⟩ = some (.pointer (some ⟨b, 0, none⟩))) := Lib.hid (hw0 ▸ (((Blk.fresh w [.pointer (some ⟨b, 0, none⟩)] _ _ rfl).alloc _).alloc _).cell 0)
  have HG : Hid (w0.cell? ⟨w.heap.size + 1, 0, none⟩ = some (.int .i64 g)) := Lib.hid (hw0 ▸ ((Blk.fresh _ [.int .i64 g] _ _ (by simp)).alloc _).cell 0)
  have HOB : Hid (Blk w0 (w.heap.size + 2) [.int .i64 o.kind, .int .i64 o.ch, .int .i64 o.n, .int .i64 o.v, .slice av o.cases.length cv, .bool o.els] 33) := Lib.hid (hw0 ▸ Blk.fresh _ [.int .i64 o.kind, .int .i64 o.ch, .int .i64 o.n, .int .i64 o.v, .slice av o.cases.length cv, .bool o.els] _ _ (by simp))
  obtain ⟨⟨b0, b1, b2, b3, b4, b5⟩, _⟩ := Blk.six HOB.out
  clear hv
  unfold opV at hw0
  unfold opV
  go_enter Try.func22, Try.ntmps22
  go_wp2_with fail
  refine (model_anyM _ _ _ o _ U (fun _ s => Md.may st g s) (HV.out.then caseE_kept K0.out) (fun i s w' _ k => model_mays w' _ st N S g i s _ _ (HM.out.then (K0.out.then k)) (k.cell HC.out (by simp)) (k.cell HG.out (by simp)))).mono ?_
  rintro e w2 ⟨rfl, k2⟩
  have K2 := Lib.hid (K0.out.then k2)
  obtain ⟨q, hq⟩ : ∃ q, Md.any o (fun _ s => Md.may st g s) = q := ⟨_, rfl⟩
  have HN : Hid (q = Md.anyMay st g o) := Lib.hid hq.symm
  rw [hq]
  clear k2 hq hw0
  go_wp2_with fail
  go_ret
  exact rb HN.out K2.out

abbrev zOp : Value := .agg #[.int .i64 0, .int .i64 0, .int .i64 0, .int .i64 0, .slice none 0 0, .bool false]
theorem zero_info : (Try.prog.info? 33).map (fun i => i.zero) = some (some zOp) := by kernel_rfl
theorem zero_op (w : World) : (zeroValue 33).run Try.prog w = .ok zOp w := by
  have h := zero_info
  cases hi : Try.prog.info? 33 with
  | none => rw [hi] at h; cases h
  | some i =>
    rw [hi] at h
    have h2 : i.zero = some zOp := by simpa using h
    simp [zeroValue, typeInfo, hi, h2]
set_option maxHeartbeats 1600000 in
theorem model_waits (w : World) (p : Value) (st : Md.St) (N : Nat) (S : List Nat) (g : Int) (h : Mo w p st N S) (hgw : wf64L g) :
    Calls Try.prog 21 #[p, .int .i64 g] w (RBool (st.waits g).isSome w) := by
  obtain ⟨b, bm, vh, T, Us, SW, f, col, rfl, hm⟩ := h
  have m1 := hm.cells.2.1
  cases hw : st.waits g with
  | none =>
    have hf := hm.wm.none hw
    go_enter Try.func21, Try.ntmps21
    go_wp2_with (at_lookup; go_must (refine wp_mapGet (f := f) Try.underlying3 Try.underlying100 zero_op hgw hm.map ?_))
    go_ret
    exact rb rfl ((Keeps.refl [] w).alloc _)
  | some o =>
    obtain ⟨_, vc, U, hf, hv, _⟩ := hm.wm.some hw
    obtain ⟨av, cv, rfl⟩ := hv.shape
    unfold opV at hf
    go_enter Try.func21, Try.ntmps21
    go_wp2_with (at_lookup; go_must (refine wp_mapGet (f := f) Try.underlying3 Try.underlying100 zero_op hgw hm.map ?_))
    go_ret
    exact rb rfl ((Keeps.refl [] w).alloc _)
end Go.Proofs.Ytopkfhmdgheghaa
