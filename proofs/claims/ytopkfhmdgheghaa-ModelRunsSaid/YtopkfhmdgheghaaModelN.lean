/-
  another of package model: its contract.
  Conditions: none.
-/
import Derived.Test.YtopkfhmdgheghaaModelH
import Derived.Test.YtopkfhmdgheghaaModelM
import Derived.Test.YtopkfhmdgheghaaCore
namespace Go.Proofs.Ytopkfhmdgheghaa
open Go.RowKit
set_option linter.unusedVariables false
set_option linter.unusedSimpArgs false
set_option linter.unnecessarySimpa false

def meetsP (ch : Int) (sends : Bool) (_ : Int) (s : Md.Sd) : Bool := s.ch == ch && s.send == sends
theorem model_meets (w : World) (i : Int) (s : Md.Sd) (c d : Nat) (ch : Int) (sends : Bool) (hc : w.cell? ⟨c, 0, none⟩ = some (.int .i64 ch)) (hd : w.cell? ⟨d, 0, none⟩ = some (.bool sends)) :
    Calls Try.prog 104 #[.int .i64 i, .agg (sdV s), .pointer (some ⟨c, 0, none⟩), .pointer (some ⟨d, 0, none⟩)] w fun e w' => e = .returned (.bool (meetsP ch sends i s)) ∧ Keeps [] w w' := by
  obtain ⟨sc, ss, sv⟩ := s
  unfold sdV meetsP
  simp only
  have A1 : ∀ x : Obj, (w.alloc x).cell? ⟨c, 0, none⟩ = some (.int .i64 ch) := fun x => ((Keeps.refl [] w).alloc x).cell hc (by simp)
  have A2 : ∀ x : Obj, (w.alloc x).cell? ⟨d, 0, none⟩ = some (.bool sends) := fun x => ((Keeps.refl [] w).alloc x).cell hd (by simp)
  cases hb : (sc == ch) with
  | false =>
    go_enter Try.func104, Try.ntmps104
    go_wp2_with fail
    go_ret
    exact ⟨rfl, (Keeps.refl [] w).alloc _⟩
  | true =>
    go_enter Try.func104, Try.ntmps104
    go_wp2_with fail
    go_ret
    exact ⟨by simp, (Keeps.refl [] w).alloc _⟩

theorem Md.another_true {st : Md.St} {g ch : Int} {sends : Bool} {h : Int} {o : Pn.Op} (h1 : st.waits h = some o) (h2 : h ≠ g) (h3 : Md.any o (meetsP ch sends) = true) : Md.another st g ch sends = true := by
  unfold Md.another
  classical
  exact decide_eq_true ⟨h, o, h1, h2, h3⟩
theorem Md.another_false {st : Md.St} {g ch : Int} {sends : Bool} (h : ∀ x o, st.waits x = some o → x ≠ g → Md.any o (meetsP ch sends) = false) : Md.another st g ch sends = false := by
  unfold Md.another
  classical
  refine decide_eq_false ?_
  rintro ⟨x, o, h1, h2, h3⟩
  have h4 : Md.any o (meetsP ch sends) = true := h3
  rw [h x o h1 h2] at h4
  cases h4

set_option maxHeartbeats 1600000 in
theorem model_another (w : World) (p : Value) (st : Md.St) (N : Nat) (S : List Nat) (g ch : Int) (sends : Bool) (h : Mo w p st N S) :
    Calls Try.prog 90 #[p, .int .i64 g, .int .i64 ch, .bool sends] w fun e w' => e = .returned (.bool (Md.another st g ch sends)) ∧ Keeps [] w w' := by
  have hmf : ∀ (fn : Fn) (first cap : Array Value) (w : World), (Instr.makeFunc fn first cap).run Try.prog w = .ok (.func fn first cap) w := fun _ _ _ _ => rfl
  obtain ⟨b, bm, vh, T, Us, SW, f, col, rfl, hm⟩ := h
  obtain ⟨q, hq⟩ : ∃ q, Md.another st g ch sends = q := ⟨_, rfl⟩
  rw [hq]
  have HQ := Lib.hid hq
  obtain ⟨w0, hw0⟩ : ∃ w0, (w.alloc (.cells #[.int .i64 ch] 3)).alloc (.cells #[.bool sends] 4) = w0 := ⟨_, rfl⟩
  have K0 : Hid (Keeps [] w w0) := Lib.hid (hw0 ▸ ((Keeps.refl [] w).alloc _).alloc _)
  have HC : Hid (w0.cell? ⟨w.heap.size, 0, none⟩ = some (.int .i64 ch)) := Lib.hid (hw0 ▸ ((Blk.fresh w [.int .i64 ch] _ _ rfl).alloc _).cell 0)
  have HDD : Hid (w0.cell? ⟨w.heap.size + 1, 0, none⟩ = some (.bool sends)) := Lib.hid (hw0 ▸ (Blk.fresh _ [.bool sends] _ _ (by simp)).cell 0)
  have HM := Lib.hid (hm.then K0.out)
  have HSZ : Hid (w.heap.size + 2 ≤ w0.heap.size) := Lib.hid (by rw [← hw0]; simp)
  have m1 := HM.out.cells.2.1
  clear hm hq
  go_enter Try.func90, Try.ntmps90
  go_wp2_with (at_range; go_must (refine wp_range (f := f) Try.underlying3 Try.underlying100 HM.out.map ?_))
  intro w1 cnt0 hr0 k1 hs1
  have K1 := Lib.hid k1
  have HR0 := Lib.hid hr0
  have HRB : Hid (∀ x ∈ S, x ≠ w0.heap.size) := Lib.hid (fun x hx e => by have := HM.out.lt x hx; omega)
  clear hr0 k1 hs1 hw0 m1
  go_wp2_with fail
  go_loopw [10] (fun _ wr => ∃ (left : Int → Bool) (cnt : Nat), Hid (MapR Try.prog 3 wr bm w0.heap.size N f left cnt ∧ Keeps [w0.heap.size] w1 wr ∧ (∀ z, left z = true → (f z).isSome = true) ∧ ∀ x o, st.waits x = some o → left x = false → x ≠ g → Md.any o (meetsP ch sends) = false)) (fun _ wr => wr.rangeLeft bm w0.heap.size)
  case atStart => exact ⟨_, _, Lib.hid ⟨HR0.out, Keeps.refl _ _, fun z hz => hz, fun x o h1 h2 h3 => by
    obtain ⟨_, vc, U, h4, _⟩ := HM.out.wm.some h1
    simp [h4] at h2⟩⟩
  case round =>
    obtain ⟨left, cnt, HI⟩ := hrel
    obtain ⟨wo, rfl⟩ : ∃ wo : World, wo = wr := ⟨_, rfl⟩
    have HWO := Lib.hid (HM.out.keep ((K1.out.mono (T := [w0.heap.size]) (by simp)).trans HI.out.2.1 (fun x hx => .inl hx)) (fun x hx => by simpa using HRB.out x hx))
    have KO : Hid (Keeps [] w0 wo) := Lib.hid ((K1.out.trans HI.out.2.1 (fun x hx => by simp at hx; subst hx; exact .inr (Nat.le_refl _))))
    go_wp2_with (at_next; go_must (refine wp_next Try.underlying3 HI.out.1 HI.out.2.2.1 ?_ ?_))
    · intro hc0 hl0
      have HN : Hid (false = q) := Lib.hid (by
        rw [← HQ.out]
        exact (Md.another_false (fun x o h1 h2 => HI.out.2.2.2 x o h1 (hl0 x (HM.out.wm.some h1).1) h2)).symm)
      clear hc0 hl0
      go_wp2_with fail
      go_ret
      exact ⟨ret_bool HN.out, K0.out.then KO.out⟩
    · intro x v w2 cnt2 hwx hlx hfx hr2 hlt k2 hs2 hen
      obtain ⟨o, vc, U, ho, rfl, hv, hU⟩ := HWO.out.wm.inv hfx
      have HV := Lib.hid (hv.keep caseE_kept k2 (fun y hy => by simp; exact HRB.out y (HWO.out.sw y (hU y hy))))
      have HR2 := Lib.hid hr2
      have HO := Lib.hid ho
      have HLT := Lib.hid hlt
      have K2 := Lib.hid k2
      have KO2 : Hid (Keeps [] w0 w2) := Lib.hid (KO.out.trans k2 (fun y hy => by simp at hy; subst hy; exact .inr (Nat.le_refl _)))
      obtain ⟨av, cv, rfl⟩ := hv.shape
      have HSTEP : Hid ((x ≠ g → Md.any o (meetsP ch sends) = false) → ∀ y o', st.waits y = some o' → (left y && !decide (y = x)) = false → y ≠ g → Md.any o' (meetsP ch sends) = false) := Lib.hid (fun hh y o' h1 h2 h3 => by
        by_cases e : y = x
        · subst e
          rw [ho] at h1
          cases h1
          exact hh h3
        · exact HI.out.2.2.2 y o' h1 (by simpa [e] using h2) h3)
      have HLF : Hid (∀ z, (left z && !decide (z = x)) = true → (f z).isSome = true) := Lib.hid (fun z hz => HI.out.2.2.1 z (by simp at hz; exact hz.1))
      clear hfx hr2 hlt k2 hs2 hv ho hU hlx
      unfold opV at hen ⊢
      cases hxg : (x != g) with
      | false =>
        have hxe : x = g := by simpa using hxg
        have HG := Lib.hid hxe
        clear hxe
        go_wp2_with fail
        go_roundw
        case rel => exact ⟨_, cnt2, Lib.hid ⟨HR2.out.then ((Keeps.refl [] w2).alloc _), (HI.out.2.1.trans K2.out (by simp)).alloc _, HLF.out, HSTEP.out (fun h => absurd HG.out h)⟩⟩
        case measure =>
          have h1 := (HR2.out.then ((Keeps.refl [] w2).alloc (.cells #[.int .i64 o.kind, .int .i64 o.ch, .int .i64 o.n, .int .i64 o.v, .slice av o.cases.length cv, .bool o.els] 33))).left_eq
          rw [h1, HI.out.1.left_eq]
          exact HLT.out
      | true =>
        have hxe : x ≠ g := by simpa using hxg
        have HG := Lib.hid hxe
        clear hxe
        go_wp2_with fail
        refine (model_anyA _ _ _ o _ U (meetsP ch sends) (HV.out.then caseE_kept ((Keeps.refl [] w2).alloc _)) (fun i s w' _ k => model_meets w' i s _ _ ch sends ((KO2.out.alloc _ |>.then k).cell HC.out (by simp)) ((KO2.out.alloc _ |>.then k).cell HDD.out (by simp)))).mono ?_
        rintro e w3 ⟨rfl, k3⟩
        have K3 := Lib.hid (((Keeps.refl [] w2).alloc _).then k3)
        clear k3
        cases han : Md.any o (meetsP ch sends) with
        | true =>
          have HN : Hid (true = q) := Lib.hid (by rw [← HQ.out]; exact (Md.another_true HO.out HG.out han).symm)
          clear hen
          go_wp2_with fail
          go_ret
          exact ⟨ret_bool HN.out, K0.out.then (KO2.out.then K3.out)⟩
        | false =>
          have HAN := Lib.hid han
          clear hen
          go_wp2_with fail
          go_roundw
          case rel => exact ⟨_, cnt2, Lib.hid ⟨HR2.out.then K3.out, (HI.out.2.1.trans K2.out (by simp)).then K3.out, HLF.out, HSTEP.out (fun _ => HAN.out)⟩⟩
          case measure =>
            have h1 := (HR2.out.then K3.out).left_eq
            rw [h1, HI.out.1.left_eq]
            exact HLT.out
end Go.Proofs.Ytopkfhmdgheghaa
