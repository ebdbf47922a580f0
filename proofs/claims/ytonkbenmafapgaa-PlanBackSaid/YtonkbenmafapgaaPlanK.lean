/-
  plan.Clone: its contract.
  Conditions: none.
-/
import Derived.Test.YtonkbenmafapgaaPlanF
import Derived.Test.YtonkbenmafapgaaPlanX
namespace Go.Proofs.Ytonkbenmafapgaa
open Go.RowKit
set_option linter.unusedVariables false
set_option linter.unusedSimpArgs false
set_option linter.unnecessarySimpa false

theorem GR.of_row0 {α : Type} {E : World → List Value → α → List Nat → Prop} {sz : Nat} {w : World} {v : Value} {e : TypeId} {T : List Nat} (h : Row w v e sz 0 [] T) : GR E sz w v e [] T [] :=
  ⟨[], h, fun k a h => by simp at h, by simp, by simp, by simp⟩
theorem take_one {α : Type} {C : List α} {k : Nat} {c : α} (h : C[k]? = some c) : C.take (k + 1) = C.take k ++ [c] := by
  obtain ⟨hk, rfl⟩ := List.getElem?_eq_some_iff.1 h
  rw [List.take_succ_eq_append_getElem hk]
theorem GR.flat {w : World} {v : Value} {e : TypeId} {l : List Pn.Cs} {T S : List Nat} (h : GR caseE 3 w v e l T S) : GR caseE 3 w v e l T [] := by
  obtain ⟨xs, h1, h2, h3, h4, h5⟩ := h
  exact ⟨xs, h1, fun i a hi => by obtain ⟨U, ⟨hc, rfl⟩, _⟩ := h2 i a hi; exact ⟨[], ⟨hc, rfl⟩, by simp⟩, by simp, by simp, h5⟩
def ClonePost (p : List (List Pn.Op)) (w : World) (e : Ending) (w' : World) : Prop := ∃ v S, e = .returned v ∧ GV opsE 1 w' v p S ∧ Keeps [] w w'
def CloneR (w : World) (p : List (List Pn.Op)) (k : Nat) (v : Value) (wr : World) : Prop :=
  ∃ T S, GR opsE 1 wr v 109 (p.take k) T S ∧ Keeps [] w wr ∧ (∀ x ∈ T, w.heap.size ≤ x) ∧ ∀ x ∈ S, w.heap.size ≤ x
def CloneI (w : World) (B2 : Nat) (vo : Value) (P : List (List Pn.Op)) (T S : List Nat) (l : List Pn.Op) (j : Nat) (v : Value) (wr : World) : Prop :=
  ∃ T2 S2, GR opE 6 wr v 74 (l.take j) T2 S2 ∧ GR opsE 1 wr vo 109 P T S ∧ Keeps [] w wr ∧ (∀ x ∈ T2, B2 ≤ x) ∧ (∀ x ∈ S2, B2 ≤ x) ∧ B2 ≤ wr.heap.size

set_option maxHeartbeats 3200000 in
theorem plan_clone (w : World) (v : Value) (p : List (List Pn.Op)) (S : List Nat) (h : GV opsE 1 w v p S) (hr : Pn.right p = true) : Calls Try.prog 61 #[v] w (ClonePost p w) := by
  obtain ⟨ao, cap, rfl⟩ := h.shape
  have HP := Lib.hid h
  have HSL := Lib.hid h.lt
  have hrr : 1 ≤ p.length ∧ p.length ≤ 8 ∧ ∀ l ∈ p, Pn.rightOps l = true := by unfold Pn.right at hr; rwa [decide_eq_true_iff] at hr
  obtain ⟨q1, q2, q3⟩ := hrr
  have HRW := Lib.hid q3
  clear h hr q3
  go_enter Try.func61, Try.ntmps61
  go_wp2_with (at_make; go_must (refine wp_make0 elemOps p.length (by omega) ?_ (hC := rfl)))
  intro w1 r1 k1
  have D0 : Hid (CloneR w p 0 (.slice (some ⟨w.heap.size, 0, none⟩) 0 p.length) w1) := Lib.hid ⟨[w.heap.size], [], GR.of_row0 r1, k1, by simp, by simp⟩
  clear r1 k1
  go_wp2_with fail
  go_loopw [14, 3] (fun u v wr => ∃ k : Nat, k ≤ p.length ∧ u = .int .i64 k ∧ CloneR w p k v wr) (fun u _ _ => p.length - (intOf u).toNat)
  case atStart => exact ⟨0, Nat.zero_le _, rfl, D0.out⟩
  case round =>
    obtain ⟨k, hk, rfl, T, S1, hg, kp, hT, hS1⟩ := hrel
    obtain ⟨wo, rfl⟩ : ∃ wo : World, wo = wr := ⟨_, rfl⟩
    obtain ⟨P, hPq⟩ : ∃ P, p.take k = P := ⟨_, rfl⟩
    have hPl : P.length = k := by rw [← hPq, List.length_take]; omega
    rw [hPq] at hg
    have HPL := Lib.hid hPl
    have HPQ := Lib.hid hPq
    obtain ⟨ak, ck, rfl⟩ := hg.shape
    have HG := Lib.hid hg
    have HGL := Lib.hid hg.lt
    have KP := Lib.hid kp
    have HT := Lib.hid hT
    have HS1 := Lib.hid hS1
    clear hg kp hT hS1 hPq hPl D0
    by_cases hlt : k < p.length
    · obtain ⟨l, hx⟩ : ∃ l, p[k]? = some l := ⟨_, List.getElem?_eq_getElem hlt⟩
      obtain ⟨g1, off1, _, U1, rfl, _, _, a0, ⟨v1, hv1, hux⟩, _⟩ := (HP.out.then opsE_kept KP.out).one hx
      cases hv1
      obtain ⟨am, cm, rfl⟩ := hux.shape
      have hlr : l.length ≤ 16 ∧ ∀ o ∈ l, Pn.rightOp o = true := by have h := HRW.out l (List.mem_of_getElem? hx); unfold Pn.rightOps at h; rwa [decide_eq_true_iff] at h
      obtain ⟨m1, m2⟩ := hlr
      have HM := Lib.hid m2
      have HX := Lib.hid hx
      have HU := Lib.hid hux
      have E1 : Hid (CloneI w wo.heap.size (.slice ak P.length ck) P T S1 l 0 (.slice none 0 0) wo) := Lib.hid ⟨[], [], GR.nil _ _ _ _, HG.out, KP.out, by simp, by simp, Nat.le_refl _⟩
      clear hx m2 hux
      go_wp2_with fail
      go_loopw [20, 6] (fun u v wr => ∃ j : Nat, j ≤ l.length ∧ u = .int .i64 j ∧ CloneI w wo.heap.size (.slice ak P.length ck) P T S1 l j v wr ∧ Keeps [] wo wr) (fun u _ _ => l.length - (intOf u).toNat)
      case atStart => exact ⟨0, Nat.zero_le _, rfl, E1.out, Keeps.refl _ _⟩
      case round =>
        obtain ⟨j, hj, rfl, ⟨T2, S2, hgi, hgo, kp2, hT2, hS2, hB2⟩, kwo⟩ := hrel
        obtain ⟨wi, rfl⟩ : ∃ wi : World, wi = wr := ⟨_, rfl⟩
        obtain ⟨R, hRq⟩ : ∃ R, l.take j = R := ⟨_, rfl⟩
        have hRl : R.length = j := by rw [← hRq, List.length_take]; omega
        rw [hRq] at hgi
        have HRL := Lib.hid hRl
        have HRQ := Lib.hid hRq
        obtain ⟨aj, cj, rfl⟩ := hgi.shape
        have HGI := Lib.hid hgi
        have HGO := Lib.hid hgo
        have KP2 := Lib.hid kp2
        have KWO := Lib.hid kwo
        have HT2 := Lib.hid hT2
        have HS2 := Lib.hid hS2
        clear hgi hgo kp2 kwo hT2 hS2 hRq hRl E1
        by_cases hlt2 : j < l.length
        · obtain ⟨o, ho⟩ : ∃ o, l[j]? = some o := ⟨_, List.getElem?_eq_getElem hlt2⟩
          obtain ⟨g2, off2, vc, U2, rfl, _, hg2, ⟨b0, b1, b2, b3, b4, b5⟩, hu, hsub⟩ := (HU.out.then opE_kept KWO.out).op ho
          obtain ⟨ac, cc, rfl⟩ := hu.shape
          have hcl : o.cases.length ≤ 6 := by
            have h := HM.out o (List.mem_of_getElem? ho)
            unfold Pn.rightOp at h; rw [decide_eq_true_iff] at h
            exact h.2.2.2.2.2.2.2.2.1
          have HO := Lib.hid ho
          have ka : Keeps [] wi (wi.alloc (.cells #[.int .i64 o.kind, .int .i64 o.ch, .int .i64 o.n, .int .i64 o.v, .slice ac o.cases.length cc, .bool o.els] 74)) := (Keeps.refl [] wi).alloc _
          have HUL : Hid (∀ x ∈ U2, x < wi.heap.size) := Lib.hid hu.lt
          have HUC := Lib.hid (hu.then caseE_kept ka)
          have HBO := Lib.hid (Blk.fresh wi [.int .i64 o.kind, .int .i64 o.ch, .int .i64 o.n, .int .i64 o.v, .slice ac o.cases.length cc, .bool o.els] 74 _ rfl)
          have HGI2 := Lib.hid (HGI.out.then opE_kept ka)
          have HGO2 := Lib.hid (HGO.out.then opsE_kept ka)
          have KA := Lib.hid ka
          clear ho hu hsub ka
          go_wp2_with (at_builtin; go_must (refine wp_gapps elemCase caseE_kept (GR.nil _ _ _ _) HUC.out (by simp) (by rw [List.length_nil]; omega) ?_))
          intro ao5 cap5 w5 T5 r5 k5 s5
          have r5a : GR caseE 3 w5 (.slice ao5 o.cases.length cap5) 112 o.cases T5 U2 := by simpa using r5
          have r5' := r5a.flat.gv
          rw [List.append_nil] at r5'
          have hbo5 := HBO.out.keep k5 (by simp)
          obtain ⟨⟨d0, d1, d2, d3, d4, d5⟩, f0, f1, f2, f3, f4, f5⟩ := hbo5.six
          have hz5 := k5.size
          rw [World.size_alloc] at hz5
          have hT5 : ∀ x ∈ T5, wi.heap.size + 1 ≤ x := fun x hx => by have h := s5 x hx; first | exact h | (simp at h; exact h)
          have ks : Keeps [wi.heap.size] w5 (w5.setCell ⟨wi.heap.size, 4, none⟩ (.slice ao5 o.cases.length cap5)) := (Keeps.refl _ w5).setCell (by simp) _
          have HE : Hid (opE (w5.setCell ⟨wi.heap.size, 4, none⟩ (.slice ao5 o.cases.length cap5)) [.int .i64 o.kind, .int .i64 o.ch, .int .i64 o.n, .int .i64 o.v, .slice ao5 o.cases.length cap5, .bool o.els] o T5) := Lib.hid ⟨_, rfl, r5'.keep caseE_kept ks (fun x hx hm => by simp at hm; have := hT5 x hx; omega)⟩
          have hGl := HGI.out.lt
          have hOl := HGO.out.lt
          have HGI5 := Lib.hid ((HGI2.out.then opE_kept k5).keep opE_kept ks (fun x hx hm => by simp at hm; have := hGl.1 x hx; omega) (fun x hx hm => by simp at hm; have := hGl.2 x hx; omega))
          have HGO5 := Lib.hid ((HGO2.out.then opsE_kept k5).keep opsE_kept ks (fun x hx hm => by simp at hm; have := hOl.1 x hx; omega) (fun x hx hm => by simp at hm; have := hOl.2 x hx; omega))
          have KW5 : Hid (Keeps [] w (w5.setCell ⟨wi.heap.size, 4, none⟩ (.slice ao5 o.cases.length cap5))) := Lib.hid (((KP2.out.alloc _).then k5).trans ks (fun x hx => .inr (by simp at hx; have := KP2.out.size; omega)))
          have KO5 : Hid (Keeps [] wo (w5.setCell ⟨wi.heap.size, 4, none⟩ (.slice ao5 o.cases.length cap5))) := Lib.hid (((KWO.out.alloc _).then k5).trans ks (fun x hx => .inr (by simp at hx; omega)))
          have HDV : Hid (∀ y ∈ T5, y ∉ T2) := Lib.hid (fun y hy hm => by
            have h1 := hGl.1 y hm
            have := hT5 y hy; omega)
          have HZ5 : Hid (wi.heap.size + 1 ≤ w5.heap.size) := Lib.hid hz5
          have HT5 := Lib.hid hT5
          clear r5 r5a r5' k5 s5 hbo5 hz5 ks hGl hOl hT5
          go_wp2_with (at_builtin; go_must (refine wp_gapp1 elemOp opE_kept HGI5.out HE.out rfl HDV.out (by simp [Value.oneCell']) (by rw [HRL.out]; omega) ?_))
          intro ao7 cap7 w7 T7 r7 k7 s7
          have s7' : ∀ x ∈ T7, x ∈ T2 ∨ w5.heap.size ≤ x := fun x hx => by have := s7 x hx; simpa [World.setCell] using this
          have hB5 : wo.heap.size ≤ w5.heap.size := by have := HZ5.out; omega
          have HN : Hid (CloneI w wo.heap.size (.slice ak P.length ck) P T S1 l (j + 1) (.slice ao7 (R.length + 1) cap7) w7 ∧ Keeps [] wo w7) := Lib.hid ⟨⟨T7, S2 ++ T5, (by
            have e : l.take (j + 1) = R ++ [o] := by rw [take_one HO.out, HRQ.out]
            rw [e]; exact r7), HGO5.out.keep opsE_kept k7 (fun x hx hm => by have := HT2.out x hm; have := HGL.out.1 x hx; omega) (fun x hx hm => by have := HT2.out x hm; have := HGL.out.2 x hx; omega),
            KW5.out.trans k7 (fun x hx => .inr (by have := HT2.out x hx; have := KP.out.size; omega)), fun x hx => (by
            rcases s7' x hx with h | h
            · exact HT2.out x h
            · omega), fun x hx => (by
            rcases List.mem_append.1 hx with h | h
            · exact HS2.out x h
            · have := HT5.out x h; omega), by have := k7.size; simp [World.setCell] at this; omega⟩, KO5.out.trans k7 (fun x hx => .inr (HT2.out x hx))⟩
          clear r7 k7 s7 s7'
          go_wp2_with fail
          go_roundw
          case rel => exact ⟨j + 1, by omega, by go_num, HN.out.1, HN.out.2⟩
          case measure => simp [intOf]; omega
        · obtain rfl : j = l.length := by omega
          have HRP : Hid (R = l) := Lib.hid (by rw [← HRQ.out, List.take_length])
          have HGV := Lib.hid HGI.out.gv
          have HDU : Hid (∀ y ∈ T2 ++ S2, y ∉ T) := Lib.hid (fun y hy hm => by
            have := HGL.out.1 y hm
            rcases List.mem_append.1 hy with h | h
            · have := HT2.out y h; omega
            · have := HS2.out y h; omega)
          go_wp2_with (at_builtin; go_must (refine wp_gapp1 elemOps opsE_kept HGO.out (show opsE _ [.slice aj R.length cj] R (T2 ++ S2) from ⟨_, rfl, HGV.out⟩) rfl HDU.out (by simp [Value.oneCell']) (by rw [HPL.out]; omega) ?_))
          intro ao7 cap7 w7 T7 r7 k7 s7
          have HN : Hid (CloneR w p (k + 1) (.slice ao7 (P.length + 1) cap7) w7) := Lib.hid ⟨T7, S1 ++ (T2 ++ S2), (by
            have e : p.take (k + 1) = P ++ [R] := by rw [take_one HX.out, HPQ.out, HRP.out]
            rw [e]; exact r7), KP2.out.trans k7 (fun x hx => .inr (HT.out x hx)), fun x hx => (by
            rcases s7 x hx with h | h
            · exact HT.out x h
            · have := KP2.out.size; omega), fun x hx => (by
            have := KP.out.size
            rcases List.mem_append.1 hx with h | h
            · exact HS1.out x h
            · rcases List.mem_append.1 h with h | h
              · have := HT2.out x h; omega
              · have := HS2.out x h; omega)⟩
          clear r7 k7 s7
          go_wp2_with fail
          go_roundw
          case rel => exact ⟨k + 1, by omega, by go_num, HN.out⟩
          case measure => simp [intOf]; omega
    · obtain rfl : k = p.length := by omega
      have hgv := HG.out.gv
      have HN : Hid (GV opsE 1 wo (.slice ak P.length ck) p (T ++ S1)) := Lib.hid (by
        have e : P = p := by rw [← HPQ.out, List.take_length]
        rw [e] at hgv ⊢
        exact hgv)
      clear hgv
      go_wp2_with fail
      go_ret
      exact ⟨_, _, rfl, HN.out, KP.out⟩
end Go.Proofs.Ytonkbenmafapgaa
