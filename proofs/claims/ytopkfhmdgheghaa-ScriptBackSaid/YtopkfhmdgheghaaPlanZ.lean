/-
  plan.Encode: its contract.
  Conditions: none.
-/
import Derived.Test.YtopkfhmdgheghaaPlanY
namespace Go.Proofs.Ytopkfhmdgheghaa
open Go.RowKit
set_option linter.unusedVariables false
set_option linter.unusedSimpArgs false
set_option linter.unnecessarySimpa false

theorem take_flat {α β : Type} (f : α → List β) {C : List α} {k : Nat} {c : α} (h : C[k]? = some c) : (C.take (k + 1)).flatMap f = (C.take k).flatMap f ++ f c := by
  obtain ⟨hk, rfl⟩ := List.getElem?_eq_some_iff.1 h
  rw [List.take_succ_eq_append_getElem hk, List.flatMap_append]; simp
theorem flat_le {α β : Type} (f : α → List β) (m : Nat) : ∀ (C : List α), (∀ c ∈ C, (f c).length ≤ m) → ∀ k, ((C.take k).flatMap f).length ≤ m * k
  | [], _, k => by simp
  | c :: C, h, 0 => by simp
  | c :: C, h, k + 1 => by
    rw [List.take_succ_cons, List.flatMap_cons, List.length_append]
    have h1 := flat_le f m C (fun x hx => h x (by simp [hx])) k
    have h2 := h c (by simp)
    rw [Nat.mul_add]; omega
namespace Pn
theorem right_rows {p : List (List Op)} (h : right p = true) : 1 ≤ p.length ∧ p.length ≤ 8 ∧ ∀ l ∈ p, rightOps l = true := by
  unfold right at h; rwa [decide_eq_true_iff] at h
theorem rows_ops {l : List Op} (h : rightOps l = true) : l.length ≤ 16 ∧ ∀ o ∈ l, rightOp o = true := by
  unfold rightOps at h; rwa [decide_eq_true_iff] at h
theorem encOp_len {o : Op} (h : rightOp o = true) : (encOp o).length ≤ 30 := by
  unfold rightOp at h
  rw [decide_eq_true_iff] at h
  obtain ⟨_, _, _, _, _, _, _, _, h9, _⟩ := h
  have hc := take_len o.cases o.cases.length
  rw [List.take_length] at hc
  unfold encOp
  simp only [List.length_cons, List.length_append]
  have e1 : (if hasCh o.kind = true then [o.ch] else []).length ≤ 1 := by split <;> simp
  have e2 : (if (o.kind == 1) = true then [o.n] else []).length ≤ 1 := by split <;> simp
  have e3 : (if hasV o.kind = true then [o.v] else []).length ≤ 1 := by split <;> simp
  have e4 : (if (o.kind == 9) = true then (o.cases.length : Int) :: flag o.els :: o.cases.flatMap encCs else []).length ≤ 20 := by
    split
    · simp only [List.length_cons]; omega
    · simp
  omega
theorem encOps_len {l : List Op} (h : rightOps l = true) : (encOps l).length ≤ 500 := by
  obtain ⟨h1, h2⟩ := rows_ops h
  have := flat_le encOp 30 l (fun o ho => encOp_len (h2 o ho)) l.length
  rw [List.take_length] at this
  unfold encOps
  rw [List.length_cons]; omega
end Pn

/-- bytes of one's own, new since w -/
def EW (w wr : World) (v : Value) (l : List Int) : Prop := ∃ Ti, KR .u8 wr v 5 l Ti ∧ Keeps [] w wr ∧ ∀ x ∈ Ti, w.heap.size ≤ x
/-- the bytes of a plan that can be; of any other the error -/
def EncodePost (p : List (List Pn.Op)) (w : World) (e : Ending) (w' : World) : Prop :=
  (Pn.right p = true ∧ ∃ v, e = .returned (.tuple #[v, .int .i64 0]) ∧ EW w w' v (Pn.enc p)) ∨ (Pn.right p = false ∧ e = .returned (.tuple #[.slice none 0 0, .int .i64 3]) ∧ Keeps [] w w')
theorem EW.next {w wr w' : World} {v' : Value} {l' : List Int} {Ti Ti' : List Nat} (h : ∀ x ∈ Ti, w.heap.size ≤ x) (h2 : Keeps [] w wr) (r : KR .u8 w' v' 5 l' Ti') (k : Keeps Ti wr w') (s : ∀ x ∈ Ti', x ∈ Ti ∨ wr.heap.size ≤ x) : EW w w' v' l' := by
  refine ⟨Ti', r, h2.trans k (fun x hx => .inr (h x hx)), fun x hx => ?_⟩
  rcases s x hx with h1 | h1
  · exact h x h1
  · have := h2.size; omega
theorem EW.then {w wr w' : World} {v : Value} {l : List Int} (h : EW w wr v l) (k : Keeps [] wr w') : EW w w' v l := by
  obtain ⟨T, h1, h2, h3⟩ := h
  exact ⟨T, h1.then k, h2.then k, h3⟩
theorem EW.eq {w wr : World} {v : Value} {l l2 : List Int} (h : EW w wr v l) (e : l = l2) : EW w wr v l2 := e ▸ h

set_option maxHeartbeats 3200000 in
theorem plan_encode (w : World) (v : Value) (p : List (List Pn.Op)) (S : List Nat) (h : GV opsE 1 w v p S) : Calls Try.prog 48 #[v] w (EncodePost p w) := by
  have hle := h.le
  unfold maxLen at hle
  obtain ⟨ao, cap, rfl⟩ := h.shape
  have HP := Lib.hid h
  have HSL := Lib.hid h.lt
  clear h
  cases hr : Pn.right p with
  | false =>
    have HR := Lib.hid hr
    go_enter Try.func48, Try.ntmps48
    go_wp2_with fail
    refine (plan_right _ _ p S HP.out).mono ?_
    rintro e w1 ⟨rfl, k1⟩
    rw [hr]
    have K1 := Lib.hid k1
    clear k1 hr
    go_wp2_with fail
    go_ret2
    exact .inr ⟨HR.out, rfl, K1.out⟩
  | true =>
    have HR := Lib.hid hr
    obtain ⟨q1, q2, q3⟩ := Pn.right_rows hr
    have HRW := Lib.hid q3
    clear q3
    go_enter Try.func48, Try.ntmps48
    go_wp2_with fail
    refine (plan_right _ _ p S HP.out).mono ?_
    rintro e w1 ⟨rfl, k1⟩
    rw [hr]
    have K1 := Lib.hid k1
    have D0 : Hid (EW w (w1.alloc (.cells #[.int .u8 ((p.length : Int) - 1)] 5)) (.slice (some ⟨w1.heap.size, 0, none⟩) 1 1) [(p.length : Int) - 1]) := Lib.hid ⟨[w1.heap.size], KR.lit .u8 w1 [(p.length : Int) - 1] _ _ rfl (by simp), k1.alloc _, fun x hx => by have := k1.size; simp at hx; omega⟩
    clear k1 hr
    go_wp2_with fail
    go_loopw [19, 4] (fun u v wr => ∃ k : Nat, k ≤ p.length ∧ u = .int .i64 k ∧ EW w wr v (((p.length : Int) - 1) :: (p.take k).flatMap Pn.encOps)) (fun u _ _ => p.length - (intOf u).toNat)
    case atStart => exact ⟨0, Nat.zero_le _, rfl, D0.out⟩
    case round =>
      obtain ⟨k, hk, rfl, Ti, hkr, hkp, hti⟩ := hrel
      obtain ⟨wo, rfl⟩ : ∃ wo : World, wo = wr := ⟨_, rfl⟩
      have htl := flat_le Pn.encOps 500 p (fun l hl => Pn.encOps_len (HRW.out l hl)) k
      obtain ⟨lk, hlk⟩ : ∃ z, ((p.length : Int) - 1) :: (p.take k).flatMap Pn.encOps = z := ⟨_, rfl⟩
      have hblk : lk.length ≤ 5000 := by rw [← hlk, List.length_cons]; omega
      rw [hlk] at hkr
      obtain ⟨ak, ck, rfl⟩ := hkr.shape
      have HLK := Lib.hid hlk
      have HK := Lib.hid hkr
      have KP := Lib.hid hkp
      have HT := Lib.hid hti
      clear hkr hkp hti hlk htl D0
      by_cases hlt : k < p.length
      · obtain ⟨l, hx⟩ : ∃ l, p[k]? = some l := ⟨_, List.getElem?_eq_getElem hlt⟩
        obtain ⟨g1, off1, _, U1, rfl, _, _, a0, ⟨v1, hv1, hux⟩, _⟩ := (HP.out.then opsE_kept KP.out).one hx
        cases hv1
        obtain ⟨am, cm, rfl⟩ := hux.shape
        obtain ⟨m1, m2⟩ := Pn.rows_ops (HRW.out l (List.mem_of_getElem? hx))
        have HM := Lib.hid m2
        have HX := Lib.hid hx
        clear hx m2
        have HU : Hid (∀ wr, Keeps [] w wr → ∃ U, GV opE 6 wr (.slice am l.length cm) l U ∧ ∀ x ∈ U, x < w.heap.size) := Lib.hid (fun wr kw => by
          obtain ⟨g2, off2, v2, U2, e1, _, _, c2, ⟨v3, hv3, hu3⟩, hU⟩ := (HP.out.then opsE_kept kw).one HX.out
          cases hv3
          cases e1
          have c1 := (HP.out.then opsE_kept (Keeps.refl [] w)).one HX.out
          obtain ⟨g4, off4, v4, U4, e4, _, h4, c4, ⟨v5, hv5, hu5⟩, hU5⟩ := c1
          cases hv5
          cases e4
          have e5 := KP.out.cell c4 (by simp)
          rw [a0] at e5
          cases e5
          exact ⟨U4, hu5.then opE_kept kw, fun x hx => HSL.out x (hU5 x hx)⟩)
        clear hux
        go_wp2_with (at_builtin; go_must (refine wp_appk1 elemByte HK.out (by omega) ?_))
        intro ao1 cap1 w1' T1 r1 k1 s1
        obtain ⟨l0, hl0⟩ : ∃ z, lk ++ [(l.length : Int)] = z := ⟨_, rfl⟩
        have hb0 : l0.length ≤ 5001 := by rw [← hl0]; simp; omega
        rw [hl0] at r1
        have HL0 := Lib.hid hl0
        generalize Value.slice ao1 (lk.length + 1) cap1 = v1 at *
        have E1 := Lib.hid (EW.next HT.out KP.out r1 k1 s1)
        clear r1 k1 s1 hl0
        go_wp2_with fail
        go_loopw [31, 4] (fun u v wr => ∃ j : Nat, j ≤ l.length ∧ u = .int .i64 j ∧ EW w wr v (l0 ++ (l.take j).flatMap Pn.encOp)) (fun u _ _ => l.length - (intOf u).toNat)
        case atStart => exact ⟨0, Nat.zero_le _, rfl, by simpa using E1.out⟩
        case round =>
          obtain ⟨j, hj, rfl, Tj, hkr, hkp, hti⟩ := hrel
          obtain ⟨wi, rfl⟩ : ∃ wi : World, wi = wr := ⟨_, rfl⟩
          have htl := flat_le Pn.encOp 30 l (fun o ho => Pn.encOp_len (HM.out o ho)) j
          obtain ⟨lj, hlj⟩ : ∃ z, l0 ++ (l.take j).flatMap Pn.encOp = z := ⟨_, rfl⟩
          have hblj : lj.length ≤ 10000 := by rw [← hlj, List.length_append]; omega
          rw [hlj] at hkr
          obtain ⟨aj, cj, rfl⟩ := hkr.shape
          have HLJ := Lib.hid hlj
          have HKJ := Lib.hid hkr
          have KPJ := Lib.hid hkp
          have HTJ := Lib.hid hti
          clear hkr hkp hti hlj htl E1
          by_cases hlt2 : j < l.length
          · obtain ⟨o, ho⟩ : ∃ o, l[j]? = some o := ⟨_, List.getElem?_eq_getElem hlt2⟩
            obtain ⟨UR, hur, hul⟩ := HU.out wi KPJ.out
            obtain ⟨g2, off2, vc, U2, rfl, _, hg2, ⟨b0, b1, b2, b3, b4, b5⟩, hu, hsub⟩ := hur.op ho
            obtain ⟨ac, cc, rfl⟩ := hu.shape
            have HRO := Lib.hid (HM.out o (List.mem_of_getElem? ho))
            have HO := Lib.hid ho
            have HG := Lib.hid (hu.then caseE_kept ((Keeps.refl [] wi).alloc (.cells #[.int .i64 o.kind, .int .i64 o.ch, .int .i64 o.n, .int .i64 o.v, .slice ac o.cases.length cc, .bool o.els] 33)))
            have HDJ : Hid (∀ x ∈ U2, x ∉ Tj) := Lib.hid (fun x hx hm => by have h1 := hul x (hsub x hx); have h2 := HTJ.out x hm; omega)
            clear ho hu hur hul hsub
            go_wp2_with fail
            refine (plan_encodeOp _ o _ _ lj Tj U2 (HKJ.out.then ((Keeps.refl [] wi).alloc _)) HG.out HDJ.out HRO.out (by omega)).mono ?_
            rintro e w3 ⟨v3, T3, rfl, r3, k3, s3⟩
            have E3 : Hid (EW w w3 v3 (l0 ++ (l.take (j + 1)).flatMap Pn.encOp)) := Lib.hid ((EW.next HTJ.out (KPJ.out.alloc _) r3 k3 s3).eq (by rw [take_flat _ HO.out, ← HLJ.out]; simp))
            clear r3 k3 s3
            go_wp2_with fail
            go_roundw
            case rel => exact ⟨j + 1, by omega, by go_num, E3.out⟩
            case measure => simp [intOf]; omega
          · obtain rfl : j = l.length := by omega
            have HN : Hid (EW w wi (.slice aj lj.length cj) (((p.length : Int) - 1) :: (p.take (k + 1)).flatMap Pn.encOps)) := Lib.hid (EW.eq ⟨Tj, HKJ.out, KPJ.out, HTJ.out⟩ (by
              rw [take_flat _ HX.out, ← HLJ.out, ← HL0.out, ← HLK.out, List.take_length]; simp [Pn.encOps]))
            go_wp2_with fail
            go_roundw
            case rel => exact ⟨k + 1, by omega, by go_num, HN.out⟩
            case measure => simp [intOf]; omega
      · obtain rfl : k = p.length := by omega
        have HN : Hid (EW w wo (.slice ak lk.length ck) (Pn.enc p)) := Lib.hid (EW.eq ⟨Ti, HK.out, KP.out, HT.out⟩ (by rw [← HLK.out, List.take_length]; rfl))
        go_wp2_with fail
        go_ret2
        exact .inl ⟨HR.out, _, rfl, HN.out⟩
end Go.Proofs.Ytopkfhmdgheghaa
