/-
  handoffref10.Decode: its contract.
  Conditions: none.
-/
import Derived.Test.YtopkfhmdgheghaaPlanF
import Derived.Test.YtopkfhmdgheghaaPlanO
namespace Go.Proofs.Ytopkfhmdgheghaa
open Go.RowKit
set_option linter.unusedVariables false
set_option linter.unusedSimpArgs false
set_option linter.unnecessarySimpa false

theorem one_le (l : List Int) (i : Nat) : (Pn.one l i).2 ≤ i + 21 := by
  have h7 : (Pn.byte l (i + 1) % 7).toNat < 7 := by omega
  have hr := Pn.runTo_ge (cs1_le l) (i + 3) (Pn.byte l (i + 1) % 7).toNat
  unfold Pn.one
  split
  · simp
  · split
    · simp
    · split
      · simp only; omega
      · simp
theorem ops_le (l : List Int) (i : Nat) : (Pn.ops l i).2 ≤ i + 337 := by
  have h7 : (Pn.byte l i % 17).toNat < 17 := by omega
  have hr := Pn.runTo_ge (one_le l) (i + 1) (Pn.byte l i % 17).toNat
  unfold Pn.ops
  omega

def RQ (l : List Int) (w : World) (k : Nat) (iv v : Value) (wr : World) : Prop :=
  ∃ T S, Keeps [] w wr ∧ GR opsE 1 wr v 107 (Pn.runTo (Pn.ops l) 1 k).1 T S ∧ (∀ x ∈ T, w.heap.size ≤ x) ∧ (∀ x ∈ S, w.heap.size ≤ x) ∧ iv = .int .i64 ((Pn.runTo (Pn.ops l) 1 k).2 : Nat)
def RO (l : List Int) (w : World) (v : Value) (P : List (List Pn.Op)) (T S : List Nat) (B2 i0 k : Nat) (iv v2 : Value) (wr : World) : Prop :=
  ∃ T2 S2, Keeps [] w wr ∧ GR opsE 1 wr v 107 P T S ∧ GR opE 6 wr v2 33 (Pn.runTo (Pn.one l) i0 k).1 T2 S2 ∧ (∀ x ∈ T2, B2 ≤ x) ∧ (∀ x ∈ S2, B2 ≤ x) ∧ B2 ≤ wr.heap.size ∧ iv = .int .i64 ((Pn.runTo (Pn.one l) i0 k).2 : Nat)
section
variable {l : List Int} {w wr w' : World} {v : Value} {P : List (List Pn.Op)} {T S : List Nat} {B2 i0 k : Nat} {v2 iv : Value}
theorem RO.next {j : Nat} {R : List Pn.Op} {o : Pn.Op} {j' : Nat} {w3 : World} {T2 S2 T3 U : List Nat} {v3 : Value} (hR : (Pn.runTo (Pn.one l) i0 k).1 = R) (hj : (Pn.runTo (Pn.one l) i0 k).2 = j) (ho : Pn.one l j = (o, j'))
    (hB2 : w.heap.size ≤ B2) (hT : ∀ x ∈ T, x < B2) (hS : ∀ x ∈ S, x < B2) (h1 : Keeps [] w w') (h3 : GR opsE 1 w' v 107 P T S) (h5 : ∀ x ∈ T2, B2 ≤ x) (h6 : ∀ x ∈ S2 ++ U, B2 ≤ x) (hz : B2 ≤ w'.heap.size)
    (r : GR opE 6 w3 v3 33 (R ++ [o]) T3 (S2 ++ U)) (kp : Keeps T2 w' w3) (ht : ∀ x ∈ T3, x ∈ T2 ∨ w'.heap.size ≤ x) (hi : iv = .int .i64 (j' : Int)) : RO l w v P T S B2 i0 (k + 1) iv v3 w3 := by
  subst hR hj
  refine ⟨T3, S2 ++ U, h1.trans kp (fun x hx => .inr (by have := h5 x hx; omega)), h3.keep opsE_kept kp (fun x hx hm => by have := h5 x hm; have := hT x hx; omega) (fun x hx hm => by have := h5 x hm; have := hS x hx; omega), ?_, fun x hx => ?_, h6, Nat.le_trans hz kp.size, ?_⟩
  · show GR opE 6 w3 v3 _ ((Pn.runTo (Pn.one l) i0 k).1 ++ [(Pn.one l (Pn.runTo (Pn.one l) i0 k).2).1]) T3 (S2 ++ U)
    rw [ho]; exact r
  · rcases ht x hx with h | h
    · exact h5 x h
    · omega
  · show iv = .int .i64 ((Pn.one l (Pn.runTo (Pn.one l) i0 k).2).2 : Nat)
    rw [ho]; exact hi
theorem RQ.next {R : List Pn.Op} {j0 j : Nat} {w3 : World} {T3 U : List Nat} {v3 : Value} (hR : (Pn.runTo (Pn.ops l) 1 k).1 = P) (hj : (Pn.runTo (Pn.ops l) 1 k).2 = j0) (ho : Pn.ops l j0 = (R, j))
    (hT : ∀ x ∈ T, w.heap.size ≤ x) (hS : ∀ x ∈ S, w.heap.size ≤ x) (hU : ∀ x ∈ U, w.heap.size ≤ x) (h1 : Keeps [] w w')
    (r : GR opsE 1 w3 v3 107 (P ++ [R]) T3 (S ++ U)) (kp : Keeps T w' w3) (ht : ∀ x ∈ T3, x ∈ T ∨ w'.heap.size ≤ x) (hi : iv = .int .i64 (j : Int)) : RQ l w (k + 1) iv v3 w3 := by
  subst hR hj
  have hz := h1.size
  refine ⟨T3, S ++ U, h1.trans kp (fun x hx => .inr (hT x hx)), ?_, fun x hx => ?_, fun x hx => ?_, ?_⟩
  · show GR opsE 1 w3 v3 _ ((Pn.runTo (Pn.ops l) 1 k).1 ++ [(Pn.ops l (Pn.runTo (Pn.ops l) 1 k).2).1]) T3 (S ++ U)
    rw [ho]; exact r
  · rcases ht x hx with h | h
    · exact hT x h
    · omega
  · rcases List.mem_append.1 hx with h | h
    · exact hS x h
    · exact hU x h
  · show iv = .int .i64 ((Pn.ops l (Pn.runTo (Pn.ops l) 1 k).2).2 : Nat)
    rw [ho]; exact hi
end

set_option maxHeartbeats 3200000 in
theorem ref10_decode (w : World) (v : Value) (l : List Int) (S : List Nat) (h : GV (numE .u8) 1 w v l S) :
    Calls Try.prog 56 #[v] w (DecPost (Pn.dec l).1 (min (Pn.dec l).2 l.length) w) := by
  have hrg : ∀ x ∈ l, 0 ≤ x ∧ x ≤ 255 := fun x hx => wf8 (h.wf x hx)
  have hle := h.le
  unfold maxLen at hle
  have HR := Lib.hid hrg
  have hr0 := Pn.byte_range hrg 0
  have HS := Lib.hid h
  have HLT := Lib.hid h.lt
  obtain ⟨aob, capb, rfl⟩ := h.shape
  obtain ⟨cnt, hcnt⟩ : ∃ cnt : Nat, Pn.byte l 0 % 8 + 1 = (cnt : Int) := ⟨(Pn.byte l 0 % 8 + 1).toNat, by omega⟩
  have HD : Hid (Pn.dec l = Pn.runTo (Pn.ops l) 1 cnt) := Lib.hid (by unfold Pn.dec; rw [show (Pn.byte l 0 % 8 + 1).toNat = cnt by omega])
  have hc8 : cnt ≤ 8 := by omega
  obtain ⟨r0, r1⟩ := hr0
  obtain ⟨x, hx⟩ : ∃ x, Pn.byte l 0 = x := ⟨_, rfl⟩
  rw [hx] at r0 r1 hcnt
  have HX := Lib.hid hx
  have D0 : Hid (RQ l w 0 (.int .i64 1) (.slice (some ⟨w.heap.size, 0, none⟩) 0 0) (w.alloc (.cells #[] 107))) := Lib.hid ⟨[w.heap.size], [], (Keeps.refl [] w).alloc _, GR.lit _ _ w _ _ rfl, by simp, by simp, rfl⟩
  clear h hrg hx
  go_enter Try.func56, Try.ntmps56
  go_wp2_with fail
  go_loopw [6, 5, 4] (fun u iv v wr => ∃ k : Nat, k ≤ cnt ∧ u = .int .i64 k ∧ RQ l w k iv v wr) (fun u _ _ _ => cnt - (intOf u).toNat)
  case atStart => exact ⟨0, Nat.zero_le _, rfl, D0.out⟩
  case round =>
    obtain ⟨k, hk, rfl, T, S1, kp, hg, hT, hS1, rfl⟩ := hrel
    obtain ⟨wo, rfl⟩ : ∃ wo : World, wo = wr := ⟨_, rfl⟩
    obtain ⟨P, hPq⟩ : ∃ P, (Pn.runTo (Pn.ops l) 1 k).1 = P := ⟨_, rfl⟩
    have hjb := Pn.runTo_ge (ops_le l) 1 k
    obtain ⟨j0, hj0⟩ : ∃ j, (Pn.runTo (Pn.ops l) 1 k).2 = j := ⟨_, rfl⟩
    rw [hPq] at hg
    rw [hj0] at hjb
    have hj0b : j0 ≤ 5000 := by omega
    rw [hj0]
    have HPl : Hid (P.length = k) := Lib.hid (by rw [← hPq]; exact Pn.runTo_len _ _)
    have HPq := Lib.hid hPq
    have Hj0 := Lib.hid hj0
    have KP := Lib.hid kp
    have HV := Lib.hid (HS.out.then (numE_kept _) kp)
    have HG := Lib.hid hg
    have HT := Lib.hid hT
    have HS1 := Lib.hid hS1
    obtain ⟨ao, cap, rfl⟩ := hg.shape
    clear hPq hj0 kp hg hT hS1 D0 hjb
    go_wp2_with fail
    refine (ref10_at_of _ _ l S _ 0 rfl HV.out).mono ?_
    rintro e w2 ⟨rfl, rfl⟩
    rw [HX.out]
    by_cases hlt : k < cnt
    · have hrj := Pn.byte_range HR.out j0
      obtain ⟨p0, p1⟩ := hrj
      go_wp2_with fail
      refine (ref10_at_of _ _ l S _ j0 rfl (HV.out.then (numE_kept _) ((Keeps.refl [] wo).alloc _))).mono ?_
      rintro e w2 ⟨rfl, hw2⟩
      obtain ⟨c2, hc2⟩ : ∃ c2 : Nat, Pn.byte l j0 % 17 = (c2 : Int) := ⟨(Pn.byte l j0 % 17).toNat, by omega⟩
      have HO : Hid (Pn.ops l j0 = Pn.runTo (Pn.one l) (j0 + 1) c2) := Lib.hid (by unfold Pn.ops; rw [show (Pn.byte l j0 % 17).toNat = c2 by omega])
      have hc17 : c2 ≤ 16 := by omega
      have hw0 := KP.out.size
      have hlt0 := Lib.hid HG.out.lt
      have D1 : Hid (RO l w (.slice ao P.length cap) P T S1 wo.heap.size (j0 + 1) 0 (.int .i64 ((j0 : Int) + 1)) (.slice (some ⟨wo.heap.size, 0, none⟩) 0 0) w2) := Lib.hid (by
        rw [← hw2]
        refine ⟨[wo.heap.size], [], KP.out.alloc _, HG.out.then opsE_kept ((Keeps.refl [] wo).alloc _), GR.lit _ _ wo _ _ rfl, by simp, by simp, by simp, by simp [Pn.runTo]⟩)
      clear hw2
      generalize Pn.byte l j0 = y at *
      go_wp2_with fail
      rw [hc2]
      clear hc2 p0 p1
      go_loopw [9, 5, 7] (fun u iv v wr => ∃ k2 : Nat, k2 ≤ c2 ∧ u = .int .i64 k2 ∧ RO l w (.slice ao P.length cap) P T S1 wo.heap.size (j0 + 1) k2 iv v wr) (fun u _ _ _ => c2 - (intOf u).toNat)
      case atStart => exact ⟨0, Nat.zero_le _, rfl, D1.out⟩
      case round =>
        obtain ⟨k2, hk2, rfl, T2, S2, kp2, hgo, hgi, hT2, hS2, hw2i, rfl⟩ := hrel
        obtain ⟨wi, rfl⟩ : ∃ wi : World, wi = wr := ⟨_, rfl⟩
        obtain ⟨R, hRq⟩ : ∃ R, (Pn.runTo (Pn.one l) (j0 + 1) k2).1 = R := ⟨_, rfl⟩
        have hjb := Pn.runTo_ge (one_le l) (j0 + 1) k2
        obtain ⟨j, hjq⟩ : ∃ j, (Pn.runTo (Pn.one l) (j0 + 1) k2).2 = j := ⟨_, rfl⟩
        rw [hRq] at hgi
        rw [hjq] at hjb
        have hjb2 : j ≤ 10000 := by omega
        rw [hjq]
        have HRl : Hid (R.length = k2) := Lib.hid (by rw [← hRq]; exact Pn.runTo_len _ _)
        have HRq := Lib.hid hRq
        have Hjq := Lib.hid hjq
        have KP2 := Lib.hid kp2
        have HV2 := Lib.hid (HS.out.then (numE_kept _) kp2)
        have HGO := Lib.hid hgo
        have HGI := Lib.hid hgi
        have HT2 := Lib.hid hT2
        have HS2 := Lib.hid hS2
        obtain ⟨ao2, cap2, rfl⟩ := hgi.shape
        clear hRq hjq kp2 hgo hgi hT2 hS2 D1 hjb
        by_cases hlt2 : k2 < c2
        · go_wp2_with fail
          refine (ref10_one _ _ l S _ j rfl (by omega) HV2.out).mono ?_
          rintro e w3 ⟨vc, U, rfl, g3, u3, k3⟩
          obtain ⟨o, j', hoj⟩ : ∃ o j', Pn.one l j = (o, j') := ⟨_, _, rfl⟩
          rw [hoj] at g3
          rw [hoj]
          have HOJ := Lib.hid hoj
          have hgo3 := HGO.out.then opsE_kept k3
          have hgi3 := HGI.out.then opE_kept k3
          have ka : Keeps [] w3 (w3.alloc (.cells #[.int .i64 o.kind, .int .i64 o.ch, .int .i64 o.n, .int .i64 o.v, vc, .bool o.els] 33)) := (Keeps.refl [] w3).alloc _
          have HG3 := Lib.hid (g3.then caseE_kept ka)
          have HU3 := Lib.hid u3
          have K3 := Lib.hid (k3.then ka)
          have HGO3 := Lib.hid (hgo3.then opsE_kept ka)
          have HGI3 := Lib.hid (hgi3.then opE_kept ka)
          have HDU : Hid (∀ y ∈ U, y ∉ T2) := Lib.hid (fun y hy hm => by have := HU3.out y hy; have := HGI.out.lt.1 y hm; omega)
          have hvc := g3.shape
          obtain ⟨ac, cc, rfl⟩ := hvc
          clear g3 u3 k3 hgo3 hgi3 hoj ka
          go_wp2_with (at_builtin; go_must (refine wp_gapp1 elemOp opE_kept HGI3.out (show opE _ [.int .i64 o.kind, .int .i64 o.ch, .int .i64 o.n, .int .i64 o.v, .slice ac o.cases.length cc, .bool o.els] o U from ⟨_, rfl, HG3.out⟩) rfl HDU.out (by simp [Value.oneCell']) (by rw [HRl.out]; omega) ?_))
          intro ao7 cap7 w7 T7 r7 k7 s7
          have HN : Hid (RO l w (.slice ao P.length cap) P T S1 wo.heap.size (j0 + 1) (k2 + 1) (.int .i64 j') (.slice ao7 (R.length + 1) cap7) w7) := Lib.hid (by
            have hz := K3.out.size
            exact RO.next HRq.out Hjq.out HOJ.out (by omega) hlt0.out.1 hlt0.out.2 (KP2.out.then K3.out) HGO3.out HT2.out (fun x hx => by
              rcases List.mem_append.1 hx with h | h
              · exact HS2.out x h
              · have := HU3.out x h; omega) (by omega) r7 k7 (fun x hx => by have := s7 x hx; simpa using this) rfl)
          clear r7 k7 s7
          go_wp2_with fail
          go_roundw
          case rel => exact ⟨k2 + 1, by omega, by go_num, HN.out⟩
          case measure => simp [intOf]; omega
        · obtain rfl : k2 = c2 := by omega
          have HOJ : Hid (Pn.ops l j0 = (R, j)) := Lib.hid (by rw [HO.out]; exact Prod.ext HRq.out Hjq.out)
          have HGV := Lib.hid HGI.out.gv
          have HDU : Hid (∀ y ∈ T2 ++ S2, y ∉ T) := Lib.hid (fun y hy hm => by
            have := hlt0.out.1 y hm
            rcases List.mem_append.1 hy with h | h
            · have := HT2.out y h; omega
            · have := HS2.out y h; omega)
          go_wp2_with (at_builtin; go_must (refine wp_gapp1 elemOps opsE_kept HGO.out (show opsE _ [.slice ao2 R.length cap2] R (T2 ++ S2) from ⟨_, rfl, HGV.out⟩) rfl HDU.out (by simp [Value.oneCell']) (by rw [HPl.out]; omega) ?_))
          intro ao7 cap7 w7 T7 r7 k7 s7
          have HN : Hid (RQ l w (k + 1) (.int .i64 j) (.slice ao7 (P.length + 1) cap7) w7) := Lib.hid (by
            exact RQ.next HPq.out Hj0.out HOJ.out HT.out HS1.out (fun x hx => by
              rcases List.mem_append.1 hx with h | h
              · have := HT2.out x h; omega
              · have := HS2.out x h; omega) KP2.out r7 k7 s7 rfl)
          clear r7 k7 s7
          go_wp2_with fail
          go_roundw
          case rel => exact ⟨k + 1, by omega, by go_num, HN.out⟩
          case measure => simp [intOf]; omega
    · obtain rfl : k = cnt := by omega
      have hD : Pn.dec l = (P, j0) := by rw [HD.out]; exact Prod.ext HPq.out Hj0.out
      have HDE := Lib.hid hD
      clear hD
      go_wp2_with fail
      all_goals
        go_ret2
        first
          | exact dec_ret HDE.out (show min j0 l.length = j0 by omega) rfl HG.out.gv (fun x hx => (List.mem_append.1 hx).elim (HT.out x) (HS1.out x)) KP.out
          | exact dec_ret HDE.out (show min j0 l.length = l.length by omega) rfl HG.out.gv (fun x hx => (List.mem_append.1 hx).elim (HT.out x) (HS1.out x)) KP.out
end Go.Proofs.Ytopkfhmdgheghaa
