/-
  plan.Decode: its contract.
  Conditions: none.
-/
import Derived.Test.YtopkfhmdgheghaaPlanD
namespace Go.Proofs.Ytopkfhmdgheghaa
open Go.RowKit
set_option linter.unusedVariables false
set_option linter.unusedSimpArgs false
set_option linter.unnecessarySimpa false

theorem elemOp : Elem Try.prog 107 33 6 64 (.agg #[.int .i64 0, .int .i64 0, .int .i64 0, .int .i64 0, .slice none 0 0, .bool false]) := ⟨Try.underlying107, by kernel_rfl, rfl, by decide, by decide⟩
theorem elemOps : Elem Try.prog 36 107 1 24 (.slice none 0 0) := ⟨Try.underlying36, by kernel_rfl, rfl, by decide, by decide⟩

/-- a plan, new since w, and a number -/
def DecPost (p : List (List Pn.Op)) (n : Nat) (w : World) (e : Ending) (w' : World) : Prop :=
  ∃ v S, e = .returned (.tuple #[v, .int .i64 n]) ∧ GV opsE 1 w' v p S ∧ (∀ x ∈ S, w.heap.size ≤ x) ∧ Keeps [] w w'
/-- between two rounds: the plan so far -/
def DP (B bu bb : Nat) (l : List Int) (w : World) (k : Nat) (v : Value) (wr : World) : Prop :=
  ∃ T S, Keeps [] w wr ∧ Src B wr bu bb l (Pn.runTo (Pn.ops l) 1 k).2 ∧ GR opsE 1 wr v 107 (Pn.runTo (Pn.ops l) 1 k).1 T S ∧ (∀ x ∈ T, B ≤ x) ∧ ∀ x ∈ S, B ≤ x
/-- within a round: the row of ops so far; P: the plan so far -/
def DO (B bu bb : Nat) (l : List Int) (w : World) (v : Value) (P : List (List Pn.Op)) (T S : List Nat) (B2 i0 k : Nat) (v2 : Value) (wr : World) : Prop :=
  ∃ T2 S2, Keeps [] w wr ∧ Src B wr bu bb l (Pn.runTo (Pn.one l) i0 k).2 ∧ GR opsE 1 wr v 107 P T S ∧ GR opE 6 wr v2 33 (Pn.runTo (Pn.one l) i0 k).1 T2 S2 ∧ (∀ x ∈ T2, B2 ≤ x) ∧ (∀ x ∈ S2, B2 ≤ x) ∧ B2 ≤ wr.heap.size
section
variable {B bu bb : Nat} {l : List Int} {w wr w' : World} {v : Value} {P : List (List Pn.Op)} {T S : List Nat} {B2 i0 k : Nat} {v2 : Value}
/-- one op more -/
theorem DO.next {j : Nat} {R : List Pn.Op} {o : Pn.Op} {j' : Nat} {w3 : World} {T2 S2 T3 U : List Nat} {v3 : Value} (hR : (Pn.runTo (Pn.one l) i0 k).1 = R) (hj : (Pn.runTo (Pn.one l) i0 k).2 = j) (ho : Pn.one l j = (o, j'))
    (hB : w.heap.size ≤ B) (hB2 : B ≤ B2) (hT : ∀ x ∈ T, x < B2) (hS : ∀ x ∈ S, x < B2) (h1 : Keeps [] w w') (h2 : Src B w' bu bb l j') (h3 : GR opsE 1 w' v 107 P T S) (h5 : ∀ x ∈ T2, B2 ≤ x) (h6 : ∀ x ∈ S2 ++ U, B2 ≤ x) (hz : B2 ≤ w'.heap.size)
    (r : GR opE 6 w3 v3 33 (R ++ [o]) T3 (S2 ++ U)) (kp : Keeps T2 w' w3) (ht : ∀ x ∈ T3, x ∈ T2 ∨ w'.heap.size ≤ x) : DO B bu bb l w v P T S B2 i0 (k + 1) v3 w3 := by
  subst hR hj
  refine ⟨T3, S2 ++ U, h1.trans kp (fun x hx => .inr (by have := h5 x hx; omega)), ?_, h3.keep opsE_kept kp (fun x hx hm => by have := h5 x hm; have := hT x hx; omega) (fun x hx hm => by have := h5 x hm; have := hS x hx; omega), ?_, fun x hx => ?_, h6, Nat.le_trans hz kp.size⟩
  · show Src B w3 bu bb l (Pn.one l (Pn.runTo (Pn.one l) i0 k).2).2
    rw [ho]; exact h2.keep kp (fun x hx => by have := h5 x hx; omega)
  · show GR opE 6 w3 v3 _ ((Pn.runTo (Pn.one l) i0 k).1 ++ [(Pn.one l (Pn.runTo (Pn.one l) i0 k).2).1]) T3 (S2 ++ U)
    rw [ho]; exact r
  · rcases ht x hx with h | h
    · exact h5 x h
    · omega
/-- one row more -/
theorem DP.next {R : List Pn.Op} {j0 j : Nat} {w3 : World} {T3 U : List Nat} {v3 : Value} (hR : (Pn.runTo (Pn.ops l) 1 k).1 = P) (hj : (Pn.runTo (Pn.ops l) 1 k).2 = j0) (ho : Pn.ops l j0 = (R, j))
    (hB : w.heap.size ≤ B) (hT : ∀ x ∈ T, B ≤ x) (hS : ∀ x ∈ S, B ≤ x) (hU : ∀ x ∈ U, B ≤ x) (h1 : Keeps [] w w') (h2 : Src B w' bu bb l j) (hz : B ≤ w'.heap.size)
    (r : GR opsE 1 w3 v3 107 (P ++ [R]) T3 (S ++ U)) (kp : Keeps T w' w3) (ht : ∀ x ∈ T3, x ∈ T ∨ w'.heap.size ≤ x) : DP B bu bb l w (k + 1) v3 w3 := by
  subst hR hj
  refine ⟨T3, S ++ U, h1.trans kp (fun x hx => .inr (by have := hT x hx; omega)), ?_, ?_, fun x hx => ?_, fun x hx => ?_⟩
  · show Src B w3 bu bb l (Pn.ops l (Pn.runTo (Pn.ops l) 1 k).2).2
    rw [ho]; exact h2.keep kp hT
  · show GR opsE 1 w3 v3 _ ((Pn.runTo (Pn.ops l) 1 k).1 ++ [(Pn.ops l (Pn.runTo (Pn.ops l) 1 k).2).1]) T3 (S ++ U)
    rw [ho]; exact r
  · rcases ht x hx with h | h
    · exact hT x h
    · omega
  · rcases List.mem_append.1 hx with h | h
    · exact hS x h
    · exact hU x h
end

theorem dec_ret {r : List (List Pn.Op) × Nat} {P : List (List Pn.Op)} {j mn len : Nat} {w w' : World} {v : Value} {S : List Nat} {e : Ending} (h : r = (P, j)) (hm : min j len = mn) (he : e = .returned (.tuple #[v, .int .i64 mn])) (hg : GV opsE 1 w' v P S) (hS : ∀ x ∈ S, w.heap.size ≤ x) (k : Keeps [] w w') : DecPost r.1 (min r.2 len) w e w' := by
  subst h hm; exact ⟨v, S, he, hg, hS, k⟩

set_option maxHeartbeats 3200000 in
theorem plan_decode (w : World) (v : Value) (l : List Int) (S : List Nat) (h : GV (numE .u8) 1 w v l S) :
    Calls Try.prog 54 #[v] w (DecPost (Pn.dec l).1 (min (Pn.dec l).2 l.length) w) := by
  have hmf : ∀ (fn : Fn) (first cap : Array Value) (w : World), (Instr.makeFunc fn first cap).run Try.prog w = .ok (.func fn first cap) w := fun _ _ _ _ => rfl
  have hrg : ∀ x ∈ l, 0 ≤ x ∧ x ≤ 255 := fun x hx => wf8 (h.wf x hx)
  have HR := Lib.hid hrg
  have hr0 := Pn.byte_range hrg 0
  have HS := Lib.hid h
  obtain ⟨aob, capb, rfl⟩ := h.shape
  have HSS : Hid (Src (w.heap.size + 2) ((w.alloc (.cells #[.slice aob l.length capb] 35)).alloc (.cells #[.int .i64 0] 3)) (w.heap.size + 1) w.heap.size l 0) := Lib.hid (by
    have hlt := h.lt
    refine ⟨by rw [Nat.zero_min]; exact Blk.fresh _ [.int .i64 0] _ _ (by simp), ⟨_, S, (Blk.fresh w [.slice aob l.length capb] _ _ rfl).alloc _, h.then (numE_kept _) (((Keeps.refl [] w).alloc _).alloc _), fun hm => by have := hlt _ hm; omega, fun x hx => by have := hlt x hx; omega⟩, by omega, by omega, by omega⟩)
  obtain ⟨cnt, hcnt⟩ : ∃ cnt : Nat, Pn.byte l 0 % 8 + 1 = (cnt : Int) := ⟨(Pn.byte l 0 % 8 + 1).toNat, by omega⟩
  have HD : Hid (Pn.dec l = Pn.runTo (Pn.ops l) 1 cnt) := Lib.hid (by unfold Pn.dec; rw [show (Pn.byte l 0 % 8 + 1).toNat = cnt by omega])
  have hc8 : cnt ≤ 8 := by omega
  obtain ⟨r0, r1⟩ := hr0
  clear h hrg
  go_enter Try.func54, Try.ntmps54
  go_wp2_with fail
  refine (plan_next (w.heap.size + 2) _ _ _ l 0 HSS.out).mono ?_
  rintro e w1 ⟨rfl, s1, k1⟩
  have D0 : Hid (DP (w.heap.size + 2) (w.heap.size + 1) w.heap.size l w 0 (.slice none 0 0) w1) := Lib.hid ⟨[], [], ((((Keeps.refl [] w).alloc _).alloc _).trans k1 (by simp)), s1, GR.nil _ _ _ _, by simp, by simp⟩
  clear s1 k1
  generalize Pn.byte l 0 = x at *
  go_wp2_with fail
  go_loopw [11, 2] (fun u v wr => ∃ k : Nat, k ≤ cnt ∧ u = .int .i64 k ∧ DP (w.heap.size + 2) (w.heap.size + 1) w.heap.size l w k v wr) (fun u _ _ => cnt - (intOf u).toNat)
  case atStart => exact ⟨0, Nat.zero_le _, rfl, D0.out⟩
  case round =>
    obtain ⟨k, hk, rfl, T, S1, kp, hs, hg, hT, hS1⟩ := hrel
    obtain ⟨wo, rfl⟩ : ∃ wo : World, wo = wr := ⟨_, rfl⟩
    obtain ⟨P, hPq⟩ : ∃ P, (Pn.runTo (Pn.ops l) 1 k).1 = P := ⟨_, rfl⟩
    obtain ⟨j0, hj0⟩ : ∃ j, (Pn.runTo (Pn.ops l) 1 k).2 = j := ⟨_, rfl⟩
    rw [hPq] at hg
    rw [hj0] at hs
    have HPl : Hid (P.length = k) := Lib.hid (by rw [← hPq]; exact Pn.runTo_len _ _)
    have HPq := Lib.hid hPq
    have Hj0 := Lib.hid hj0
    have KP := Lib.hid kp
    have HSr := Lib.hid hs
    have HG := Lib.hid hg
    have HT := Lib.hid hT
    have HS1 := Lib.hid hS1
    obtain ⟨ao, cap, rfl⟩ := hg.shape
    clear hPq hj0 kp hs hg hT hS1 D0
    by_cases hlt : k < cnt
    · have hrj := Pn.byte_range HR.out j0
      obtain ⟨p0, p1⟩ := hrj
      go_wp2_with fail
      refine (plan_next _ _ _ _ l j0 HSr.out).mono ?_
      rintro e w2 ⟨rfl, s2, k2⟩
      obtain ⟨c2, hc2⟩ : ∃ c2 : Nat, Pn.byte l j0 % 17 = (c2 : Int) := ⟨(Pn.byte l j0 % 17).toNat, by omega⟩
      have HO : Hid (Pn.ops l j0 = Pn.runTo (Pn.one l) (j0 + 1) c2) := Lib.hid (by unfold Pn.ops; rw [show (Pn.byte l j0 % 17).toNat = c2 by omega])
      have hc17 : c2 ≤ 16 := by omega
      have hw0 := KP.out.size
      have hg2 := HG.out.keep opsE_kept k2 (fun x hx hm => by simp at hm; have := HT.out x hx; omega) (fun x hx hm => by simp at hm; have := HS1.out x hx; omega)
      have HLT := Lib.hid hg2.lt
      have hw2 : w.heap.size + 2 ≤ w2.heap.size := by have := s2.2.2.2.1; have := s2.1.lt; have := k2.size; have := HSr.out.1.lt; omega
      have D1 : Hid (DO (w.heap.size + 2) (w.heap.size + 1) w.heap.size l w (.slice ao P.length cap) P T S1 w2.heap.size (j0 + 1) 0 (.slice none 0 0) w2) := Lib.hid ⟨[], [], KP.out.trans k2 (fun y hy => .inr (by simp at hy; omega)), s2, hg2, GR.nil _ _ _ _, by simp, by simp, Nat.le_refl _⟩
      clear s2 k2 hg2
      generalize Pn.byte l j0 = y at *
      go_wp2_with fail
      rw [hc2]
      clear hc2 p0 p1
      go_loopw [16, 5] (fun u v wr => ∃ k2 : Nat, k2 ≤ c2 ∧ u = .int .i64 k2 ∧ DO (w.heap.size + 2) (w.heap.size + 1) w.heap.size l w (.slice ao P.length cap) P T S1 w2.heap.size (j0 + 1) k2 v wr) (fun u _ _ => c2 - (intOf u).toNat)
      case atStart => exact ⟨0, Nat.zero_le _, rfl, D1.out⟩
      case round =>
        obtain ⟨k2, hk2, rfl, T2, S2, kp2, hs2, hgo, hgi, hT2, hS2, hw2i⟩ := hrel
        obtain ⟨wi, rfl⟩ : ∃ wi : World, wi = wr := ⟨_, rfl⟩
        obtain ⟨R, hRq⟩ : ∃ R, (Pn.runTo (Pn.one l) (j0 + 1) k2).1 = R := ⟨_, rfl⟩
        obtain ⟨j, hjq⟩ : ∃ j, (Pn.runTo (Pn.one l) (j0 + 1) k2).2 = j := ⟨_, rfl⟩
        rw [hRq] at hgi
        rw [hjq] at hs2
        have HRl : Hid (R.length = k2) := Lib.hid (by rw [← hRq]; exact Pn.runTo_len _ _)
        have HRq := Lib.hid hRq
        have Hjq := Lib.hid hjq
        have KP2 := Lib.hid kp2
        have HS2r := Lib.hid hs2
        have HGO := Lib.hid hgo
        have HGI := Lib.hid hgi
        have HT2 := Lib.hid hT2
        have HS2 := Lib.hid hS2
        have hwi : w.heap.size + 2 ≤ wi.heap.size := by have := HS2r.out.1.lt; omega
        obtain ⟨ao2, cap2, rfl⟩ := hgi.shape
        clear hRq hjq kp2 hs2 hgo hgi hT2 hS2 D1
        by_cases hlt2 : k2 < c2
        · go_wp2_with fail
          refine (plan_decodeOp _ _ _ _ l j HS2r.out hwi).mono ?_
          rintro e w3 ⟨vc, U, rfl, g3, u3, s3, k3⟩
          obtain ⟨o, j', hoj⟩ : ∃ o j', Pn.one l j = (o, j') := ⟨_, _, rfl⟩
          rw [hoj] at g3 s3
          rw [hoj]
          have HOJ := Lib.hid hoj
          have hgo3 := HGO.out.keep opsE_kept k3 (fun x hx hm => by simp at hm; have := HT.out x hx; omega) (fun x hx hm => by simp at hm; have := HS1.out x hx; omega)
          have hgi3 := HGI.out.keep opE_kept k3 (fun x hx hm => by simp at hm; have := HT2.out x hx; omega) (fun x hx hm => by simp at hm; have := HS2.out x hx; omega)
          have HG3 := Lib.hid g3
          have HU3 := Lib.hid u3
          have HS3 := Lib.hid s3
          have K3 := Lib.hid k3
          have HGO3 := Lib.hid hgo3
          have HGI3 := Lib.hid hgi3
          have HDU : Hid (∀ y ∈ U, y ∉ T2) := Lib.hid (fun y hy hm => by have := HU3.out y hy; have := HGI.out.lt.1 y hm; omega)
          have hvc := g3.shape
          obtain ⟨ac, cc, rfl⟩ := hvc
          clear g3 u3 s3 k3 hgo3 hgi3 hoj
          go_wp2_with (at_builtin; go_must (refine wp_gapp1 elemOp opE_kept HGI3.out (show opE _ [.int .i64 o.kind, .int .i64 o.ch, .int .i64 o.n, .int .i64 o.v, .slice ac o.cases.length cc, .bool o.els] o U from ⟨_, rfl, HG3.out⟩) rfl HDU.out (by simp [Value.oneCell']) (by rw [HRl.out]; omega) ?_))
          intro ao7 cap7 w7 T7 r7 k7 s7
          have HN : Hid (DO (w.heap.size + 2) (w.heap.size + 1) w.heap.size l w (.slice ao P.length cap) P T S1 w2.heap.size (j0 + 1) (k2 + 1) (.slice ao7 (R.length + 1) cap7) w7) := Lib.hid (by
            have hz := K3.out.size
            exact DO.next HRq.out Hjq.out HOJ.out (by omega) hw2 HLT.out.1 HLT.out.2 (KP2.out.trans K3.out (fun y hy => .inr (by simp at hy; omega))) HS3.out HGO3.out HT2.out (fun x hx => by
              rcases List.mem_append.1 hx with h | h
              · exact HS2.out x h
              · have := HU3.out x h; omega) (by omega) r7 k7 s7)
          clear r7 k7 s7
          go_wp2_with fail
          go_roundw
          case rel => exact ⟨k2 + 1, by omega, by go_num, HN.out⟩
          case measure => simp [intOf]; omega
        · obtain rfl : k2 = c2 := by omega
          have HOJ : Hid (Pn.ops l j0 = (R, j)) := Lib.hid (by rw [HO.out]; exact Prod.ext HRq.out Hjq.out)
          have HGV := Lib.hid HGI.out.gv
          have HDU : Hid (∀ y ∈ T2 ++ S2, y ∉ T) := Lib.hid (fun y hy hm => by
            have := HLT.out.1 y hm
            rcases List.mem_append.1 hy with h | h
            · have := HT2.out y h; omega
            · have := HS2.out y h; omega)
          go_wp2_with (at_builtin; go_must (refine wp_gapp1 elemOps opsE_kept HGO.out (show opsE _ [.slice ao2 R.length cap2] R (T2 ++ S2) from ⟨_, rfl, HGV.out⟩) rfl HDU.out (by simp [Value.oneCell']) (by rw [HPl.out]; omega) ?_))
          intro ao7 cap7 w7 T7 r7 k7 s7
          have HN : Hid (DP (w.heap.size + 2) (w.heap.size + 1) w.heap.size l w (k + 1) (.slice ao7 (P.length + 1) cap7) w7) := Lib.hid (by
            exact DP.next HPq.out Hj0.out HOJ.out (by omega) HT.out HS1.out (fun x hx => by
              rcases List.mem_append.1 hx with h | h
              · have := HT2.out x h; omega
              · have := HS2.out x h; omega) KP2.out HS2r.out hwi r7 k7 s7)
          clear r7 k7 s7
          go_wp2_with fail
          go_roundw
          case rel => exact ⟨k + 1, by omega, by go_num, HN.out⟩
          case measure => simp [intOf]; omega
    · obtain rfl : k = cnt := by omega
      have hD : Pn.dec l = (P, j0) := by rw [HD.out]; exact Prod.ext HPq.out Hj0.out
      have HDE := Lib.hid hD
      have cu : wo.cell? ⟨w.heap.size + 1, 0, none⟩ = some (.int .i64 ((min j0 l.length : Nat) : Int)) := HSr.out.1.cell 0
      have fu : wo.frozen? ⟨w.heap.size + 1, 0, none⟩ = false := HSr.out.1.free 0
      clear hD
      generalize hmn : min j0 l.length = mn at *
      have HMN := Lib.hid hmn
      clear hmn
      go_wp2_with fail
      go_region
      all_goals
        go_wp2_with fail
        refine bodyPost_ret (v := .tuple #[.slice ao P.length cap, .int .i64 mn]) (by simp [results, Try.results54, go_sem, cu]) rfl ?_
        have k9 : Keeps [w.heap.size + 1] wo ((wo.setCell ⟨w.heap.size + 1, 0, none⟩ (.int .i64 mn)).drew) := ((Keeps.refl _ wo).setCell (by simp) _).drew
        have hgv := HG.out.gv.keep opsE_kept k9 (fun x hx hm => by
          simp at hm
          rcases List.mem_append.1 hx with h | h
          · have := HT.out x h; omega
          · have := HS1.out x h; omega)
        exact dec_ret HDE.out HMN.out rfl hgv (fun x hx => by
          rcases List.mem_append.1 hx with h | h
          · have := HT.out x h; omega
          · have := HS1.out x h; omega) (KP.out.trans k9 (fun x hx => .inr (by simp at hx; omega)))
end Go.Proofs.Ytopkfhmdgheghaa
