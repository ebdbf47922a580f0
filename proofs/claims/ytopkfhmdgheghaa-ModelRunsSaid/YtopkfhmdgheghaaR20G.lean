/-
  handoffref20.agrees: its contract.
  Conditions: none.
-/
import Derived.Test.YtopkfhmdgheghaaR20C
import Derived.Test.YtopkfhmdgheghaaModelU
import Derived.Test.YtopkfhmdgheghaaPlanT
namespace Go.Proofs.Ytopkfhmdgheghaa
open Go.RowKit
set_option linter.unusedVariables false
set_option linter.unusedSimpArgs false
set_option linter.unnecessarySimpa false

set_option maxRecDepth 100000 in
set_option maxHeartbeats 1600000 in
theorem ref20_agrees (w : World) (vc vw vo : Value) (st : Md.St) (r : Mr.St) (S : List Nat) (gi : Int) (a : Pn.Op) (UA : List Nat) (h : MR w vc vw r S) (hr : Mr.Rel st r) (ha : GV caseE 3 w vo a.cases UA) :
    Calls Try.prog 69 #[.agg #[vc, vw], .int .i64 gi, .agg (opV a vo)] w fun e w' => e = .returned (.bool (Md.agrees st gi a)) ∧ Keeps [] w w' := by
  obtain ⟨q, hq⟩ : ∃ q, Md.agrees st gi a = q := ⟨_, rfl⟩
  rw [hq]
  have HY : Hid ((∀ o, (gi, o) ∈ r.waits → decide (o = a) = true) → q = true) := Lib.hid (fun hy => by
    rw [← hq]; unfold Md.agrees
    cases hw : st.waits gi with
    | none => rfl
    | some o => exact hy o ((hr.2 gi o).1 hw))
  have HNO : Hid (∀ o, (gi, o) ∈ r.waits → decide (o = a) = false → q = false) := Lib.hid (fun o ho hn => by
    rw [← hq]; unfold Md.agrees
    rw [(hr.2 gi o).2 ho]
    exact hn)
  obtain ⟨ac, cc, rfl⟩ := h.1.shape
  obtain ⟨ao, cap, rfl⟩ := h.2.shape
  obtain ⟨aa, ca, rfl⟩ := ha.shape
  have HA := Lib.hid ha
  have HV := Lib.hid h.2
  have hle := h.2.le
  unfold maxLen at hle
  obtain ⟨l, hl⟩ : ∃ l, r.waits = l := ⟨_, rfl⟩
  rw [hl] at HV HY HNO hle ⊢
  obtain ⟨lc, hlc⟩ : ∃ lc, r.chans.length = lc := ⟨_, rfl⟩
  rw [hlc]
  clear h hr hq hl hlc ha
  obtain ⟨w0, hw0⟩ : ∃ w0, (w.alloc (.cells #[.slice ac lc cc, .slice ao l.length cap] 67)).alloc (.cells #[.int .i64 a.kind, .int .i64 a.ch, .int .i64 a.n, .int .i64 a.v, .slice aa a.cases.length ca, .bool a.els] 33) = w0 := ⟨_, rfl⟩
  have K0 : Hid (Keeps [] w w0) := Lib.hid (hw0 ▸ ((Keeps.refl [] w).alloc _).alloc _)
  have HOB : Hid (Blk w0 (w.heap.size + 1) [.int .i64 a.kind, .int .i64 a.ch, .int .i64 a.n, .int .i64 a.v, .slice aa a.cases.length ca, .bool a.els] 33) := Lib.hid (hw0 ▸ Blk.fresh _ [.int .i64 a.kind, .int .i64 a.ch, .int .i64 a.n, .int .i64 a.v, .slice aa a.cases.length ca, .bool a.els] _ _ (by simp))
  have HMB : Hid (Blk w0 w.heap.size [.slice ac lc cc, .slice ao l.length cap] 67) := Lib.hid (hw0 ▸ (Blk.fresh w [.slice ac lc cc, .slice ao l.length cap] _ _ rfl).alloc _)
  have m1 : w0.cell? ⟨w.heap.size, 1, none⟩ = some (.slice ao l.length cap) := HMB.out.cell 1
  unfold opV
  go_enter Try.func69, Try.ntmps69
  go_wp2_with fail
  clear hw0 m1
  go_loopw [12] (fun u wr => ∃ k : Nat, k ≤ l.length ∧ u = .int .i64 k ∧ Hid (Keeps [] w0 wr ∧ ∀ (j : Nat) p, j < k → l[j]? = some p → p.1 = gi → decide (p.2 = a) = true)) (fun u _ => l.length - (intOf u).toNat)
  case atStart => exact ⟨0, Nat.zero_le _, rfl, Lib.hid ⟨Keeps.refl _ _, fun j p hj => by omega⟩⟩
  case round =>
    obtain ⟨k, hk, rfl, HI⟩ := hrel
    obtain ⟨wo, rfl⟩ : ∃ wo : World, wo = wr := ⟨_, rfl⟩
    by_cases hlt : k < l.length
    · obtain ⟨p, hx⟩ : ∃ p, l[k]? = some p := ⟨_, List.getElem?_eq_getElem hlt⟩
      obtain ⟨g, off, ac2, cc2, U, rfl, hg, hrg, hgv, hU⟩ := wt_var (HV.out.then wtE_kept (K0.out.then HI.out.1)) hx
      obtain ⟨w3, hw3⟩ : ∃ w3, wo.alloc (.cells (wtC p (.slice ac2 p.2.cases.length cc2)).toArray 144) = w3 := ⟨_, rfl⟩
      have K3 : Hid (Keeps [] w0 w3) := Lib.hid (HI.out.1.then (hw3 ▸ (Keeps.refl [] wo).alloc _))
      have HB3 : Hid (Blk w3 wo.heap.size (wtC p (.slice ac2 p.2.cases.length cc2)) 144) := Lib.hid (hw3 ▸ Blk.fresh wo _ _ _ rfl)
      have HGV : Hid (GV caseE 3 w3 (.slice ac2 p.2.cases.length cc2) p.2.cases U) := Lib.hid (hgv.then caseE_kept (hw3 ▸ (Keeps.refl [] wo).alloc _))
      have HONE := wtC_one p ac2 p.2.cases.length cc2
      have HLT := Lib.hid hlt
      have HX := Lib.hid hx
      clear hgv hU hx
      go_upto_region 4 with (first
          | (refine wpList_load_mid rfl 144 (.tmp 14) rfl g (off + k * 7) (by rfl) _ _ hrg Try.underlying144 rfl (by kernel_rfl) ?_)
          | (refine wpList_store_mid rfl 144 (.tmp 8) (.tmp 15) rfl wo.heap.size 0 _ (by rfl) (by rfl) (there_alloc_new wo _ _ (by rfl)) (by kernel_rfl) HONE ?_; rw [alloc_setCells wo _ _ _ (by rfl), hw3])
          | fail)
      clear hw3 hrg
      obtain ⟨x0, x1, x2, x3, x4, x5, x6⟩ := HB3.out.wt
      obtain ⟨⟨b0, b1, b2, b3, b4, b5⟩, _⟩ := Blk.six (HOB.out.keep K3.out (by simp))
      cases hc : (p.1 == gi) with
      | false =>
        go_wp2_with fail
        go_roundw
        case rel =>
          refine ⟨k + 1, by have := HLT.out; omega, by go_num, Lib.hid ⟨K3.out, fun j p2 hj hp hg2 => ?_⟩⟩
          by_cases e : j = k
          · subst e
            rw [HX.out] at hp
            cases hp
            rw [hg2] at hc
            simp at hc
          · exact HI.out.2 j p2 (by omega) hp hg2
        case measure => have := HLT.out; simp [intOf]; omega
      | true =>
        have HC : Hid (p.1 = gi) := Lib.hid (by simpa using hc)
        go_wp2_with fail
        refine (ref10_sameOp _ p.2 a _ _ U UA HGV.out (HA.out.then caseE_kept (K0.out.then K3.out))).mono ?_
        obtain ⟨b, hb⟩ : ∃ b, decide (p.2 = a) = b := ⟨_, rfl⟩
        rw [hb]
        rintro e w5 ⟨rfl, k5⟩
        have HB := Lib.hid hb
        have K5 := Lib.hid (K3.out.then k5)
        clear k5 x0 x1 x2 x3 x4 x5 x6 b0 b1 b2 b3 b4 b5 hb
        cases b with
        | false =>
          have HN : Hid (q = false) := Lib.hid (HNO.out p.2 (by have := List.mem_of_getElem? HX.out; rw [← HC.out]; exact this) HB.out)
          go_wp2_with fail
          go_ret
          exact ⟨by rw [HN.out]; rfl, K0.out.then K5.out⟩
        | true =>
          go_wp2_with fail
          go_roundw
          case rel =>
            refine ⟨k + 1, by have := HLT.out; omega, by go_num, Lib.hid ⟨K5.out, fun j p2 hj hp hg2 => ?_⟩⟩
            by_cases e : j = k
            · subst e
              rw [HX.out] at hp
              cases hp
              exact HB.out
            · exact HI.out.2 j p2 (by omega) hp hg2
          case measure => have := HLT.out; simp [intOf]; omega
    · obtain rfl : k = l.length := by omega
      have hn : q = true := HY.out (fun o ho => by
        obtain ⟨j, hj⟩ := List.mem_iff_getElem?.1 ho
        exact HI.out.2 j _ (List.getElem?_eq_some_iff.1 hj).1 hj rfl)
      go_wp2_with fail
      go_ret
      exact ⟨by rw [hn]; rfl, K0.out.then HI.out.1⟩
end Go.Proofs.Ytopkfhmdgheghaa
